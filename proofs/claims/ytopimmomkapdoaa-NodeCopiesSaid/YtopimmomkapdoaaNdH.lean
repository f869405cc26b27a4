/- Nodes that are taken of bytes at a place: what the reference answers. -/
import Derived.Test.YtopimmomkapdoaaNdG
namespace Go.Proofs.Ytopimmomkapdoaa
open Go.RowKit
attribute [local irreducible] Y Ef WL WC WK WQ WM OpM WN WF OpN WJ OpJ
open Wire Nd
theorem take4 {l : List UInt8} {p : Nat} (h : p + 4 ≤ l.length) : (l.drop p).take 4 = [l.getD p 0, l.getD (p + 1) 0, l.getD (p + 2) 0, l.getD (p + 3) 0] := by
  rw [drop_cons (show p < l.length by omega), drop_cons (show p + 1 < l.length by omega), drop_cons (show p + 1 + 1 < l.length by omega), drop_cons (show p + 1 + 1 + 1 < l.length by omega)]
  rfl
theorem nb4 (a b c d : UInt8) : nb [a, b, c, d] = ((a.toNat * 256 + b.toNat) * 256 + c.toNat) * 256 + d.toNat := by simp [nb]
theorem Bs.cellAt {w : World} {b off n : Nat} {xs : List UInt8} (h : Bs w (some ⟨b, off, none⟩) n xs) {k : Nat} (hk : k < n) : w.cell? ⟨b, off + k, none⟩ = some (.int .u8 ((xs.getD k 0).toNat : Int)) := by
  obtain ⟨b', o', e, _, hc⟩ := h.get hk
  injection e with e
  injection e with e1 e2 _
  subst e1; subst e2
  exact hc
def NodeS (A : Option Addr) (n : Nat) (b : List UInt8) (base : Nat) (w : World) (cs : Array Value) (x : Node) : Prop := NodeC (fun h xs => Sub A n b h.A h.n xs) (fun h zs => Fz base w h.A h.n zs) cs x
theorem NodeS.at {A : Option Addr} {n base : Nat} {b : List UInt8} {cs : Array Value} {x : Node} {w : World} (h : NodeS A n b base w cs x) (HA : Bs w A n b) : NodeAt w cs x := NodeC.imp h (fun _ _ s => s w HA) (fun _ _ z => z.1)
theorem NodeS.zero (A : Option Addr) (n : Nat) (b : List UInt8) (base : Nat) (w : World) : NodeS A n b base w zNodeV Node.zero :=
  ⟨nilH, nilH, nilH, nilH, nilH, nilH, nilH, nilH, rfl, by decide, by decide, Sub.nil _ _ _, Sub.nil _ _ _, Sub.nil _ _ _, Sub.nil _ _ _, Sub.nil _ _ _, Sub.nil _ _ _, Sub.nil _ _ _, Fz.nil _ _ _⟩
set_option maxHeartbeats 1000000 in
theorem rtake16_any {A : Option Addr} {n c at_ : Nat} {b : List UInt8} {s : St} (w : World) (HA : Bs w A n b) (hc : n ≤ c) (hn : n ≤ 1000000) (hat : at_ ≤ n) (hs : s = .ok (b.drop at_)) :
    Calls Try.prog 12 #[.slice A n c, .int .i64 (at_ : Int)] w fun e w' => ∃ cs nx, e = .returned (.tuple #[.agg cs, .int .i64 ((nx : Nat) : Int), .int .i64 (((nodeX s).1.2 : Nat) : Int)]) ∧ NodeS A n b w.heap.size w' cs (nodeX s).1.1 ∧ ((nodeX s).1.2 = 0 → (nodeX s).2 = .ok (b.drop nx) ∧ nx ≤ n) ∧ Ext w w' := by
  have F := Chs.refl [] w
  have J0 : Kp w.heap.size [] (fun w => Bs w A n b) w := Kp.bs HA (by simp)
  have hbl := HA.1
  refine vc_enterctt (s := 10) 146 Try.func12 rfl rfl rfl Try.underlying30 rfl (by kernel_rfl) rfl ?_
  intro Q hret
  refine wc_seq ?_; intro K1 hK1
  refine wc_region ?_
  refine wl_ef (ef_alloc (Z := #[.int .u8 0, .slice none 0 0, .slice none 0 0, .slice none 0 0, .int .u8 0, .slice none 0 0, .slice none 0 0, .slice none 0 0, .slice none 0 0, .slice none 0 0]) (by kernel_rfl)) rfl ?_
  rintro _ wB4 ⟨gB4, rfl, B4, hgB4, ex⟩
  have lB4 := B4.lt; have zB4 := ex.size
  replace F := F.grow ex hgB4
  replace J0 := J0.grow ex hgB4
  refine wl_y (y_assign rfl) rfl ?_
  refine wl_y (y_assign rfl) rfl ?_
  refine wl_nil ?_
  refine wq_then_norm (hK1 ?_)
  refine wc_seq ?_; intro K2 hK2
  refine wc_seq ?_; intro K3 hK3
  refine wc_region ?_
  refine wl_y (y_move rfl) rfl ?_
  refine wl_y (y_move rfl) rfl ?_
  refine wl_y (y_len_slice rfl Try.underlying22) rfl ?_
  refine wl_y (y_geq rfl rfl) rfl ?_
  refine wl_nil ?_
  refine wq_then_norm (hK3 ?_)
  refine wc_dec rfl (fun hc1 => ?_) (fun hc1 => ?_)
  · skip
    have e1 : nodeX s = ((Node.zero, 4), .error 4) := by
      unfold nodeX
      rw [hs, numX1_end (by omega), if_pos (show ecode (Except.error 4 : St) ≠ 0 from (show (4 : Nat) ≠ 0 by omega))]
      rfl
    refine wc_seq ?_; intro K4 hK4
    refine wc_region ?_
    refine wl_y (y_build rfl (cells := zNodeV) (by kernel_rfl)) rfl ?_
    refine wl_y (y_move rfl) rfl ?_
    refine wl_ef (ef_storeP (o := 0) rfl rfl (by kernel_rfl) B4 (Nat.le_of_ble_eq_true rfl) (all_ones rfl)) rfl ?_
    rintro _ wS2_2 ⟨rfl, D, cg⟩
    have ex := Chs.one cg
    clear cg
    replace F := F.chs ex
    replace J0 := J0.chs ex
    replace B4 := D; clear D
    replace B4 := B4.congr (cs' := zNodeV) rfl
    refine wl_y (y_assign rfl) rfl ?_
    refine wl_y (y_assign rfl) rfl ?_
    refine wl_nil ?_
    refine wq_then_norm (hK4 ?_)
    refine wc_ret ?_
    refine wq_then_ret ?_
    refine hret rfl rfl rfl B4 rfl ?_
    rw [e1]; exact ⟨zNodeV, at_, rfl, NodeS.zero _ _ _ _ _, fun h => absurd h (show (4 : Nat) ≠ 0 by omega), (F.drop (by omega)).toExt (by simp)⟩
  · skip
    refine wc_skip ?_
    refine wq_then_norm (hK2 ?_)
    refine wc_seq ?_; intro K5 hK5
    refine wc_seq ?_; intro K6 hK6
    obtain ⟨b0, o0, rfl, _, _⟩ := J0.out.get (k := at_) (by omega)
    obtain ⟨x, hx⟩ : ∃ x, x = (b.getD at_ 0).toNat := ⟨_, rfl⟩
    have hx8 : x < 256 := hx ▸ UInt8.toNat_lt _
    obtain ⟨t, ht⟩ : ∃ t : St, t = .ok (b.drop (at_ + 1)) := ⟨_, rfl⟩
    have eN1 : (numX 1 s).1 = x := by rw [hs, numX1_at (by omega), hx]
    have eN2 : (numX 1 s).2 = t := by rw [hs, numX1_at (by omega), ht]
    have n0 : ¬ ecode t ≠ 0 := by rw [ht]; exact fun h => h rfl
    refine wc_region ?_
    refine wl_y (y_move rfl) rfl ?_
    refine wl_y (y_move rfl) rfl ?_
    refine wl_y (y_ixs1 rfl rfl Try.underlying22 (by kernel_rfl) rfl (by omega)) rfl ?_
    refine wl_y (y_load1 rfl Try.underlying5 rfl (show _ = some (.int .u8 (x : Int)) from by rw [hx]; exact J0.out.cellAt (by omega))) rfl ?_
    refine wl_y (y_eql rfl rfl) rfl ?_
    refine wl_nil ?_
    refine wq_then_norm (hK6 ?_)
    refine wc_dec rfl (fun hc2 => ?_) (fun hc2 => ?_)
    · skip
      have e1 : nodeX s = ((Node.zero, 0), t) := by unfold nodeX; rw [eN1, eN2, if_neg n0, if_pos (by omega)]
      refine wc_seq ?_; intro K7 hK7
      refine wc_region ?_
      refine wl_y (y_build rfl (cells := zNodeV) (by kernel_rfl)) rfl ?_
      refine wl_y (y_move rfl) rfl ?_
      refine wl_y (y_add rfl rfl (i64_pos (n := at_ + 1) (by omega) (by omega))) rfl ?_
      refine wl_ef (ef_storeP (o := 0) rfl rfl (by kernel_rfl) B4 (Nat.le_of_ble_eq_true rfl) (all_ones rfl)) rfl ?_
      rintro _ wS4_3 ⟨rfl, D, cg⟩
      have ex := Chs.one cg
      clear cg
      replace F := F.chs ex
      replace J0 := J0.chs ex
      replace B4 := D; clear D
      replace B4 := B4.congr (cs' := zNodeV) rfl
      refine wl_y (y_assign rfl) rfl ?_
      refine wl_y (y_assign rfl) rfl ?_
      refine wl_nil ?_
      refine wq_then_norm (hK7 ?_)
      refine wc_ret ?_
      refine wq_then_ret ?_
      refine hret rfl rfl rfl B4 rfl ?_
      rw [e1]; exact ⟨zNodeV, at_ + 1, rfl, NodeS.zero _ _ _ _ _, fun _ => ⟨ht, by omega⟩, (F.drop (by omega)).toExt (by simp)⟩
    · skip
      refine wc_skip ?_
      refine wq_then_norm (hK5 ?_)
      refine wc_seq ?_; intro K8 hK8
      refine wc_seq ?_; intro K9 hK9
      refine wc_region ?_
      refine wl_y (y_move rfl) rfl ?_
      refine wl_y (y_move rfl) rfl ?_
      refine wl_y (y_ixs1 rfl rfl Try.underlying22 (by kernel_rfl) rfl (by omega)) rfl ?_
      refine wl_y (y_load1 rfl Try.underlying5 rfl (show _ = some (.int .u8 (x : Int)) from by rw [hx]; exact J0.out.cellAt (by omega))) rfl ?_
      refine wl_y (y_eql rfl rfl) rfl ?_
      refine wl_nil ?_
      refine wq_then_norm (hK9 ?_)
      refine wc_dec rfl (fun hc3 => ?_) (fun hc3 => ?_)
      · skip
        refine wc_seq ?_; intro K10 hK10
        refine wc_region ?_
        refine wl_y (y_move rfl) rfl ?_
        refine wl_y (y_move rfl) rfl ?_
        refine wl_y (y_add rfl rfl (i64_pos (n := at_ + 1) (by omega) (by omega))) rfl ?_
        refine wl_call Try.func15 rfl rfl rfl (rtakeLeaf_any (at_ := at_ + 1) (s := t) _ J0.out hc hn (by omega) ht) rfl ?_
        rintro e w1 ⟨cs, nx, rfl, HL, hnx, ex⟩
        refine ⟨_, rfl, ?_⟩
        replace F := F.ext ex
        replace J0 := J0.ext ex
        replace B4 := B4.ext ex
        obtain ⟨h0, h1, h2, h4, h5, rfl, hss, s0, s1, s2, s4, s5⟩ := HL
        refine wl_y (y_move rfl) rfl ?_
        refine wl_y (y_extract rfl rfl) rfl ?_
        refine wl_y (y_extract rfl rfl) rfl ?_
        refine wl_y (y_extract rfl rfl) rfl ?_
        refine wl_ef (ef_alloc (Z := #[.slice none 0 0, .slice none 0 0, .slice none 0 0, .int .u8 0, .slice none 0 0, .slice none 0 0]) (by kernel_rfl)) rfl ?_
        rintro _ wA7 ⟨gB7, rfl, D7, hgB7, exA⟩
        have nB4_7 : gB4 < gB7 := Nat.lt_of_lt_of_le B4.lt hgB7
        refine wl_ef (ef_storeP (o := 0) rfl rfl (by kernel_rfl) D7 (Nat.le_of_ble_eq_true rfl) (all_ones rfl)) rfl ?_
        rintro _ wB7 ⟨rfl, B7, cg⟩
        have ex := exA.chg cg hgB7; clear cg exA D7
        have lB7 := B7.lt; have zB7 := ex.size
        replace F := F.ext ex
        replace J0 := J0.ext ex
        replace B4 := B4.ext ex
        replace B7 := B7.congr (cs' := leafV h0 h1 h2 (leafX t).1.1.src h4 h5) rfl
        refine wl_y (y_assign rfl) rfl ?_
        refine wl_y (y_assign rfl) rfl ?_
        refine wl_nil ?_
        refine wq_then_norm (hK10 ?_)
        refine wc_seq ?_; intro K11 hK11
        refine wc_seq ?_; intro K12 hK12
        refine wc_region ?_
        refine wl_y (y_move rfl) rfl ?_
        refine wl_y (y_neq rfl rfl) rfl ?_
        refine wl_nil ?_
        refine wq_then_norm (hK12 ?_)
        refine wc_dec rfl (fun hc4 => ?_) (fun hc4 => ?_)
        · skip
          have e1 : nodeX s = ((Node.zero, (leafX t).1.2), (leafX t).2) := by unfold nodeX; rw [eN1, eN2, if_neg n0, if_neg (by omega), if_pos (show x = 1 by omega), if_pos (by omega)]
          refine wc_seq ?_; intro K13 hK13
          refine wc_region ?_
          refine wl_y (y_build rfl (cells := zNodeV) (by kernel_rfl)) rfl ?_
          refine wl_y (y_move rfl) rfl ?_
          refine wl_y (y_move rfl) rfl ?_
          refine wl_ef (ef_storeP (o := 0) rfl rfl (by kernel_rfl) B4 (Nat.le_of_ble_eq_true rfl) (all_ones rfl)) rfl ?_
          rintro _ wS8_3 ⟨rfl, D, cg⟩
          have ex := Chs.one cg
          clear cg
          replace F := F.chs ex
          replace J0 := J0.chs ex
          replace B7 := B7.chs ex
          replace B4 := D; clear D
          replace B4 := B4.congr (cs' := zNodeV) rfl
          refine wl_y (y_assign rfl) rfl ?_
          refine wl_y (y_assign rfl) rfl ?_
          refine wl_nil ?_
          refine wq_then_norm (hK13 ?_)
          refine wc_ret ?_
          refine wq_then_ret ?_
          refine wq_then_ret ?_
          refine hret rfl rfl rfl B4 rfl ?_
          rw [e1]; exact ⟨zNodeV, at_, rfl, NodeS.zero _ _ _ _ _, fun h => absurd h (show (leafX t).1.2 ≠ 0 by omega), (F.drop (by omega)).toExt (by simp)⟩
        · skip
          have e1 : nodeX s = ((⟨1, (leafX t).1.1, Par.zero⟩, 0), (leafX t).2) := by unfold nodeX; rw [eN1, eN2, if_neg n0, if_neg (by omega), if_pos (show x = 1 by omega), if_neg (by omega)]
          refine wc_skip ?_
          refine wq_then_norm (hK11 ?_)
          refine wc_seq ?_; intro K14 hK14
          refine wc_region ?_
          refine wl_y (y_loadw rfl Try.underlying25 rfl (by kernel_rfl) B7) rfl ?_
          refine wl_y (y_build rfl (cells := nodeV 1 h0 h1 h2 (leafX t).1.1.src h4 h5 nilH nilH nilH) (by kernel_rfl)) rfl ?_
          refine wl_y (y_move rfl) rfl ?_
          refine wl_ef (ef_storeP (o := 0) rfl rfl (by kernel_rfl) B4 (Nat.le_of_ble_eq_true rfl) (all_ones rfl)) rfl ?_
          rintro _ wS9_3 ⟨rfl, D, cg⟩
          have ex := Chs.one cg
          clear cg
          replace F := F.chs ex
          replace J0 := J0.chs ex
          replace B7 := B7.chs ex
          replace B4 := D; clear D
          replace B4 := B4.congr (cs' := nodeV 1 h0 h1 h2 (leafX t).1.1.src h4 h5 nilH nilH nilH) rfl
          refine wl_y (y_assign rfl) rfl ?_
          refine wl_y (y_assign rfl) rfl ?_
          refine wl_nil ?_
          refine wq_then_norm (hK14 ?_)
          refine wc_ret ?_
          refine wq_then_ret ?_
          refine hret rfl rfl rfl B4 rfl ?_
          rw [e1]; exact ⟨_, nx, rfl, ⟨h0, h1, h2, h4, h5, nilH, nilH, nilH, rfl, (show 1 < 256 by omega), hss, s0, s1, s2, s4, s5, Sub.nil _ _ _, Sub.nil _ _ _, Fz.nil _ _ _⟩, fun _ => hnx (by omega), (F.drop (by omega)).toExt (by simp)⟩
      · skip
        refine wc_skip ?_
        refine wq_then_norm (hK8 ?_)
        refine wc_seq ?_; intro K15 hK15
        refine wc_seq ?_; intro K16 hK16
        refine wc_region ?_
        refine wl_y (y_move rfl) rfl ?_
        refine wl_y (y_move rfl) rfl ?_
        refine wl_y (y_ixs1 rfl rfl Try.underlying22 (by kernel_rfl) rfl (by omega)) rfl ?_
        refine wl_y (y_load1 rfl Try.underlying5 rfl (show _ = some (.int .u8 (x : Int)) from by rw [hx]; exact J0.out.cellAt (by omega))) rfl ?_
        refine wl_y (y_neq rfl rfl) rfl ?_
        refine wl_nil ?_
        refine wq_then_norm (hK16 ?_)
        refine wc_dec rfl (fun hc5 => ?_) (fun hc5 => ?_)
        · skip
          have e1 : nodeX s = ((Node.zero, 3), t) := by unfold nodeX; rw [eN1, eN2, if_neg n0, if_neg (by omega), if_neg (show ¬ x = 1 by omega), if_neg (show ¬ x = 2 by omega)]
          refine wc_seq ?_; intro K17 hK17
          refine wc_region ?_
          refine wl_y (y_build rfl (cells := zNodeV) (by kernel_rfl)) rfl ?_
          refine wl_y (y_move rfl) rfl ?_
          refine wl_ef (ef_storeP (o := 0) rfl rfl (by kernel_rfl) B4 (Nat.le_of_ble_eq_true rfl) (all_ones rfl)) rfl ?_
          rintro _ wS11_2 ⟨rfl, D, cg⟩
          have ex := Chs.one cg
          clear cg
          replace F := F.chs ex
          replace J0 := J0.chs ex
          replace B4 := D; clear D
          replace B4 := B4.congr (cs' := zNodeV) rfl
          refine wl_y (y_assign rfl) rfl ?_
          refine wl_y (y_assign rfl) rfl ?_
          refine wl_nil ?_
          refine wq_then_norm (hK17 ?_)
          refine wc_ret ?_
          refine wq_then_ret ?_
          refine hret rfl rfl rfl B4 rfl ?_
          rw [e1]; exact ⟨zNodeV, at_, rfl, NodeS.zero _ _ _ _ _, fun h => absurd h (show (3 : Nat) ≠ 0 by omega), (F.drop (by omega)).toExt (by simp)⟩
        · skip
          refine wc_skip ?_
          refine wq_then_norm (hK15 ?_)
          refine wc_seq ?_; intro K18 hK18
          have eX : nodeX s = (if (parX t).1.2 ≠ 0 then ((Node.zero, (parX t).1.2), (parX t).2) else ((⟨2, Leaf.zero, (parX t).1.1⟩, 0), (parX t).2)) := by unfold nodeX; rw [eN1, eN2, if_neg n0, if_neg (by omega), if_neg (show ¬ x = 1 by omega), if_pos (show x = 2 by omega)]
          have l30 : (vecsX 3 t).2 = lf3 t := rfl
          refine wc_region ?_
          refine wl_y (y_move rfl) rfl ?_
          refine wl_y (y_move rfl) rfl ?_
          refine wl_y (y_add rfl rfl (i64_pos (n := at_ + 1) (by omega) (by omega))) rfl ?_
          have z0 := F.size
          refine wl_call Try.func58 rfl rfl rfl (rvecs_any (at_ := at_ + 1) 3 _ J0.out hc hn (by omega) (by omega)) rfl ?_
          rintro e w1 ⟨A1, m1, c1, nx1, z1, vals1, rfl, ex, hR⟩
          refine ⟨_, rfl, ?_⟩
          replace F := F.ext ex
          replace J0 := J0.ext ex
          replace B4 := B4.ext ex
          rw [← ht, l30] at hR
          refine wl_y (y_move rfl) rfl ?_
          refine wl_y (y_extract rfl rfl) rfl ?_
          refine wl_y (y_extract rfl rfl) rfl ?_
          refine wl_y (y_extract rfl rfl) rfl ?_
          refine wl_y (y_assign rfl) rfl ?_
          refine wl_y (y_assign rfl) rfl ?_
          refine wl_y (y_assign rfl) rfl ?_
          refine wl_nil ?_
          refine wq_then_norm (hK18 ?_)
          refine wc_seq ?_; intro K19 hK19
          refine wc_seq ?_; intro K20 hK20
          refine wc_region ?_
          refine wl_y (y_move rfl) rfl ?_
          refine wl_y (y_neq rfl rfl) rfl ?_
          refine wl_nil ?_
          refine wq_then_norm (hK20 ?_)
          refine wc_dec rfl (fun hc6 => ?_) (fun hc6 => ?_)
          · skip
            obtain ⟨hz, he⟩ := hR.resolve_left (fun h => hc6 (by rw [h.1]; rfl))
            have e2 : parX t = ((Par.zero, z1), .error z1) := by
              unfold parX
              rw [he, if_pos (show ecode (Except.error z1 : St) ≠ 0 from hz)]
              rfl
            have e1 : nodeX s = ((Node.zero, z1), .error z1) := by rw [eX, e2, if_pos hz]
            refine wc_seq ?_; intro K21 hK21
            refine wc_region ?_
            refine wl_y (y_build rfl (cells := zNodeV) (by kernel_rfl)) rfl ?_
            refine wl_y (y_move rfl) rfl ?_
            refine wl_y (y_move rfl) rfl ?_
            refine wl_ef (ef_storeP (o := 0) rfl rfl (by kernel_rfl) B4 (Nat.le_of_ble_eq_true rfl) (all_ones rfl)) rfl ?_
            rintro _ wS14_3 ⟨rfl, D, cg⟩
            have ex := Chs.one cg
            clear cg
            replace F := F.chs ex
            replace J0 := J0.chs ex
            replace B4 := D; clear D
            replace B4 := B4.congr (cs' := zNodeV) rfl
            refine wl_y (y_assign rfl) rfl ?_
            refine wl_y (y_assign rfl) rfl ?_
            refine wl_nil ?_
            refine wq_then_norm (hK21 ?_)
            refine wc_ret ?_
            refine wq_then_ret ?_
            refine hret rfl rfl rfl B4 rfl ?_
            rw [e1]; exact ⟨zNodeV, at_, rfl, NodeS.zero _ _ _ _ _, fun h => absurd h hz, (F.drop (by omega)).toExt (by simp)⟩
          · skip
            obtain ⟨rfl, hst, hnx, rfl, hAt, hvl, hfr, hv⟩ := hR.resolve_right (fun h => h.1 (by omega))
            have m4 := B4.lt
            have JV : Kp w1.heap.size [gB4] (fun w => At w A1 vals1) w1 := Kp.at hAt (fun _ g hg o e => by simp at hg; subst hg; have := hfr _ _ e; omega)
            obtain ⟨late, hlate⟩ : ∃ l, l = (vecX (lf2 t)).1 := ⟨_, rfl⟩
            obtain ⟨h0, v0, s0⟩ := hv 0 (by omega)
            obtain ⟨h1, v1, s1⟩ := hv 1 (by omega)
            obtain ⟨⟨A2, n2, c2⟩, v2, s2⟩ := hv 2 (by omega)
            replace s2 : Sub (some ⟨b0, o0, none⟩) n b A2 n2 late := by rw [hlate]; exact s2
            have hll : late.length = n2 := (s2 _ J0.out).1
            have hA2 : (⟨A2, n2, c2⟩ : Hd).n = n2 := rfl
            have hn2 : n2 ≤ 1000000 := by
              have a1 := (vecX_le (lf2 t)).1; have a2 := (vecX_le (lf1 t)).2; have a3 := (vecX_le t).2
              have a4 : slen t ≤ n := by rw [ht]; show (b.drop (at_ + 1)).length ≤ n; rw [List.length_drop]; omega
              rw [← hlate] at a1
              have a5 : slen (lf2 t) ≤ slen (lf1 t) := a2
              have a6 : slen (lf1 t) ≤ slen t := a3
              omega
            have n3 : ¬ ecode (lf3 t) ≠ 0 := by rw [hst]; exact fun h => h rfl
            obtain ⟨bb, oo, rfl, hcv0⟩ := hAt.slot v0
            have vget : ∀ {wr : World} {j : Nat} {v : Value}, At wr (some ⟨bb, oo, none⟩) vals1 → vals1[j]? = some v → wr.cell? ⟨bb, oo + j, none⟩ = some v := fun H hj => by
              obtain ⟨b', o', e, hc⟩ := H.slot hj
              injection e with e
              injection e with e1 e2 _
              subst e1; subst e2
              exact hc
            refine wc_skip ?_
            refine wq_then_norm (hK19 ?_)
            refine wc_seq ?_; intro K22 hK22
            refine wc_draw (by kernel_rfl) 9 rfl ?_; intro wd15 ex hd15
            replace F := F.ext ex
            replace J0 := J0.ext ex
            replace B4 := B4.ext ex
            replace JV := JV.ext ex
            refine wm_z 0 rfl (by kernel_rfl) (fun _ => y_move rfl) rfl ?_
            refine wm_z 1 rfl (by kernel_rfl) (fun _ => y_ixs1 rfl rfl Try.underlying57 (by kernel_rfl) (j := 0) rfl (by omega)) rfl ?_
            refine wm_y 2 rfl (by kernel_rfl) (y_load1 rfl Try.underlying22 rfl (vget JV.out v0)) rfl ?_
            refine wm_z 3 rfl (by kernel_rfl) (fun _ => y_move rfl) rfl ?_
            refine wm_z 4 rfl (by kernel_rfl) (fun _ => y_ixs1 rfl rfl Try.underlying57 (by kernel_rfl) (j := 1) rfl (by omega)) rfl ?_
            refine wm_y 5 rfl (by kernel_rfl) (y_load1 rfl Try.underlying22 rfl (vget JV.out v1)) rfl ?_
            refine wm_z 6 rfl (by kernel_rfl) (fun _ => y_build rfl (cells := parV h0 h1 nilH) (by kernel_rfl)) rfl ?_
            refine wm_one 7 (by kernel_rfl) ?_; refine om_ef rfl (ef_alloc (Z := #[.slice none 0 0, .slice none 0 0, .slice none 0 0]) (by kernel_rfl)) rfl ?_
            rintro _ wB13 ⟨gB13, rfl, B13, hgB13, ex⟩
            refine ⟨.inr ex, ?_⟩
            have lB13 := B13.lt; have zB13 := ex.size
            have nB4_13 : gB4 < gB13 := Nat.lt_of_lt_of_le B4.lt hgB13
            replace F := F.grow ex hgB13
            replace J0 := J0.grow ex hgB13
            replace B4 := B4.grow ex hgB13
            replace JV := JV.grow ex hgB13
            refine wm_one 8 (by kernel_rfl) ?_; refine om_ef rfl (ef_storeP (o := 0) rfl rfl (by kernel_rfl) B13 (Nat.le_of_ble_eq_true rfl) (all_ones rfl)) rfl ?_
            rintro _ wS15_8 ⟨rfl, D, cg⟩
            have ex := Chs.one cg
            clear cg
            refine ⟨.inl rfl, ?_⟩
            replace F := F.chs ex
            replace J0 := J0.chs ex
            replace B4 := B4.chs ex
            replace JV := JV.chs ex
            replace B13 := D; clear D
            replace B13 := B13.congr (cs' := parV h0 h1 nilH) rfl
            refine wm_done (by kernel_rfl) ?_
            refine wq_nop ?_
            refine wq_then_norm (hK22 ?_)
            refine wc_seq ?_; intro K23 hK23
            refine wc_seq ?_; intro K24 hK24
            refine wc_region ?_
            refine wl_y (y_assign rfl) rfl ?_
            refine wl_nil ?_
            refine wq_then_norm (hK24 ?_)
            refine wc_block ?_
            have F0 := F; have B40 := B4; have J00 := J0; have JV0 := JV; have z5 := F.size; have m13 := B13.lt; have m42 := B4.lt
            have G := Chs.refl [gB13] wS15_8
            have R0 : Row wS15_8 wS15_8.heap.size 3 none 0 0 [] := Row.empty _ _ _
            refine wc_loop (fun n' L wr => ∃ (j p : Nat) (zs : List Int) (A : Option Addr) (c' : Nat), L = [(1, .int .i64 (at_ : Int)), (4, .pointer (some ⟨gB4, 0, none⟩)), (10, .slice (some ⟨bb, oo, none⟩) 3 c1), (11, .int .i64 (nx1 : Int)), (13, .pointer (some ⟨gB13, 0, none⟩)), (14, .int .i64 (p : Int))] ∧ n' = n2 - p ∧ (p = 4 * j ∧ p ≤ n2 ∧ Chs [gB13] wS15_8 wr ∧ Blk wr gB13 28 (parV h0 h1 ⟨A, j, c'⟩) ∧ Row wr wS15_8.heap.size 3 A j c' (zs.map zv) ∧ zs.length = j ∧ fours late = zs ++ fours (late.drop p) ∧ (∀ z ∈ zs, 0 ≤ z ∧ z < 4294967296))) _ _ ⟨0, 0, [], none, 0, rfl, rfl, rfl, (by omega), G, B13, R0, rfl, (by simp), (by simp)⟩ ⟨(by first | rfl | exact congrArg some (int_val (by omega))), rfl, rfl, (by first | rfl | exact congrArg some (int_val (by omega))), rfl, (by first | rfl | exact congrArg some (int_val (by omega))), trivial⟩ ?_
            rintro KL1 n' L wr ⟨j, p, zs, A, c', rfl, rfl, hpj, hp, G, B13, RW, hzn, hF, hZ⟩ hL1
            refine wc_seq ?_; intro K25 hK25
            refine wc_seq ?_; intro K26 hK26
            refine wc_region ?_
            refine wl_y (y_move rfl) rfl ?_
            refine wl_y (y_add rfl rfl (i64_pos (n := p + 4) (by omega) (by omega))) rfl ?_
            refine wl_y (y_move rfl) rfl ?_
            refine wl_y (y_ixs1 rfl rfl Try.underlying57 (by kernel_rfl) (j := 2) rfl (by omega)) rfl ?_
            refine wl_y (y_load1 rfl Try.underlying22 rfl (vget (JV0.chs G).out v2)) rfl ?_
            refine wl_y (y_len_slice rfl Try.underlying22) rfl ?_
            refine wl_y (y_leq rfl rfl) rfl ?_
            refine wl_nil ?_
            refine wq_then_norm (hK26 ?_)
            refine wc_dec rfl (fun hc7 => ?_) (fun hc7 => ?_)
            · skip
              refine wc_skip ?_
              refine wq_then_norm (hK25 ?_)
              refine wc_seq ?_; intro K27 hK27
              refine wc_block ?_
              refine wc_seq ?_; intro K28 hK28
              have hp4 : p + 4 ≤ n2 := by omega
              have HB2 := s2 _ (J00.chs G).out
              obtain ⟨b2, o2, rfl, _, _⟩ := HB2.get (k := p) (by omega)
              have hx0 := UInt8.toNat_lt (late.getD p 0)
              have hx1 := UInt8.toNat_lt (late.getD (p + 1) 0)
              have hx2 := UInt8.toNat_lt (late.getD (p + 2) 0)
              have hx3 := UInt8.toNat_lt (late.getD (p + 3) 0)
              refine wc_draw (by kernel_rfl) 38 rfl ?_; intro wd19 ex hd19
              replace G := G.ext ex
              replace B13 := B13.ext ex
              replace RW := RW.ext ex
              refine wm_y 0 rfl (by kernel_rfl) (y_move rfl) rfl ?_
              refine wm_y 1 rfl (by kernel_rfl) (y_ixs1 rfl rfl Try.underlying57 (by kernel_rfl) (j := 2) rfl (by omega)) rfl ?_
              refine wm_y 2 rfl (by kernel_rfl) (y_load1 rfl Try.underlying22 rfl (vget ((JV0.chs G).out) v2)) rfl ?_
              refine wm_y 3 rfl (by kernel_rfl) (y_move rfl) rfl ?_
              refine wm_y 4 rfl (by kernel_rfl) (y_ixs1 rfl rfl Try.underlying22 (by kernel_rfl) (j := p) rfl (by omega)) rfl ?_
              refine wm_y 5 rfl (by kernel_rfl) (y_load1 rfl Try.underlying5 rfl ((s2 _ (J00.chs G).out).cellAt (by omega))) rfl ?_
              refine wm_y 6 rfl (by kernel_rfl) (y_conv rfl Try.underlying5 Try.underlying3 (i64_ok (by omega) (by omega))) rfl ?_
              refine wm_y 7 rfl (by kernel_rfl) (y_mul rfl rfl (i64_ok (by omega) (by omega))) rfl ?_
              refine wm_y 8 rfl (by kernel_rfl) (y_move rfl) rfl ?_
              refine wm_y 9 rfl (by kernel_rfl) (y_ixs1 rfl rfl Try.underlying57 (by kernel_rfl) (j := 2) rfl (by omega)) rfl ?_
              refine wm_y 10 rfl (by kernel_rfl) (y_load1 rfl Try.underlying22 rfl (vget ((JV0.chs G).out) v2)) rfl ?_
              refine wm_y 11 rfl (by kernel_rfl) (y_move rfl) rfl ?_
              refine wm_y 12 rfl (by kernel_rfl) (y_add rfl rfl (i64_pos (n := p + 1) (by omega) (by omega))) rfl ?_
              refine wm_y 13 rfl (by kernel_rfl) (y_ixs1 rfl rfl Try.underlying22 (by kernel_rfl) (j := p + 1) rfl (by omega)) rfl ?_
              refine wm_y 14 rfl (by kernel_rfl) (y_load1 rfl Try.underlying5 rfl ((s2 _ (J00.chs G).out).cellAt (by omega))) rfl ?_
              refine wm_y 15 rfl (by kernel_rfl) (y_conv rfl Try.underlying5 Try.underlying3 (i64_ok (by omega) (by omega))) rfl ?_
              refine wm_y 16 rfl (by kernel_rfl) (y_add rfl rfl (i64_ok (by omega) (by omega))) rfl ?_
              refine wm_y 17 rfl (by kernel_rfl) (y_mul rfl rfl (i64_ok (by omega) (by omega))) rfl ?_
              refine wm_y 18 rfl (by kernel_rfl) (y_move rfl) rfl ?_
              refine wm_y 19 rfl (by kernel_rfl) (y_ixs1 rfl rfl Try.underlying57 (by kernel_rfl) (j := 2) rfl (by omega)) rfl ?_
              refine wm_y 20 rfl (by kernel_rfl) (y_load1 rfl Try.underlying22 rfl (vget ((JV0.chs G).out) v2)) rfl ?_
              refine wm_y 21 rfl (by kernel_rfl) (y_move rfl) rfl ?_
              refine wm_y 22 rfl (by kernel_rfl) (y_add rfl rfl (i64_pos (n := p + 2) (by omega) (by omega))) rfl ?_
              refine wm_y 23 rfl (by kernel_rfl) (y_ixs1 rfl rfl Try.underlying22 (by kernel_rfl) (j := p + 2) rfl (by omega)) rfl ?_
              refine wm_y 24 rfl (by kernel_rfl) (y_load1 rfl Try.underlying5 rfl ((s2 _ (J00.chs G).out).cellAt (by omega))) rfl ?_
              refine wm_y 25 rfl (by kernel_rfl) (y_conv rfl Try.underlying5 Try.underlying3 (i64_ok (by omega) (by omega))) rfl ?_
              refine wm_y 26 rfl (by kernel_rfl) (y_add rfl rfl (i64_ok (by omega) (by omega))) rfl ?_
              refine wm_y 27 rfl (by kernel_rfl) (y_mul rfl rfl (i64_ok (by omega) (by omega))) rfl ?_
              refine wm_y 28 rfl (by kernel_rfl) (y_move rfl) rfl ?_
              refine wm_y 29 rfl (by kernel_rfl) (y_ixs1 rfl rfl Try.underlying57 (by kernel_rfl) (j := 2) rfl (by omega)) rfl ?_
              refine wm_y 30 rfl (by kernel_rfl) (y_load1 rfl Try.underlying22 rfl (vget ((JV0.chs G).out) v2)) rfl ?_
              refine wm_y 31 rfl (by kernel_rfl) (y_move rfl) rfl ?_
              refine wm_y 32 rfl (by kernel_rfl) (y_add rfl rfl (i64_pos (n := p + 3) (by omega) (by omega))) rfl ?_
              refine wm_y 33 rfl (by kernel_rfl) (y_ixs1 rfl rfl Try.underlying22 (by kernel_rfl) (j := p + 3) rfl (by omega)) rfl ?_
              refine wm_y 34 rfl (by kernel_rfl) (y_load1 rfl Try.underlying5 rfl ((s2 _ (J00.chs G).out).cellAt (by omega))) rfl ?_
              refine wm_y 35 rfl (by kernel_rfl) (y_conv rfl Try.underlying5 Try.underlying3 (i64_ok (by omega) (by omega))) rfl ?_
              refine wm_y 36 rfl (by kernel_rfl) (y_add rfl rfl (i64_ok (by omega) (by omega))) rfl ?_
              refine wm_y 37 rfl (by kernel_rfl) (y_assign rfl) rfl ?_
              refine wm_done (by kernel_rfl) ?_
              refine wq_nop ?_
              refine wq_then_norm (hK28 ?_)
              obtain ⟨q, hq⟩ : ∃ q, q = nb ((late.drop p).take 4) := ⟨_, rfl⟩
              have hq2 : q = (((late.getD p 0).toNat * 256 + (late.getD (p + 1) 0).toNat) * 256 + (late.getD (p + 2) 0).toNat) * 256 + (late.getD (p + 3) 0).toNat := by rw [hq, take4 (by omega), nb4]
              have hn' : (⟨A, j, c'⟩ : Hd).n = j := rfl
              have hdl : (late.drop p).length = n2 - p := by rw [List.length_drop, hll]
              refine wc_region ?_
              refine wl_y (y_fieldAddr (o := 2) (s := 1) (off := 0) (o' := 2) rfl Try.underlying28 rfl (by kernel_rfl) rfl rfl) rfl ?_
              refine wl_y (y_load1 rfl Try.underlying26 rfl (B13.get (i := 2) rfl)) rfl ?_
              refine wl_y (y_move rfl) rfl ?_
              refine wl_ef (ef_lit (z := .int .i64 0) Try.underlying26 (by kernel_rfl) rfl rfl rfl rfl rfl) rfl ?_
              rintro _ w8 ⟨g31, rfl, B31, hg31, ex⟩
              replace G := G.ext ex
              replace B13 := B13.ext ex
              replace RW := RW.ext ex
              have z8 := G.size
              refine wl_ef (ef_app rfl rfl eltZ RW (At.blk (vs := [zv ((q : Nat) : Int)]) (B31.congr (by rw [hq2]; rfl))) rfl (by intro u hu; simp only [List.mem_singleton] at hu; subst hu; rfl) (by omega) (by omega) z8) rfl ?_
              rintro _ w9 ⟨A9, c9, rfl, R9, be, gr, hgl⟩
              replace G := G.below be (Nat.le_refl _); replace B13 := B13.below be m13; clear be hgl
              refine wl_y (y_fieldAddr (o := 2) (s := 1) (off := 0) (o' := 2) rfl Try.underlying28 rfl (by kernel_rfl) rfl rfl) rfl ?_
              refine wl_ef (ef_storeB (i := 2) rfl rfl rfl (by kernel_rfl) B13 (Nat.le_of_ble_eq_true rfl)) rfl ?_
              rintro _ wS20_6 ⟨rfl, D, cg⟩
              have ex := Chs.one cg
              clear cg
              replace G := G.chs ex
              replace R9 := R9.chs ex
              replace B13 := D; clear D
              replace B13 := B13.congr (cs' := parV h0 h1 ⟨A9, j + 1, c9⟩) rfl
              refine wl_nil ?_
              refine wq_blk_norm ?_
              refine wq_then_norm (hK27 ?_)
              refine wc_region ?_
              refine wl_y (y_move rfl) rfl ?_
              refine wl_y (y_add rfl rfl (i64_pos (n := p + 4) (by omega) (by omega))) rfl ?_
              refine wl_y (y_assign rfl) rfl ?_
              refine wl_nil ?_
              refine wq_then_norm ?_
              refine hL1 _ _ ⟨j + 1, p + 4, zs ++ [((q : Nat) : Int)], A9, c9, rfl, rfl, by omega, by omega, G, B13, R9.congr rfl (by simp), by simp [hzn], by rw [hF, fours_cons (by omega), ← hq, List.drop_drop]; simp, fun z hz => by rcases List.mem_append.1 hz with h | h; exact hZ z h; simp only [List.mem_singleton] at h; subst h; omega⟩ (by omega) ⟨(by first | rfl | exact congrArg some (int_val (by omega))), rfl, rfl, (by first | rfl | exact congrArg some (int_val (by omega))), rfl, (by first | rfl | exact congrArg some (int_val (by omega))), trivial⟩
            · skip
              refine wc_exit ?_
              refine wq_then_exit ?_
              refine wq_then_exit ?_
              refine wq_blk_hit ?_
              refine wq_then_norm (hK23 ?_)
              refine wc_seq ?_; intro K29 hK29
              refine wc_seq ?_; intro K30 hK30
              have hF2 := fours_nil (ys := late.drop p) (by rw [List.length_drop]; omega)
              rw [hF2, List.append_nil] at hF
              refine wc_region ?_
              refine wl_y (y_move rfl) rfl ?_
              refine wl_y (y_ixs1 rfl rfl Try.underlying57 (by kernel_rfl) (j := 2) rfl (by omega)) rfl ?_
              refine wl_y (y_load1 rfl Try.underlying22 rfl (vget (JV0.chs G).out v2)) rfl ?_
              refine wl_y (y_len_slice rfl Try.underlying22) rfl ?_
              refine wl_y (y_rem rfl rfl (by omega) (show ((n2 : Nat) : Int).tmod 4 = ((n2 % 4 : Nat) : Int) from rfl)) rfl ?_
              refine wl_yask (y_neq rfl rfl) rfl (fun v1' => ?_) (fun v1' => ?_)
              · skip
                refine wl_y (y_move rfl) rfl ?_
                refine wl_gno 136 rfl rfl rfl rfl ?_
                refine wl_gno 136 rfl rfl rfl rfl ?_
                refine wl_gno 136 rfl rfl rfl rfl ?_
                refine wl_y (y_pickt rfl rfl) rfl ?_
                refine wl_nil ?_
                refine wq_then_norm (hK30 ?_)
                refine wc_true rfl rfl ?_
                refine wc_seq ?_; intro K31 hK31
                have e2 : parX t = ((Par.zero, 3), lf3 t) := by unfold parX; rw [if_neg n3, if_pos (.inl (by rw [← hlate, hll]; omega))]
                refine wc_region ?_
                refine wl_y (y_build rfl (cells := zNodeV) (by kernel_rfl)) rfl ?_
                refine wl_y (y_move rfl) rfl ?_
                have B4 := B40.chs G
                have e1 : nodeX s = ((Node.zero, 3), lf3 t) := by rw [eX, e2, if_pos (show (3 : Nat) ≠ 0 by omega)]
                refine wl_ef (ef_storeP (o := 0) rfl rfl (by kernel_rfl) B4 (Nat.le_of_ble_eq_true rfl) (all_ones rfl)) rfl ?_
                rintro _ w12 ⟨rfl, D2, cg⟩
                have F := (F0.chs G).chs (Chs.one cg)
                refine wl_y (y_assign rfl) rfl ?_
                refine wl_y (y_assign rfl) rfl ?_
                refine wl_nil ?_
                refine wq_then_norm (hK31 ?_)
                refine wc_ret ?_
                refine wq_then_ret ?_
                refine hret rfl rfl rfl (D2.congr (cs' := zNodeV) rfl) rfl ?_
                rw [e1]; exact ⟨zNodeV, at_, rfl, NodeS.zero _ _ _ _ _, fun h => absurd h (show (3 : Nat) ≠ 0 by omega), ((F.drop (by omega)).drop (by omega)).toExt (by simp)⟩
              · skip
                refine wl_y (y_move rfl) rfl ?_
                refine wl_gy 136 rfl rfl (y_loadw rfl Try.underlying28 rfl (by kernel_rfl) B13) rfl ?_
                have HP : ∀ wx, Chs [gB4] wr wx → Fz wS15_8.heap.size wx A j zs := fun wx (cx : Chs [gB4] wr wx) => ⟨⟨hzn, (RW.chs cx).at, fun z hz => by have := hZ z hz; omega⟩, fun _ b o e => by subst e; exact (Row.lt RW).1⟩
                refine wl_gcall 136 rfl rfl Try.func59 rfl rfl rfl (rrightParent_any (p := ⟨(vecX t).1, (vecX (lf1 t)).1, zs⟩) _ ⟨h0, h1, ⟨A, j, c'⟩, rfl, s0 _ (J00.chs G).out, s1 _ (J00.chs G).out, (HP _ (Chs.refl _ _)).1⟩ (show zs.length ≤ 1100000000 by omega)) rfl ?_
                rintro e w11 ⟨rfl, ex11⟩
                have ex := ex11
                refine ⟨_, rfl, ?_⟩
                replace G := G.ext ex
                replace B13 := B13.ext ex
                replace RW := RW.ext ex
                skip
                refine wl_gy 136 rfl rfl (y_not rfl) rfl ?_
                refine wl_y (y_pickf rfl rfl) rfl ?_
                refine wl_nil ?_
                refine wq_then_norm (hK30 ?_)
                refine wc_cond rfl (fun hc8 => ?_) (fun hc8 => ?_)
                · skip
                  refine wc_seq ?_; intro K32 hK32
                  have hno : ¬ okPar ⟨(vecX t).1, (vecX (lf1 t)).1, zs⟩ := by simpa using hc8
                  have e2 : parX t = ((Par.zero, 3), lf3 t) := by unfold parX; rw [if_neg n3, if_pos (.inr (by rw [← hlate, hF]; exact hno))]
                  refine wc_region ?_
                  refine wl_y (y_build rfl (cells := zNodeV) (by kernel_rfl)) rfl ?_
                  refine wl_y (y_move rfl) rfl ?_
                  have B4 := B40.chs G
                  have e1 : nodeX s = ((Node.zero, 3), lf3 t) := by rw [eX, e2, if_pos (show (3 : Nat) ≠ 0 by omega)]
                  refine wl_ef (ef_storeP (o := 0) rfl rfl (by kernel_rfl) B4 (Nat.le_of_ble_eq_true rfl) (all_ones rfl)) rfl ?_
                  rintro _ w12 ⟨rfl, D2, cg⟩
                  have F := (F0.chs G).chs (Chs.one cg)
                  refine wl_y (y_assign rfl) rfl ?_
                  refine wl_y (y_assign rfl) rfl ?_
                  refine wl_nil ?_
                  refine wq_then_norm (hK32 ?_)
                  refine wc_ret ?_
                  refine wq_then_ret ?_
                  refine hret rfl rfl rfl (D2.congr (cs' := zNodeV) rfl) rfl ?_
                  rw [e1]; exact ⟨zNodeV, at_, rfl, NodeS.zero _ _ _ _ _, fun h => absurd h (show (3 : Nat) ≠ 0 by omega), ((F.drop (by omega)).drop (by omega)).toExt (by simp)⟩
                · skip
                  refine wc_skip ?_
                  refine wq_then_norm (hK29 ?_)
                  refine wc_seq ?_; intro K33 hK33
                  have hyes : okPar ⟨(vecX t).1, (vecX (lf1 t)).1, zs⟩ := by simpa using hc8
                  have e2 : parX t = ((⟨(vecX t).1, (vecX (lf1 t)).1, zs⟩, 0), lf3 t) := by unfold parX; rw [if_neg n3, ← hlate, hF, if_neg (fun h => h.elim (fun h => absurd h (by omega)) (fun h => h hyes))]
                  have e1 : nodeX s = ((⟨2, Leaf.zero, ⟨(vecX t).1, (vecX (lf1 t)).1, zs⟩⟩, 0), lf3 t) := by rw [eX, e2, if_neg (fun h => h rfl)]
                  refine wc_region ?_
                  refine wl_y (y_loadw rfl Try.underlying28 rfl (by kernel_rfl) B13) rfl ?_
                  refine wl_y (y_build rfl (cells := nodeV 2 nilH nilH nilH 0 nilH nilH h0 h1 ⟨A, j, c'⟩) (by kernel_rfl)) rfl ?_
                  refine wl_y (y_move rfl) rfl ?_
                  have B4 := B40.chs G
                  refine wl_ef (ef_storeP (o := 0) rfl rfl (by kernel_rfl) B4 (Nat.le_of_ble_eq_true rfl) (all_ones rfl)) rfl ?_
                  rintro _ w12 ⟨rfl, D2, cg⟩
                  have F := (F0.chs G).chs (Chs.one cg)
                  refine wl_y (y_assign rfl) rfl ?_
                  refine wl_y (y_assign rfl) rfl ?_
                  refine wl_nil ?_
                  refine wq_then_norm (hK33 ?_)
                  refine wc_ret ?_
                  refine hret rfl rfl rfl (D2.congr (cs' := nodeV 2 nilH nilH nilH 0 nilH nilH h0 h1 ⟨A, j, c'⟩) rfl) rfl ?_
                  rw [e1]; exact ⟨_, nx1, rfl, ⟨nilH, nilH, nilH, nilH, nilH, h0, h1, ⟨A, j, c'⟩, rfl, (show 2 < 256 by omega), (show 0 < 256 by omega), Sub.nil _ _ _, Sub.nil _ _ _, Sub.nil _ _ _, Sub.nil _ _ _, Sub.nil _ _ _, s0, s1, (HP _ ((Chs.of ex11 _).tr (Chs.one cg))).mono (by omega)⟩, fun _ => ⟨hst, hnx⟩, ((F.drop (by omega)).drop (by omega)).toExt (by simp)⟩
end Go.Proofs.Ytopimmomkapdoaa
