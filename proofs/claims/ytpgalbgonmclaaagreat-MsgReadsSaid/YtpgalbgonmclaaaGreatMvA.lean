/- The reference's leaves, packages and proposals at a place of bytes. No conditions: contracts of the reference's functions. -/
import Derived.Test.YtpgalbgonmclaaaGreatMuH
import Derived.Test.YtpgalbgonmclaaaGreatNdG
namespace Go.Proofs.YtpgalbgonmclaaaGreat
open Go.RowKit
attribute [local irreducible] Y Ef WL WC WK WQ WM OpM WN WF OpN WJ OpJ
open Wire Nd M20
def PackS (A0 : Option Addr) (n0 : Nat) (b0 : List UInt8) (cs : Array Value) (x : Pack) : Prop := PackC (fun h xs => Sub A0 n0 b0 h.A h.n xs) cs x
def PropS (A0 : Option Addr) (n0 : Nat) (b0 : List UInt8) (cs : Array Value) (x : Prop20) : Prop := PropC (fun h xs => Sub A0 n0 b0 h.A h.n xs) cs x
section
variable {A0 : Option Addr} {n0 : Nat} {b0 : List UInt8} {cs : Array Value} {s : St}
theorem PackS.at {x : Pack} {w : World} (h : PackS A0 n0 b0 cs x) (HA : Bs w A0 n0 b0) : PackAt w cs x := PackC.imp h fun _ _ s => s w HA
theorem PropS.at {x : Prop20} {w : World} (h : PropS A0 n0 b0 cs x) (HA : Bs w A0 n0 b0) : PropAt w cs x := PropC.imp h fun _ _ s => s w HA
theorem PackS.zero : PackS A0 n0 b0 zPackV Pack.zero := ⟨nilH, nilH, nilH, nilH, nilH, nilH, nilH, rfl, by decide, Sub.nil _ _ _, Sub.nil _ _ _, Sub.nil _ _ _, Sub.nil _ _ _, Sub.nil _ _ _, Sub.nil _ _ _, Sub.nil _ _ _⟩
theorem PropS.zero : PropS A0 n0 b0 zPropV Prop20.zero := ⟨nilH, nilH, nilH, nilH, nilH, nilH, nilH, nilH, nilH, nilH, nilH, nilH, rfl, by decide, by decide, by decide, by decide, Sub.nil _ _ _, Sub.nil _ _ _, Sub.nil _ _ _, Sub.nil _ _ _, Sub.nil _ _ _, Sub.nil _ _ _, Sub.nil _ _ _, Sub.nil _ _ _, Sub.nil _ _ _, Sub.nil _ _ _, Sub.nil _ _ _, Sub.nil _ _ _⟩
theorem PropS.mk {p : Prop20} {i h0 h1 h2 h4 h5 g l0 l1 l2 l4 l5 : Hd} (h : PackS A0 n0 b0 (packV i h0 h1 h2 p.pack.leaf.src h4 h5 g) p.pack) (h' : LeafS A0 n0 b0 (leafV l0 l1 l2 p.leaf.src l4 l5) p.leaf) (hk : p.kind < 256) (hz : -9223372036854775808 ≤ p.at_ ∧ p.at_ ≤ 9223372036854775807) :
    PropS A0 n0 b0 (propV p.kind i h0 h1 h2 p.pack.leaf.src h4 h5 g l0 l1 l2 p.leaf.src l4 l5 p.at_) p := by
  obtain ⟨i', i0, i1, i2, i4, i5, g', e, hs, b, b0, b1, b2, b4, b5, b6⟩ := h
  obtain ⟨rfl, rfl, rfl, rfl, rfl, rfl, rfl⟩ := packV_inj e
  obtain ⟨j0, j1, j2, j4, j5, e', ht, d0, d1, d2, d4, d5⟩ := h'
  obtain ⟨rfl, rfl, rfl, rfl, rfl⟩ := leafV_inj e'
  exact ⟨_, _, _, _, _, _, _, _, _, _, _, _, rfl, hk, hs, ht, hz, b, b0, b1, b2, b4, b5, b6, d0, d1, d2, d4, d5⟩
theorem plleaf_any (w : World) (HA : Bs w A0 n0 b0) (H : PlS A0 n0 b0 cs s) :
    Calls Tryz.prog 96 #[.agg cs] w fun r w' => ∃ cl cs', r = .returned (.tuple #[.agg cl, .agg cs']) ∧ LeafS A0 n0 b0 cl (leafI s).1 ∧ PlS A0 n0 b0 cs' (leafI s).2 ∧ Ext w w' := by
  have F := Chs.refl [] w
  have KA : Kp w.heap.size [] (fun w => Bs w A0 n0 b0) w := Kp.bs HA (by simp)
  obtain ⟨A, n, c, at_, e, b, rfl, hc, hn, hS, hl, hs⟩ := H
  refine vc_entercc (s := 6) (s' := 3) 27 Tryz.func96 rfl rfl rfl Tryz.underlying25 rfl (by kernel_rfl) Tryz.underlying85 rfl (by kernel_rfl) rfl ?_
  intro Q hret
  refine wc_seq ?_; intro K1 hK1
  refine wc_region ?_
  refine wl_ef (ef_box rfl rfl) rfl ?_
  rintro _ wB1 ⟨gB1, rfl, B1, hgB1, ex⟩
  have lB1 := B1.lt; have zB1 := ex.size
  replace F := F.ext ex
  replace KA := KA.ext ex
  refine wl_ef (ef_alloc (Z := #[.slice none 0 0, .slice none 0 0, .slice none 0 0, .int .u8 0, .slice none 0 0, .slice none 0 0]) (by kernel_rfl)) rfl ?_
  rintro _ wB2 ⟨gB2, rfl, B2, hgB2, ex⟩
  have lB2 := B2.lt; have zB2 := ex.size
  replace F := F.grow ex hgB2
  replace KA := KA.grow ex hgB2
  replace B1 := B1.grow ex hgB2
  refine wl_ef (ef_alloc (Z := #[.slice none 0 0, .int .i64 0, .int .i64 0]) (by kernel_rfl)) rfl ?_
  rintro _ wB3 ⟨gB3, rfl, B3, hgB3, ex⟩
  have lB3 := B3.lt; have zB3 := ex.size
  have nB2_3 : gB2 < gB3 := Nat.lt_of_lt_of_le B2.lt hgB3
  replace F := F.grow ex hgB3
  replace KA := KA.grow ex hgB3
  replace B1 := B1.grow ex hgB3
  replace B2 := B2.grow ex hgB3
  refine wl_nil ?_
  refine wq_then_norm (hK1 ?_)
  refine wc_seq ?_; intro K2 hK2
  refine wc_seq ?_; intro K3 hK3
  refine wc_region ?_
  refine wl_y (y_fieldAddr (o := 2) (s := 1) (off := 0) (o' := 2) rfl Tryz.underlying85 rfl (by kernel_rfl) rfl rfl) rfl ?_
  refine wl_y (y_load1 rfl Tryz.underlying3 rfl (B1.get (i := 2) rfl)) rfl ?_
  refine wl_y (y_neq rfl rfl) rfl ?_
  refine wl_nil ?_
  refine wq_then_norm (hK3 ?_)
  refine wc_dec rfl (fun hc1 => ?_) (fun hc1 => ?_)
  · skip
    refine wc_seq ?_; intro K4 hK4
    refine wc_drawJ [(2, [gB2]), (3, [gB3])] (by kernel_rfl) 4 rfl ?_; intro wd2 ex hd2
    replace F := F.ext ex
    replace KA := KA.ext ex
    replace B1 := B1.ext ex
    replace B2 := B2.ext ex
    replace B3 := B3.ext ex
    refine wj_y 0 [] rfl (by kernel_rfl) (fun wr (cr : Chs ([]) _ wr) => y_build rfl (cells := zLeafV) (by kernel_rfl)) rfl ?_
    refine wj_y 1 [2] rfl (by kernel_rfl) (fun wr (cr : Chs ([gB2]) _ wr) => y_loadx (o := 0) (s := 3) rfl Tryz.underlying85 rfl (by kernel_rfl) (B1.chs cr) rfl) rfl ?_
    refine wj_one 2 (by kernel_rfl) ?_; refine oj_ef rfl (ef_storeP (o := 0) rfl rfl (by kernel_rfl) B2 (Nat.le_of_ble_eq_true rfl) (all_ones rfl)) rfl ?_
    rintro _ wS2_2 ⟨rfl, D, cg⟩
    have ex := Chs.one cg
    clear cg
    refine ⟨ex, ?_⟩
    replace F := F.chs ex
    replace KA := KA.chs ex
    replace B1 := B1.chs ex
    replace B3 := B3.chs ex
    replace B2 := D; clear D
    replace B2 := B2.congr (cs' := zLeafV) rfl
    refine wj_one 3 (by kernel_rfl) ?_; refine oj_ef rfl (ef_storeP (o := 0) rfl rfl (by kernel_rfl) B3 (Nat.le_of_ble_eq_true rfl) (all_ones rfl)) rfl ?_
    rintro _ wS2_3 ⟨rfl, D, cg⟩
    have ex := Chs.one cg
    clear cg
    refine ⟨ex, ?_⟩
    replace F := F.chs ex
    replace KA := KA.chs ex
    replace B1 := B1.chs ex
    replace B2 := B2.chs ex
    replace B3 := D; clear D
    replace B3 := B3.congr (cs' := placeV A n c at_ e) rfl
    refine wj_done (by kernel_rfl) ?_
    refine wq_nop ?_
    refine wq_then_norm (hK4 ?_)
    refine wc_ret ?_
    refine wq_then_ret ?_
    refine hret rfl rfl B2 rfl B3 rfl ?_
    obtain ⟨h, _⟩ | ⟨h0, h8, rfl⟩ := hs
    · exact absurd h (by omega)
    · exact ⟨_, _, rfl, LeafS.zero _ _ _, ⟨A, n, c, at_, e, b, rfl, hc, hn, hS, hl, .inr ⟨h0, h8, rfl⟩⟩, (F.drop (by omega)).drop (by omega) |>.toExt (by simp)⟩
  · skip
    refine wc_skip ?_
    refine wq_then_norm (hK2 ?_)
    refine wc_seq ?_; intro K5 hK5
    obtain ⟨h0, rfl, hat⟩ : e = 0 ∧ s = .ok (b.drop at_) ∧ at_ ≤ n := by
      rcases hs with h | h
      · exact h
      · exact absurd h.1 (by omega)
    subst h0
    have h8 := (cok_leafX (s := .ok (b.drop at_)) (by show 0 < 256; omega)).1
    obtain ⟨z, hz⟩ : ∃ z, z = (leafX (.ok (b.drop at_))).1.2 := ⟨_, rfl⟩
    rw [← hz] at h8
    have hI : leafI (.ok (b.drop at_)) = ((leafX (.ok (b.drop at_))).1.1, if z ≠ 0 then .error z else (leafX (.ok (b.drop at_))).2) := by rw [hz]; rfl
    refine wc_region ?_
    refine wl_y (y_fieldAddr (o := 0) (s := 1) (off := 0) (o' := 0) rfl Tryz.underlying85 rfl (by kernel_rfl) rfl rfl) rfl ?_
    refine wl_y (y_load1 rfl Tryz.underlying22 rfl (B1.get (i := 0) rfl)) rfl ?_
    refine wl_y (y_fieldAddr (o := 1) (s := 1) (off := 0) (o' := 1) rfl Tryz.underlying85 rfl (by kernel_rfl) rfl rfl) rfl ?_
    refine wl_y (y_load1 rfl Tryz.underlying3 rfl (B1.get (i := 1) rfl)) rfl ?_
    refine wl_call Tryz.func127 rfl rfl rfl (rtakeLeaf_any _ (hS _ KA.out) hc hn hat rfl) rfl ?_
    rintro e w1 ⟨cl, nx, rfl, HL, hnx, ex⟩
    refine ⟨_, rfl, ?_⟩
    replace F := F.ext ex
    replace KA := KA.ext ex
    replace B1 := B1.ext ex
    replace B2 := B2.ext ex
    replace B3 := B3.ext ex
    rw [← hz] at hnx ⊢; have HL2 := HL; obtain ⟨i0, i1, i2, i4, i5, rfl, _⟩ := HL
    refine wl_y (y_move rfl) rfl ?_
    refine wl_y (y_extract rfl rfl) rfl ?_
    refine wl_y (y_extract rfl rfl) rfl ?_
    refine wl_y (y_extract rfl rfl) rfl ?_
    refine wl_ef (ef_alloc (Z := #[.slice none 0 0, .slice none 0 0, .slice none 0 0, .int .u8 0, .slice none 0 0, .slice none 0 0]) (by kernel_rfl)) rfl ?_
    rintro _ wB4 ⟨gB4, rfl, B4, hgB4, ex⟩
    have lB4 := B4.lt; have zB4 := ex.size
    have nB2_4 : gB2 < gB4 := Nat.lt_of_lt_of_le B2.lt hgB4
    have nB3_4 : gB3 < gB4 := Nat.lt_of_lt_of_le B3.lt hgB4
    replace F := F.grow ex hgB4
    replace KA := KA.grow ex hgB4
    replace B1 := B1.grow ex hgB4
    replace B2 := B2.grow ex hgB4
    replace B3 := B3.grow ex hgB4
    refine wl_ef (ef_storeP (o := 0) rfl rfl (by kernel_rfl) B4 (Nat.le_of_ble_eq_true rfl) (all_ones rfl)) rfl ?_
    rintro _ wS3_10 ⟨rfl, D, cg⟩
    have ex := Chs.one cg
    clear cg
    replace F := F.chs ex
    replace KA := KA.chs ex
    replace B1 := B1.chs ex
    replace B2 := B2.chs ex
    replace B3 := B3.chs ex
    replace B4 := D; clear D
    replace B4 := B4.congr (cs' := leafV i0 i1 i2 (leafX (.ok (b.drop at_))).1.1.src i4 i5) rfl
    refine wl_y (y_assign rfl) rfl ?_
    refine wl_y (y_assign rfl) rfl ?_
    refine wl_nil ?_
    refine wq_then_norm (hK5 ?_)
    refine wc_seq ?_; intro K6 hK6
    refine wc_drawJ [(6, [gB2]), (7, [gB3])] (by kernel_rfl) 8 rfl ?_; intro wd4 ex hd4
    replace F := F.ext ex
    replace KA := KA.ext ex
    replace B1 := B1.ext ex
    replace B2 := B2.ext ex
    replace B3 := B3.ext ex
    replace B4 := B4.ext ex
    refine wj_y 0 [] rfl (by kernel_rfl) (fun wr (cr : Chs ([]) _ wr) => y_loadw rfl Tryz.underlying25 rfl (by kernel_rfl) (B4.chs cr)) rfl ?_
    refine wj_y 1 [6] rfl (by kernel_rfl) (fun wr (cr : Chs ([gB2]) _ wr) => y_fieldAddr (o := 0) (s := 1) (off := 0) (o' := 0) rfl Tryz.underlying85 rfl (by kernel_rfl) rfl rfl) rfl ?_
    refine wj_y 2 [6] rfl (by kernel_rfl) (fun wr (cr : Chs ([gB2]) _ wr) => y_load1 rfl Tryz.underlying22 rfl ((B1.chs cr).get (i := 0) rfl)) rfl ?_
    refine wj_y 3 [6] rfl (by kernel_rfl) (fun wr (cr : Chs ([gB2]) _ wr) => y_move rfl) rfl ?_
    refine wj_y 4 [6] rfl (by kernel_rfl) (fun wr (cr : Chs ([gB2]) _ wr) => y_move rfl) rfl ?_
    refine wj_y 5 [6] rfl (by kernel_rfl) (fun wr (cr : Chs ([gB2]) _ wr) => y_build rfl (cells := placeV A n c nx z) (by kernel_rfl)) rfl ?_
    refine wj_one 6 (by kernel_rfl) ?_; refine oj_ef rfl (ef_storeP (o := 0) rfl rfl (by kernel_rfl) B2 (Nat.le_of_ble_eq_true rfl) (all_ones rfl)) rfl ?_
    rintro _ wS4_6 ⟨rfl, D, cg⟩
    have ex := Chs.one cg
    clear cg
    refine ⟨ex, ?_⟩
    replace F := F.chs ex
    replace KA := KA.chs ex
    replace B1 := B1.chs ex
    replace B3 := B3.chs ex
    replace B4 := B4.chs ex
    replace B2 := D; clear D
    replace B2 := B2.congr (cs' := leafV i0 i1 i2 (leafX (.ok (b.drop at_))).1.1.src i4 i5) rfl
    refine wj_one 7 (by kernel_rfl) ?_; refine oj_ef rfl (ef_storeP (o := 0) rfl rfl (by kernel_rfl) B3 (Nat.le_of_ble_eq_true rfl) (all_ones rfl)) rfl ?_
    rintro _ wS4_7 ⟨rfl, D, cg⟩
    have ex := Chs.one cg
    clear cg
    refine ⟨ex, ?_⟩
    replace F := F.chs ex
    replace KA := KA.chs ex
    replace B1 := B1.chs ex
    replace B2 := B2.chs ex
    replace B4 := B4.chs ex
    replace B3 := D; clear D
    replace B3 := B3.congr (cs' := placeV A n c nx z) rfl
    refine wj_done (by kernel_rfl) ?_
    refine wq_nop ?_
    refine wq_then_norm (hK6 ?_)
    refine wc_ret ?_
    refine hret rfl rfl B2 rfl B3 rfl ?_
    rw [hI]
    refine ⟨_, _, rfl, LeafC.imp HL2 fun _ _ s w hw => s w (hS w hw), ?_, ((F.drop (by omega)).drop (by omega)).drop (by omega) |>.toExt (by simp)⟩
    by_cases hz0 : z = 0
    · obtain ⟨k1, k2⟩ := hnx hz0
      show PlS A0 n0 b0 _ (if z ≠ 0 then _ else _)
      rw [if_neg (by omega), k1]
      exact ⟨A, n, c, nx, z, b, rfl, hc, hn, hS, hl, .inl ⟨hz0, rfl, k2⟩⟩
    · show PlS A0 n0 b0 _ (if z ≠ 0 then _ else _)
      rw [if_pos hz0]
      exact ⟨A, n, c, nx, z, b, rfl, hc, hn, hS, hl, .inr ⟨hz0, h8, rfl⟩⟩
theorem plpack_any (w : World) (HA : Bs w A0 n0 b0) (H : PlS A0 n0 b0 cs s) :
    Calls Tryz.prog 42 #[.agg cs] w fun r w' => ∃ cl cs', r = .returned (.tuple #[.agg cl, .agg cs']) ∧ PackS A0 n0 b0 cl (packX s).1 ∧ PlS A0 n0 b0 cs' (packX s).2 ∧ Ext w w' := by
  have F := Chs.refl [] w
  have KA : Kp w.heap.size [] (fun w => Bs w A0 n0 b0) w := Kp.bs HA (by simp)
  obtain ⟨A, n, c, at_, e, rfl, P⟩ := H.get
  obtain ⟨t, ht⟩ : ∃ t, t = vecX (justX 2 1 (justX 2 1 s)) := ⟨_, rfl⟩
  obtain ⟨l, hl⟩ : ∃ l, l = leafI t.2 := ⟨_, rfl⟩
  have hX : packX s = (⟨t.1, l.1, (vecX l.2).1⟩, (vecX l.2).2) := by rw [hl, ht]; rfl
  refine vc_entercc (s := 8) (s' := 3) 29 Tryz.func42 rfl rfl rfl Tryz.underlying27 rfl (by kernel_rfl) Tryz.underlying85 rfl (by kernel_rfl) rfl ?_
  intro Q hret
  refine wc_seq ?_; intro K1 hK1
  refine wc_region ?_
  refine wl_ef (ef_box rfl rfl) rfl ?_
  rintro _ wB1 ⟨gB1, rfl, B1, hgB1, ex⟩
  have lB1 := B1.lt; have zB1 := ex.size
  replace F := F.grow ex hgB1
  replace KA := KA.grow ex hgB1
  refine wl_ef (ef_alloc (Z := #[.slice none 0 0, .slice none 0 0, .slice none 0 0, .slice none 0 0, .int .u8 0, .slice none 0 0, .slice none 0 0, .slice none 0 0]) (by kernel_rfl)) rfl ?_
  rintro _ wB2 ⟨gB2, rfl, B2, hgB2, ex⟩
  have lB2 := B2.lt; have zB2 := ex.size
  have nB1_2 : gB1 < gB2 := Nat.lt_of_lt_of_le B1.lt hgB2
  replace F := F.grow ex hgB2
  replace KA := KA.grow ex hgB2
  replace B1 := B1.grow ex hgB2
  refine wl_ef (ef_alloc (Z := #[.slice none 0 0, .int .i64 0, .int .i64 0]) (by kernel_rfl)) rfl ?_
  rintro _ wB3 ⟨gB3, rfl, B3, hgB3, ex⟩
  have lB3 := B3.lt; have zB3 := ex.size
  have nB1_3 : gB1 < gB3 := Nat.lt_of_lt_of_le B1.lt hgB3
  have nB2_3 : gB2 < gB3 := Nat.lt_of_lt_of_le B2.lt hgB3
  replace F := F.grow ex hgB3
  replace KA := KA.grow ex hgB3
  replace B1 := B1.grow ex hgB3
  replace B2 := B2.grow ex hgB3
  refine wl_nil ?_
  refine wq_then_norm (hK1 ?_)
  refine wc_seq ?_; intro K2 hK2
  refine wc_region ?_
  refine wl_ef (ef_alloc (Z := #[.slice none 0 0, .slice none 0 0, .slice none 0 0, .slice none 0 0, .int .u8 0, .slice none 0 0, .slice none 0 0, .slice none 0 0]) (by kernel_rfl)) rfl ?_
  rintro _ wB4 ⟨gB4, rfl, B4, hgB4, ex⟩
  have lB4 := B4.lt; have zB4 := ex.size
  have nB1_4 : gB1 < gB4 := Nat.lt_of_lt_of_le B1.lt hgB4
  have nB2_4 : gB2 < gB4 := Nat.lt_of_lt_of_le B2.lt hgB4
  have nB3_4 : gB3 < gB4 := Nat.lt_of_lt_of_le B3.lt hgB4
  replace F := F.grow ex hgB4
  replace KA := KA.grow ex hgB4
  replace B1 := B1.grow ex hgB4
  replace B2 := B2.grow ex hgB4
  replace B3 := B3.grow ex hgB4
  refine wl_nil ?_
  refine wq_then_norm (hK2 ?_)
  refine wc_seq ?_; intro K3 hK3
  refine wc_region ?_
  refine wl_y (y_loadw rfl Tryz.underlying85 rfl (by kernel_rfl) B1) rfl ?_
  refine wl_call Tryz.func54 rfl rfl rfl (pljust_any 2 1 2 1 rfl rfl _ KA.out P (by omega)) rfl ?_
  rintro e w2 ⟨cs2, rfl, P, ex⟩
  refine ⟨_, rfl, ?_⟩
  replace F := F.ext ex
  replace KA := KA.ext ex
  replace B1 := B1.ext ex
  replace B2 := B2.ext ex
  replace B3 := B3.ext ex
  replace B4 := B4.ext ex
  obtain ⟨A2, n2, c2, t2, e2, rfl, P⟩ := P.get
  refine wl_ef (ef_storeP (o := 0) rfl rfl (by kernel_rfl) B1 (Nat.le_of_ble_eq_true rfl) (all_ones rfl)) rfl ?_
  rintro _ wS2_2 ⟨rfl, D, cg⟩
  have ex := Chs.one cg
  clear cg
  replace F := F.chs ex
  replace KA := KA.chs ex
  replace B2 := B2.chs ex
  replace B3 := B3.chs ex
  replace B4 := B4.chs ex
  replace B1 := D; clear D
  replace B1 := B1.congr (cs' := placeV A2 n2 c2 t2 e2) rfl
  refine wl_nil ?_
  refine wq_then_norm (hK3 ?_)
  refine wc_seq ?_; intro K4 hK4
  refine wc_region ?_
  refine wl_y (y_loadw rfl Tryz.underlying85 rfl (by kernel_rfl) B1) rfl ?_
  refine wl_call Tryz.func54 rfl rfl rfl (pljust_any 2 1 2 1 rfl rfl _ KA.out P (by omega)) rfl ?_
  rintro e w3 ⟨cs3, rfl, P, ex⟩
  refine ⟨_, rfl, ?_⟩
  replace F := F.ext ex
  replace KA := KA.ext ex
  replace B1 := B1.ext ex
  replace B2 := B2.ext ex
  replace B3 := B3.ext ex
  replace B4 := B4.ext ex
  obtain ⟨A3, n3, c3, t3, e3, rfl, P⟩ := P.get
  refine wl_ef (ef_storeP (o := 0) rfl rfl (by kernel_rfl) B1 (Nat.le_of_ble_eq_true rfl) (all_ones rfl)) rfl ?_
  rintro _ wS3_2 ⟨rfl, D, cg⟩
  have ex := Chs.one cg
  clear cg
  replace F := F.chs ex
  replace KA := KA.chs ex
  replace B2 := B2.chs ex
  replace B3 := B3.chs ex
  replace B4 := B4.chs ex
  replace B1 := D; clear D
  replace B1 := B1.congr (cs' := placeV A3 n3 c3 t3 e3) rfl
  refine wl_nil ?_
  refine wq_then_norm (hK4 ?_)
  refine wc_seq ?_; intro K5 hK5
  refine wc_region ?_
  refine wl_y (y_loadw rfl Tryz.underlying85 rfl (by kernel_rfl) B1) rfl ?_
  refine wl_call Tryz.func55 rfl rfl rfl (plvec_any _ KA.out P) rfl ?_
  rintro e w4 ⟨h4, cs4, rfl, Sh4, lh4, mh4, uh4, P, ex⟩
  refine ⟨_, rfl, ?_⟩
  replace F := F.ext ex
  replace KA := KA.ext ex
  replace B1 := B1.ext ex
  replace B2 := B2.ext ex
  replace B3 := B3.ext ex
  replace B4 := B4.ext ex
  rw [← ht] at P Sh4 lh4; obtain ⟨A4, n4, c4, t4, e4, rfl, P⟩ := P.get
  refine wl_y (y_move rfl) rfl ?_
  refine wl_y (y_extract rfl rfl) rfl ?_
  refine wl_y (y_extract rfl rfl) rfl ?_
  refine wl_y (y_fieldAddr (o := 0) (s := 1) (off := 0) (o' := 0) rfl Tryz.underlying27 rfl (by kernel_rfl) rfl rfl) rfl ?_
  refine wl_ef (ef_storeB (i := 0) rfl rfl rfl (by kernel_rfl) B4 (Nat.le_of_ble_eq_true rfl)) rfl ?_
  rintro _ wS4_6 ⟨rfl, D, cg⟩
  have ex := Chs.one cg
  clear cg
  replace F := F.chs ex
  replace KA := KA.chs ex
  replace B1 := B1.chs ex
  replace B2 := B2.chs ex
  replace B3 := B3.chs ex
  replace B4 := D; clear D
  refine wl_ef (ef_storeP (o := 0) rfl rfl (by kernel_rfl) B1 (Nat.le_of_ble_eq_true rfl) (all_ones rfl)) rfl ?_
  rintro _ wS4_7 ⟨rfl, D, cg⟩
  have ex := Chs.one cg
  clear cg
  replace F := F.chs ex
  replace KA := KA.chs ex
  replace B2 := B2.chs ex
  replace B3 := B3.chs ex
  replace B4 := B4.chs ex
  replace B1 := D; clear D
  replace B1 := B1.congr (cs' := placeV A4 n4 c4 t4 e4) rfl
  refine wl_nil ?_
  refine wq_then_norm (hK5 ?_)
  refine wc_seq ?_; intro K6 hK6
  refine wc_region ?_
  refine wl_y (y_loadw rfl Tryz.underlying85 rfl (by kernel_rfl) B1) rfl ?_
  refine wl_call Tryz.func96 rfl rfl rfl (plleaf_any _ KA.out P) rfl ?_
  rintro e w5 ⟨cl, cs5, rfl, HL, P, ex⟩
  refine ⟨_, rfl, ?_⟩
  replace F := F.ext ex
  replace KA := KA.ext ex
  replace B1 := B1.ext ex
  replace B2 := B2.ext ex
  replace B3 := B3.ext ex
  replace B4 := B4.ext ex
  rw [← hl] at HL P; obtain ⟨i0, i1, i2, i4, i5, rfl, hsr, q0, q1, q2, q4, q5⟩ := HL; obtain ⟨A5, n5, c5, t5, e5, rfl, P⟩ := P.get
  refine wl_y (y_move rfl) rfl ?_
  refine wl_y (y_extract rfl rfl) rfl ?_
  refine wl_y (y_extract rfl rfl) rfl ?_
  refine wl_y (y_fieldAddr (o := 1) (s := 6) (off := 0) (o' := 1) rfl Tryz.underlying27 rfl (by kernel_rfl) rfl rfl) rfl ?_
  refine wl_ef (ef_storeP (o := 1) rfl rfl (by kernel_rfl) B4 (Nat.le_of_ble_eq_true rfl) (all_ones rfl)) rfl ?_
  rintro _ wS5_6 ⟨rfl, D, cg⟩
  have ex := Chs.one cg
  clear cg
  replace F := F.chs ex
  replace KA := KA.chs ex
  replace B1 := B1.chs ex
  replace B2 := B2.chs ex
  replace B3 := B3.chs ex
  replace B4 := D; clear D
  refine wl_ef (ef_storeP (o := 0) rfl rfl (by kernel_rfl) B1 (Nat.le_of_ble_eq_true rfl) (all_ones rfl)) rfl ?_
  rintro _ wS5_7 ⟨rfl, D, cg⟩
  have ex := Chs.one cg
  clear cg
  replace F := F.chs ex
  replace KA := KA.chs ex
  replace B2 := B2.chs ex
  replace B3 := B3.chs ex
  replace B4 := B4.chs ex
  replace B1 := D; clear D
  replace B1 := B1.congr (cs' := placeV A5 n5 c5 t5 e5) rfl
  refine wl_nil ?_
  refine wq_then_norm (hK6 ?_)
  refine wc_seq ?_; intro K7 hK7
  refine wc_region ?_
  refine wl_y (y_loadw rfl Tryz.underlying85 rfl (by kernel_rfl) B1) rfl ?_
  refine wl_call Tryz.func55 rfl rfl rfl (plvec_any _ KA.out P) rfl ?_
  rintro e w6 ⟨h6, cs6, rfl, Sh6, lh6, mh6, uh6, P, ex⟩
  refine ⟨_, rfl, ?_⟩
  replace F := F.ext ex
  replace KA := KA.ext ex
  replace B1 := B1.ext ex
  replace B2 := B2.ext ex
  replace B3 := B3.ext ex
  replace B4 := B4.ext ex
  obtain ⟨A6, n6, c6, t6, e6, rfl, P⟩ := P.get
  refine wl_y (y_move rfl) rfl ?_
  refine wl_y (y_extract rfl rfl) rfl ?_
  refine wl_y (y_extract rfl rfl) rfl ?_
  refine wl_y (y_fieldAddr (o := 7) (s := 1) (off := 0) (o' := 7) rfl Tryz.underlying27 rfl (by kernel_rfl) rfl rfl) rfl ?_
  refine wl_ef (ef_storeB (i := 7) rfl rfl rfl (by kernel_rfl) B4 (Nat.le_of_ble_eq_true rfl)) rfl ?_
  rintro _ wS6_6 ⟨rfl, D, cg⟩
  have ex := Chs.one cg
  clear cg
  replace F := F.chs ex
  replace KA := KA.chs ex
  replace B1 := B1.chs ex
  replace B2 := B2.chs ex
  replace B3 := B3.chs ex
  replace B4 := D; clear D
  refine wl_ef (ef_storeP (o := 0) rfl rfl (by kernel_rfl) B1 (Nat.le_of_ble_eq_true rfl) (all_ones rfl)) rfl ?_
  rintro _ wS6_7 ⟨rfl, D, cg⟩
  have ex := Chs.one cg
  clear cg
  replace F := F.chs ex
  replace KA := KA.chs ex
  replace B2 := B2.chs ex
  replace B3 := B3.chs ex
  replace B4 := B4.chs ex
  replace B1 := D; clear D
  replace B1 := B1.congr (cs' := placeV A6 n6 c6 t6 e6) rfl
  refine wl_nil ?_
  refine wq_then_norm (hK7 ?_)
  refine wc_seq ?_; intro K8 hK8
  replace B4 := B4.congr (cs' := packV h4 i0 i1 i2 l.1.src i4 i5 h6) rfl
  refine wc_drawJ [(2, [gB2]), (3, [gB3])] (by kernel_rfl) 4 rfl ?_; intro wd7 ex hd7
  replace F := F.ext ex
  replace KA := KA.ext ex
  replace B1 := B1.ext ex
  replace B2 := B2.ext ex
  replace B3 := B3.ext ex
  replace B4 := B4.ext ex
  refine wj_y 0 [] rfl (by kernel_rfl) (fun wr (cr : Chs ([]) _ wr) => y_loadw rfl Tryz.underlying27 rfl (by kernel_rfl) (B4.chs cr)) rfl ?_
  refine wj_y 1 [2] rfl (by kernel_rfl) (fun wr (cr : Chs ([gB2]) _ wr) => y_loadw rfl Tryz.underlying85 rfl (by kernel_rfl) (B1.chs cr)) rfl ?_
  refine wj_one 2 (by kernel_rfl) ?_; refine oj_ef rfl (ef_storeP (o := 0) rfl rfl (by kernel_rfl) B2 (Nat.le_of_ble_eq_true rfl) (all_ones rfl)) rfl ?_
  rintro _ wS7_2 ⟨rfl, D, cg⟩
  have ex := Chs.one cg
  clear cg
  refine ⟨ex, ?_⟩
  replace F := F.chs ex
  replace KA := KA.chs ex
  replace B1 := B1.chs ex
  replace B3 := B3.chs ex
  replace B4 := B4.chs ex
  replace B2 := D; clear D
  replace B2 := B2.congr (cs' := packV h4 i0 i1 i2 l.1.src i4 i5 h6) rfl
  refine wj_one 3 (by kernel_rfl) ?_; refine oj_ef rfl (ef_storeP (o := 0) rfl rfl (by kernel_rfl) B3 (Nat.le_of_ble_eq_true rfl) (all_ones rfl)) rfl ?_
  rintro _ wS7_3 ⟨rfl, D, cg⟩
  have ex := Chs.one cg
  clear cg
  refine ⟨ex, ?_⟩
  replace F := F.chs ex
  replace KA := KA.chs ex
  replace B1 := B1.chs ex
  replace B2 := B2.chs ex
  replace B4 := B4.chs ex
  replace B3 := D; clear D
  replace B3 := B3.congr (cs' := placeV A6 n6 c6 t6 e6) rfl
  refine wj_done (by kernel_rfl) ?_
  refine wq_nop ?_
  refine wq_then_norm (hK8 ?_)
  refine wc_ret ?_
  refine hret rfl rfl B2 rfl B3 rfl ?_
  rw [hX]; exact ⟨_, _, rfl, ⟨_, _, _, _, _, _, _, rfl, hsr, Sh4, q0, q1, q2, q4, q5, Sh6⟩, P, (((F.drop (by omega)).drop (by omega)).drop (by omega)).drop (by omega) |>.toExt (by simp)⟩
theorem plprop_any (w : World) (HA : Bs w A0 n0 b0) (H : PlS A0 n0 b0 cs s) :
    Calls Tryz.prog 45 #[.agg cs] w fun r w' => ∃ cl cs', r = .returned (.tuple #[.agg cl, .agg cs']) ∧ PropS A0 n0 b0 cl (propX s).1 ∧ PlS A0 n0 b0 cs' (propX s).2 ∧ Ext w w' := by
  have F := Chs.refl [] w
  have KA : Kp w.heap.size [] (fun w => Bs w A0 n0 b0) w := Kp.bs HA (by simp)
  obtain ⟨A, n, c, at_, e, rfl, P⟩ := H.get
  obtain ⟨k, hk⟩ : ∃ k, k = (numX 1 s).1 := ⟨_, rfl⟩
  obtain ⟨t, ht⟩ : ∃ t, t = (numX 1 s).2 := ⟨_, rfl⟩
  have hX : propX s = if k = 1 then (⟨1, (packX t).1, Leaf.zero, 0⟩, (packX t).2)
    else if k = 2 then (⟨2, Pack.zero, (leafI t).1, 0⟩, (leafI t).2)
    else if k = 3 then (⟨3, Pack.zero, Leaf.zero, ((numX 4 t).1 : Int)⟩, (numX 4 t).2)
    else (⟨k, Pack.zero, Leaf.zero, 0⟩, badX t) := by rw [hk, ht]; rfl
  have hk8 : k < 256 := by rw [hk]; exact numX_lt 1 _
  have hn4 := numX_lt 4 t
  obtain ⟨m4, hm4⟩ : ∃ n, n = (numX 4 t).1 := ⟨_, rfl⟩
  rw [← hm4] at hX hn4
  have hke : (∃ z, t = .error z) → k = 0 := fun ⟨z, hz⟩ => by
    rw [hk]
    rw [ht] at hz
    cases s with
    | error z => rfl
    | ok xs =>
      rw [numX_ok] at hz ⊢
      split at hz
      · rename_i h; rw [if_pos h]
      · cases hz
  refine vc_entercc (s := 16) (s' := 3) 48 Tryz.func45 rfl rfl rfl Tryz.underlying32 rfl (by kernel_rfl) Tryz.underlying85 rfl (by kernel_rfl) rfl ?_
  intro Q hret
  refine wc_seq ?_; intro K1 hK1
  refine wc_region ?_
  refine wl_ef (ef_box rfl rfl) rfl ?_
  rintro _ wB1 ⟨gB1, rfl, B1, hgB1, ex⟩
  have lB1 := B1.lt; have zB1 := ex.size
  replace F := F.grow ex hgB1
  replace KA := KA.grow ex hgB1
  refine wl_ef (ef_alloc (Z := #[.int .u8 0, .slice none 0 0, .slice none 0 0, .slice none 0 0, .slice none 0 0, .int .u8 0, .slice none 0 0, .slice none 0 0, .slice none 0 0, .slice none 0 0, .slice none 0 0, .slice none 0 0, .int .u8 0, .slice none 0 0, .slice none 0 0, .int .i64 0]) (by kernel_rfl)) rfl ?_
  rintro _ wB2 ⟨gB2, rfl, B2, hgB2, ex⟩
  have lB2 := B2.lt; have zB2 := ex.size
  have nB1_2 : gB1 < gB2 := Nat.lt_of_lt_of_le B1.lt hgB2
  replace F := F.grow ex hgB2
  replace KA := KA.grow ex hgB2
  replace B1 := B1.grow ex hgB2
  refine wl_ef (ef_alloc (Z := #[.slice none 0 0, .int .i64 0, .int .i64 0]) (by kernel_rfl)) rfl ?_
  rintro _ wB3 ⟨gB3, rfl, B3, hgB3, ex⟩
  have lB3 := B3.lt; have zB3 := ex.size
  have nB1_3 : gB1 < gB3 := Nat.lt_of_lt_of_le B1.lt hgB3
  have nB2_3 : gB2 < gB3 := Nat.lt_of_lt_of_le B2.lt hgB3
  replace F := F.grow ex hgB3
  replace KA := KA.grow ex hgB3
  replace B1 := B1.grow ex hgB3
  replace B2 := B2.grow ex hgB3
  refine wl_nil ?_
  refine wq_then_norm (hK1 ?_)
  refine wc_seq ?_; intro K2 hK2
  refine wc_region ?_
  refine wl_ef (ef_alloc (Z := #[.int .u8 0, .slice none 0 0, .slice none 0 0, .slice none 0 0, .slice none 0 0, .int .u8 0, .slice none 0 0, .slice none 0 0, .slice none 0 0, .slice none 0 0, .slice none 0 0, .slice none 0 0, .int .u8 0, .slice none 0 0, .slice none 0 0, .int .i64 0]) (by kernel_rfl)) rfl ?_
  rintro _ wB4 ⟨gB4, rfl, B4, hgB4, ex⟩
  have lB4 := B4.lt; have zB4 := ex.size
  have nB1_4 : gB1 < gB4 := Nat.lt_of_lt_of_le B1.lt hgB4
  have nB2_4 : gB2 < gB4 := Nat.lt_of_lt_of_le B2.lt hgB4
  have nB3_4 : gB3 < gB4 := Nat.lt_of_lt_of_le B3.lt hgB4
  replace F := F.grow ex hgB4
  replace KA := KA.grow ex hgB4
  replace B1 := B1.grow ex hgB4
  replace B2 := B2.grow ex hgB4
  replace B3 := B3.grow ex hgB4
  refine wl_nil ?_
  refine wq_then_norm (hK2 ?_)
  refine wc_seq ?_; intro K3 hK3
  refine wc_region ?_
  refine wl_y (y_loadw rfl Tryz.underlying85 rfl (by kernel_rfl) B1) rfl ?_
  refine wl_call Tryz.func56 rfl rfl rfl (plnum_any 1 1 rfl _ KA.out P (by omega)) rfl ?_
  rintro e w2 ⟨cs2, rfl, P, ex⟩
  refine ⟨_, rfl, ?_⟩
  replace F := F.ext ex
  replace KA := KA.ext ex
  replace B1 := B1.ext ex
  replace B2 := B2.ext ex
  replace B3 := B3.ext ex
  replace B4 := B4.ext ex
  rw [← ht] at P; rw [← hk]; obtain ⟨A2, n2, c2, t2, e2, rfl, P⟩ := P.get
  refine wl_y (y_move rfl) rfl ?_
  refine wl_y (y_extract rfl rfl) rfl ?_
  refine wl_y (y_extract rfl rfl) rfl ?_
  refine wl_y (y_assign rfl) rfl ?_
  refine wl_ef (ef_storeP (o := 0) rfl rfl (by kernel_rfl) B1 (Nat.le_of_ble_eq_true rfl) (all_ones rfl)) rfl ?_
  rintro _ wS2_6 ⟨rfl, D, cg⟩
  have ex := Chs.one cg
  clear cg
  replace F := F.chs ex
  replace KA := KA.chs ex
  replace B2 := B2.chs ex
  replace B3 := B3.chs ex
  replace B4 := B4.chs ex
  replace B1 := D; clear D
  replace B1 := B1.congr (cs' := placeV A2 n2 c2 t2 e2) rfl
  refine wl_nil ?_
  refine wq_then_norm (hK3 ?_)
  refine wc_seq ?_; intro K4 hK4
  refine wc_region ?_
  refine wl_y (y_move rfl) rfl ?_
  refine wl_y (y_conv rfl Tryz.underlying53 Tryz.underlying5 (show IntKind.u8.wrap ((k : Nat) : Int) = ((k : Nat) : Int) from IntWalk.u8_in _ ⟨by omega, by omega⟩)) rfl ?_
  refine wl_y (y_fieldAddr (o := 0) (s := 1) (off := 0) (o' := 0) rfl Tryz.underlying32 rfl (by kernel_rfl) rfl rfl) rfl ?_
  refine wl_ef (ef_storeB (i := 0) rfl rfl rfl (by kernel_rfl) B4 (Nat.le_of_ble_eq_true rfl)) rfl ?_
  rintro _ wS3_3 ⟨rfl, D, cg⟩
  have ex := Chs.one cg
  clear cg
  replace F := F.chs ex
  replace KA := KA.chs ex
  replace B1 := B1.chs ex
  replace B2 := B2.chs ex
  replace B3 := B3.chs ex
  replace B4 := D; clear D
  replace B4 := B4.congr (cs' := propV k nilH nilH nilH nilH 0 nilH nilH nilH nilH nilH nilH 0 nilH nilH 0) rfl
  refine wl_nil ?_
  refine wq_then_norm (hK4 ?_)
  refine wc_seq ?_; intro K5 hK5
  refine wc_seq ?_; intro K6 hK6
  refine wc_region ?_
  refine wl_y (y_fieldAddr (o := 2) (s := 1) (off := 0) (o' := 2) rfl Tryz.underlying85 rfl (by kernel_rfl) rfl rfl) rfl ?_
  refine wl_y (y_load1 rfl Tryz.underlying3 rfl (B1.get (i := 2) rfl)) rfl ?_
  refine wl_y (y_neq rfl rfl) rfl ?_
  refine wl_nil ?_
  refine wq_then_norm (hK6 ?_)
  refine wc_dec rfl (fun hc1 => ?_) (fun hc1 => ?_)
  · skip
    refine wc_seq ?_; intro K7 hK7
    refine wc_drawJ [(2, [gB2]), (3, [gB3])] (by kernel_rfl) 4 rfl ?_; intro wd5 ex hd5
    replace F := F.ext ex
    replace KA := KA.ext ex
    replace B1 := B1.ext ex
    replace B2 := B2.ext ex
    replace B3 := B3.ext ex
    replace B4 := B4.ext ex
    refine wj_y 0 [] rfl (by kernel_rfl) (fun wr (cr : Chs ([]) _ wr) => y_loadw rfl Tryz.underlying32 rfl (by kernel_rfl) (B4.chs cr)) rfl ?_
    refine wj_y 1 [2] rfl (by kernel_rfl) (fun wr (cr : Chs ([gB2]) _ wr) => y_loadw rfl Tryz.underlying85 rfl (by kernel_rfl) (B1.chs cr)) rfl ?_
    refine wj_one 2 (by kernel_rfl) ?_; refine oj_ef rfl (ef_storeP (o := 0) rfl rfl (by kernel_rfl) B2 (Nat.le_of_ble_eq_true rfl) (all_ones rfl)) rfl ?_
    rintro _ wS5_2 ⟨rfl, D, cg⟩
    have ex := Chs.one cg
    clear cg
    refine ⟨ex, ?_⟩
    replace F := F.chs ex
    replace KA := KA.chs ex
    replace B1 := B1.chs ex
    replace B3 := B3.chs ex
    replace B4 := B4.chs ex
    replace B2 := D; clear D
    replace B2 := B2.congr (cs' := propV k nilH nilH nilH nilH 0 nilH nilH nilH nilH nilH nilH 0 nilH nilH 0) rfl
    refine wj_one 3 (by kernel_rfl) ?_; refine oj_ef rfl (ef_storeP (o := 0) rfl rfl (by kernel_rfl) B3 (Nat.le_of_ble_eq_true rfl) (all_ones rfl)) rfl ?_
    rintro _ wS5_3 ⟨rfl, D, cg⟩
    have ex := Chs.one cg
    clear cg
    refine ⟨ex, ?_⟩
    replace F := F.chs ex
    replace KA := KA.chs ex
    replace B1 := B1.chs ex
    replace B2 := B2.chs ex
    replace B4 := B4.chs ex
    replace B3 := D; clear D
    replace B3 := B3.congr (cs' := placeV A2 n2 c2 t2 e2) rfl
    refine wj_done (by kernel_rfl) ?_
    refine wq_nop ?_
    refine wq_then_norm (hK7 ?_)
    refine wc_ret ?_
    refine wq_then_ret ?_
    refine hret rfl rfl B2 rfl B3 rfl ?_
    obtain ⟨z, hz⟩ : ∃ z, t = .error z := by
      rcases P.err with ⟨h, _⟩ | ⟨_, _, h⟩
      · exact absurd h (by omega)
      · exact ⟨_, h⟩
    have hk0 := hke ⟨z, hz⟩
    have eb : badX t = t := by rw [hz]; rfl
    rw [hX, if_neg (by omega), if_neg (by omega), if_neg (by omega), eb]
    exact ⟨_, _, rfl, PropS.mk (p := ⟨k, Pack.zero, Leaf.zero, 0⟩) PackS.zero (LeafS.zero _ _ _) hk8 (by show (-9223372036854775808 : Int) ≤ 0 ∧ (0 : Int) ≤ 9223372036854775807; omega), P, (((F.drop (by omega)).drop (by omega)).drop (by omega)).drop (by omega) |>.toExt (by simp)⟩
  · skip
    refine wc_skip ?_
    refine wq_then_norm (hK5 ?_)
    refine wc_seq ?_; intro K8 hK8
    refine wc_seq ?_; intro K9 hK9
    obtain ⟨r, htr⟩ : ∃ r, t = .ok r := by
      rcases P.err with ⟨_, h⟩ | ⟨h, _⟩
      · exact h
      · exact absurd h (by omega)
    refine wc_region ?_
    refine wl_y (y_move rfl) rfl ?_
    refine wl_y (y_eql rfl rfl) rfl ?_
    refine wl_nil ?_
    refine wq_then_norm (hK9 ?_)
    refine wc_dec rfl (fun hc2 => ?_) (fun hc2 => ?_)
    · skip
      refine wc_region ?_
      refine wl_y (y_loadw rfl Tryz.underlying85 rfl (by kernel_rfl) B1) rfl ?_
      refine wl_call Tryz.func42 rfl rfl rfl (plpack_any _ KA.out P) rfl ?_
      rintro e w7 ⟨cl, cs7, rfl, HL, P, ex⟩
      refine ⟨_, rfl, ?_⟩
      replace F := F.ext ex
      replace KA := KA.ext ex
      replace B1 := B1.ext ex
      replace B2 := B2.ext ex
      replace B3 := B3.ext ex
      replace B4 := B4.ext ex
      have HP := HL; obtain ⟨i, j0, j1, j2, j4, j5, g, rfl, _⟩ := HL; obtain ⟨A7, n7, c7, t7, e7, rfl, P⟩ := P.get
      refine wl_y (y_move rfl) rfl ?_
      refine wl_y (y_extract rfl rfl) rfl ?_
      refine wl_y (y_extract rfl rfl) rfl ?_
      refine wl_y (y_fieldAddr (o := 1) (s := 8) (off := 0) (o' := 1) rfl Tryz.underlying32 rfl (by kernel_rfl) rfl rfl) rfl ?_
      refine wl_ef (ef_storeP (o := 1) rfl rfl (by kernel_rfl) B4 (Nat.le_of_ble_eq_true rfl) (all_ones rfl)) rfl ?_
      rintro _ wS7_6 ⟨rfl, D, cg⟩
      have ex := Chs.one cg
      clear cg
      replace F := F.chs ex
      replace KA := KA.chs ex
      replace B1 := B1.chs ex
      replace B2 := B2.chs ex
      replace B3 := B3.chs ex
      replace B4 := D; clear D
      refine wl_ef (ef_storeP (o := 0) rfl rfl (by kernel_rfl) B1 (Nat.le_of_ble_eq_true rfl) (all_ones rfl)) rfl ?_
      rintro _ wS7_7 ⟨rfl, D, cg⟩
      have ex := Chs.one cg
      clear cg
      replace F := F.chs ex
      replace KA := KA.chs ex
      replace B2 := B2.chs ex
      replace B3 := B3.chs ex
      replace B4 := B4.chs ex
      replace B1 := D; clear D
      replace B1 := B1.congr (cs' := placeV A7 n7 c7 t7 e7) rfl
      refine wl_nil ?_
      refine wq_then_norm (hK8 ?_)
      refine wc_seq ?_; intro K10 hK10
      obtain rfl : k = 1 := by omega
      replace B4 := B4.congr (cs' := propV 1 i j0 j1 j2 (packX t).1.leaf.src j4 j5 g nilH nilH nilH 0 nilH nilH 0) rfl
      refine wc_drawJ [(2, [gB2]), (3, [gB3])] (by kernel_rfl) 4 rfl ?_; intro wd14 ex hd14
      replace F := F.ext ex
      replace KA := KA.ext ex
      replace B1 := B1.ext ex
      replace B2 := B2.ext ex
      replace B3 := B3.ext ex
      replace B4 := B4.ext ex
      refine wj_y 0 [] rfl (by kernel_rfl) (fun wr (cr : Chs ([]) _ wr) => y_loadw rfl Tryz.underlying32 rfl (by kernel_rfl) (B4.chs cr)) rfl ?_
      refine wj_y 1 [2] rfl (by kernel_rfl) (fun wr (cr : Chs ([gB2]) _ wr) => y_loadw rfl Tryz.underlying85 rfl (by kernel_rfl) (B1.chs cr)) rfl ?_
      refine wj_one 2 (by kernel_rfl) ?_; refine oj_ef rfl (ef_storeP (o := 0) rfl rfl (by kernel_rfl) B2 (Nat.le_of_ble_eq_true rfl) (all_ones rfl)) rfl ?_
      rintro _ wS14_2 ⟨rfl, D, cg⟩
      have ex := Chs.one cg
      clear cg
      refine ⟨ex, ?_⟩
      replace F := F.chs ex
      replace KA := KA.chs ex
      replace B1 := B1.chs ex
      replace B3 := B3.chs ex
      replace B4 := B4.chs ex
      replace B2 := D; clear D
      replace B2 := B2.congr (cs' := propV 1 i j0 j1 j2 (packX t).1.leaf.src j4 j5 g nilH nilH nilH 0 nilH nilH 0) rfl
      refine wj_one 3 (by kernel_rfl) ?_; refine oj_ef rfl (ef_storeP (o := 0) rfl rfl (by kernel_rfl) B3 (Nat.le_of_ble_eq_true rfl) (all_ones rfl)) rfl ?_
      rintro _ wS14_3 ⟨rfl, D, cg⟩
      have ex := Chs.one cg
      clear cg
      refine ⟨ex, ?_⟩
      replace F := F.chs ex
      replace KA := KA.chs ex
      replace B1 := B1.chs ex
      replace B2 := B2.chs ex
      replace B4 := B4.chs ex
      replace B3 := D; clear D
      replace B3 := B3.congr (cs' := placeV A7 n7 c7 t7 e7) rfl
      refine wj_done (by kernel_rfl) ?_
      refine wq_nop ?_
      refine wq_then_norm (hK10 ?_)
      refine wc_ret ?_
      refine hret rfl rfl B2 rfl B3 rfl ?_
      rw [hX, if_pos rfl]; exact ⟨_, _, rfl, PropS.mk (p := ⟨1, (packX t).1, Leaf.zero, 0⟩) HP (LeafS.zero _ _ _) (by show 1 < 256; omega) (by show (-9223372036854775808 : Int) ≤ 0 ∧ (0 : Int) ≤ 9223372036854775807; omega), P, (((F.drop (by omega)).drop (by omega)).drop (by omega)).drop (by omega) |>.toExt (by simp)⟩
    · skip
      refine wc_seq ?_; intro K11 hK11
      refine wc_region ?_
      refine wl_y (y_move rfl) rfl ?_
      refine wl_y (y_eql rfl rfl) rfl ?_
      refine wl_nil ?_
      refine wq_then_norm (hK11 ?_)
      refine wc_dec rfl (fun hc3 => ?_) (fun hc3 => ?_)
      · skip
        refine wc_region ?_
        refine wl_y (y_loadw rfl Tryz.underlying85 rfl (by kernel_rfl) B1) rfl ?_
        refine wl_call Tryz.func96 rfl rfl rfl (plleaf_any _ KA.out P) rfl ?_
        rintro e w9 ⟨cl, cs9, rfl, HL, P, ex⟩
        refine ⟨_, rfl, ?_⟩
        replace F := F.ext ex
        replace KA := KA.ext ex
        replace B1 := B1.ext ex
        replace B2 := B2.ext ex
        replace B3 := B3.ext ex
        replace B4 := B4.ext ex
        have HP := HL; obtain ⟨j0, j1, j2, j4, j5, rfl, _⟩ := HL; obtain ⟨A7, n7, c7, t7, e7, rfl, P⟩ := P.get
        refine wl_y (y_move rfl) rfl ?_
        refine wl_y (y_extract rfl rfl) rfl ?_
        refine wl_y (y_extract rfl rfl) rfl ?_
        refine wl_y (y_fieldAddr (o := 9) (s := 6) (off := 0) (o' := 9) rfl Tryz.underlying32 rfl (by kernel_rfl) rfl rfl) rfl ?_
        refine wl_ef (ef_storeP (o := 9) rfl rfl (by kernel_rfl) B4 (Nat.le_of_ble_eq_true rfl) (all_ones rfl)) rfl ?_
        rintro _ wS9_6 ⟨rfl, D, cg⟩
        have ex := Chs.one cg
        clear cg
        replace F := F.chs ex
        replace KA := KA.chs ex
        replace B1 := B1.chs ex
        replace B2 := B2.chs ex
        replace B3 := B3.chs ex
        replace B4 := D; clear D
        refine wl_ef (ef_storeP (o := 0) rfl rfl (by kernel_rfl) B1 (Nat.le_of_ble_eq_true rfl) (all_ones rfl)) rfl ?_
        rintro _ wS9_7 ⟨rfl, D, cg⟩
        have ex := Chs.one cg
        clear cg
        replace F := F.chs ex
        replace KA := KA.chs ex
        replace B2 := B2.chs ex
        replace B3 := B3.chs ex
        replace B4 := B4.chs ex
        replace B1 := D; clear D
        replace B1 := B1.congr (cs' := placeV A7 n7 c7 t7 e7) rfl
        refine wl_nil ?_
        refine wq_then_norm (hK8 ?_)
        refine wc_seq ?_; intro K12 hK12
        obtain rfl : k = 2 := by omega
        replace B4 := B4.congr (cs' := propV 2 nilH nilH nilH nilH 0 nilH nilH nilH j0 j1 j2 (leafI t).1.src j4 j5 0) rfl
        refine wc_drawJ [(2, [gB2]), (3, [gB3])] (by kernel_rfl) 4 rfl ?_; intro wd14 ex hd14
        replace F := F.ext ex
        replace KA := KA.ext ex
        replace B1 := B1.ext ex
        replace B2 := B2.ext ex
        replace B3 := B3.ext ex
        replace B4 := B4.ext ex
        refine wj_y 0 [] rfl (by kernel_rfl) (fun wr (cr : Chs ([]) _ wr) => y_loadw rfl Tryz.underlying32 rfl (by kernel_rfl) (B4.chs cr)) rfl ?_
        refine wj_y 1 [2] rfl (by kernel_rfl) (fun wr (cr : Chs ([gB2]) _ wr) => y_loadw rfl Tryz.underlying85 rfl (by kernel_rfl) (B1.chs cr)) rfl ?_
        refine wj_one 2 (by kernel_rfl) ?_; refine oj_ef rfl (ef_storeP (o := 0) rfl rfl (by kernel_rfl) B2 (Nat.le_of_ble_eq_true rfl) (all_ones rfl)) rfl ?_
        rintro _ wS14_2 ⟨rfl, D, cg⟩
        have ex := Chs.one cg
        clear cg
        refine ⟨ex, ?_⟩
        replace F := F.chs ex
        replace KA := KA.chs ex
        replace B1 := B1.chs ex
        replace B3 := B3.chs ex
        replace B4 := B4.chs ex
        replace B2 := D; clear D
        replace B2 := B2.congr (cs' := propV 2 nilH nilH nilH nilH 0 nilH nilH nilH j0 j1 j2 (leafI t).1.src j4 j5 0) rfl
        refine wj_one 3 (by kernel_rfl) ?_; refine oj_ef rfl (ef_storeP (o := 0) rfl rfl (by kernel_rfl) B3 (Nat.le_of_ble_eq_true rfl) (all_ones rfl)) rfl ?_
        rintro _ wS14_3 ⟨rfl, D, cg⟩
        have ex := Chs.one cg
        clear cg
        refine ⟨ex, ?_⟩
        replace F := F.chs ex
        replace KA := KA.chs ex
        replace B1 := B1.chs ex
        replace B2 := B2.chs ex
        replace B4 := B4.chs ex
        replace B3 := D; clear D
        replace B3 := B3.congr (cs' := placeV A7 n7 c7 t7 e7) rfl
        refine wj_done (by kernel_rfl) ?_
        refine wq_nop ?_
        refine wq_then_norm (hK12 ?_)
        refine wc_ret ?_
        refine hret rfl rfl B2 rfl B3 rfl ?_
        rw [hX, if_neg (by omega), if_pos rfl]; exact ⟨_, _, rfl, PropS.mk (p := ⟨2, Pack.zero, (leafI t).1, 0⟩) PackS.zero HP (by show 2 < 256; omega) (by show (-9223372036854775808 : Int) ≤ 0 ∧ (0 : Int) ≤ 9223372036854775807; omega), P, (((F.drop (by omega)).drop (by omega)).drop (by omega)).drop (by omega) |>.toExt (by simp)⟩
      · skip
        refine wc_seq ?_; intro K13 hK13
        refine wc_region ?_
        refine wl_y (y_move rfl) rfl ?_
        refine wl_y (y_eql rfl rfl) rfl ?_
        refine wl_nil ?_
        refine wq_then_norm (hK13 ?_)
        refine wc_dec rfl (fun hc4 => ?_) (fun hc4 => ?_)
        · skip
          refine wc_seq ?_; intro K14 hK14
          refine wc_region ?_
          refine wl_y (y_loadw rfl Tryz.underlying85 rfl (by kernel_rfl) B1) rfl ?_
          refine wl_call Tryz.func56 rfl rfl rfl (plnum_any 4 4 rfl _ KA.out P (by omega)) rfl ?_
          rintro e w11 ⟨cs11, rfl, P, ex⟩
          refine ⟨_, rfl, ?_⟩
          replace F := F.ext ex
          replace KA := KA.ext ex
          replace B1 := B1.ext ex
          replace B2 := B2.ext ex
          replace B3 := B3.ext ex
          replace B4 := B4.ext ex
          rw [← hm4]; obtain ⟨A7, n7, c7, t7, e7, rfl, P⟩ := P.get
          refine wl_y (y_move rfl) rfl ?_
          refine wl_y (y_extract rfl rfl) rfl ?_
          refine wl_y (y_extract rfl rfl) rfl ?_
          refine wl_y (y_assign rfl) rfl ?_
          refine wl_ef (ef_storeP (o := 0) rfl rfl (by kernel_rfl) B1 (Nat.le_of_ble_eq_true rfl) (all_ones rfl)) rfl ?_
          rintro _ wS11_6 ⟨rfl, D, cg⟩
          have ex := Chs.one cg
          clear cg
          replace F := F.chs ex
          replace KA := KA.chs ex
          replace B2 := B2.chs ex
          replace B3 := B3.chs ex
          replace B4 := B4.chs ex
          replace B1 := D; clear D
          replace B1 := B1.congr (cs' := placeV A7 n7 c7 t7 e7) rfl
          refine wl_nil ?_
          refine wq_then_norm (hK14 ?_)
          refine wc_region ?_
          refine wl_y (y_move rfl) rfl ?_
          refine wl_y (y_conv rfl Tryz.underlying53 Tryz.underlying3 (i64_ok (by omega) (by omega))) rfl ?_
          refine wl_y (y_fieldAddr (o := 15) (s := 1) (off := 0) (o' := 15) rfl Tryz.underlying32 rfl (by kernel_rfl) rfl rfl) rfl ?_
          refine wl_ef (ef_storeB (i := 15) rfl rfl rfl (by kernel_rfl) B4 (Nat.le_of_ble_eq_true rfl)) rfl ?_
          rintro _ wS12_3 ⟨rfl, D, cg⟩
          have ex := Chs.one cg
          clear cg
          replace F := F.chs ex
          replace KA := KA.chs ex
          replace B1 := B1.chs ex
          replace B2 := B2.chs ex
          replace B3 := B3.chs ex
          replace B4 := D; clear D
          refine wl_nil ?_
          refine wq_then_norm (hK8 ?_)
          refine wc_seq ?_; intro K15 hK15
          obtain rfl : k = 3 := by omega
          replace B4 := B4.congr (cs' := propV 3 nilH nilH nilH nilH 0 nilH nilH nilH nilH nilH nilH 0 nilH nilH (m4 : Int)) rfl
          refine wc_drawJ [(2, [gB2]), (3, [gB3])] (by kernel_rfl) 4 rfl ?_; intro wd14 ex hd14
          replace F := F.ext ex
          replace KA := KA.ext ex
          replace B1 := B1.ext ex
          replace B2 := B2.ext ex
          replace B3 := B3.ext ex
          replace B4 := B4.ext ex
          refine wj_y 0 [] rfl (by kernel_rfl) (fun wr (cr : Chs ([]) _ wr) => y_loadw rfl Tryz.underlying32 rfl (by kernel_rfl) (B4.chs cr)) rfl ?_
          refine wj_y 1 [2] rfl (by kernel_rfl) (fun wr (cr : Chs ([gB2]) _ wr) => y_loadw rfl Tryz.underlying85 rfl (by kernel_rfl) (B1.chs cr)) rfl ?_
          refine wj_one 2 (by kernel_rfl) ?_; refine oj_ef rfl (ef_storeP (o := 0) rfl rfl (by kernel_rfl) B2 (Nat.le_of_ble_eq_true rfl) (all_ones rfl)) rfl ?_
          rintro _ wS14_2 ⟨rfl, D, cg⟩
          have ex := Chs.one cg
          clear cg
          refine ⟨ex, ?_⟩
          replace F := F.chs ex
          replace KA := KA.chs ex
          replace B1 := B1.chs ex
          replace B3 := B3.chs ex
          replace B4 := B4.chs ex
          replace B2 := D; clear D
          replace B2 := B2.congr (cs' := propV 3 nilH nilH nilH nilH 0 nilH nilH nilH nilH nilH nilH 0 nilH nilH (m4 : Int)) rfl
          refine wj_one 3 (by kernel_rfl) ?_; refine oj_ef rfl (ef_storeP (o := 0) rfl rfl (by kernel_rfl) B3 (Nat.le_of_ble_eq_true rfl) (all_ones rfl)) rfl ?_
          rintro _ wS14_3 ⟨rfl, D, cg⟩
          have ex := Chs.one cg
          clear cg
          refine ⟨ex, ?_⟩
          replace F := F.chs ex
          replace KA := KA.chs ex
          replace B1 := B1.chs ex
          replace B2 := B2.chs ex
          replace B4 := B4.chs ex
          replace B3 := D; clear D
          replace B3 := B3.congr (cs' := placeV A7 n7 c7 t7 e7) rfl
          refine wj_done (by kernel_rfl) ?_
          refine wq_nop ?_
          refine wq_then_norm (hK15 ?_)
          refine wc_ret ?_
          refine hret rfl rfl B2 rfl B3 rfl ?_
          rw [hX, if_neg (by omega), if_neg (by omega), if_pos rfl]; exact ⟨_, _, rfl, PropS.mk (p := ⟨3, Pack.zero, Leaf.zero, (m4 : Int)⟩) PackS.zero (LeafS.zero _ _ _) (by show 3 < 256; omega) (by show (-9223372036854775808 : Int) ≤ (m4 : Int) ∧ (m4 : Int) ≤ 9223372036854775807; omega), P, (((F.drop (by omega)).drop (by omega)).drop (by omega)).drop (by omega) |>.toExt (by simp)⟩
        · skip
          refine wc_region ?_
          refine wl_y (y_fieldAddr (o := 2) (s := 1) (off := 0) (o' := 2) rfl Tryz.underlying85 rfl (by kernel_rfl) rfl rfl) rfl ?_
          refine wl_ef (ef_storeB (i := 2) rfl rfl rfl (by kernel_rfl) B1 (Nat.le_of_ble_eq_true rfl)) rfl ?_
          rintro _ wS13_1 ⟨rfl, D, cg⟩
          have ex := Chs.one cg
          clear cg
          replace F := F.chs ex
          replace KA := KA.chs ex
          replace B2 := B2.chs ex
          replace B3 := B3.chs ex
          replace B4 := B4.chs ex
          replace B1 := D; clear D
          replace B1 := B1.congr (placeV_set (e' := 3) rfl)
          refine wl_nil ?_
          refine wq_then_norm (hK8 ?_)
          refine wc_seq ?_; intro K16 hK16
          have P0 := P
          replace P : PlS A0 n0 b0 (placeV A2 n2 c2 t2 3) (badX t) := by rw [htr]; exact P0.seterr (by omega) (by omega)
          refine wc_drawJ [(2, [gB2]), (3, [gB3])] (by kernel_rfl) 4 rfl ?_; intro wd14 ex hd14
          replace F := F.ext ex
          replace KA := KA.ext ex
          replace B1 := B1.ext ex
          replace B2 := B2.ext ex
          replace B3 := B3.ext ex
          replace B4 := B4.ext ex
          refine wj_y 0 [] rfl (by kernel_rfl) (fun wr (cr : Chs ([]) _ wr) => y_loadw rfl Tryz.underlying32 rfl (by kernel_rfl) (B4.chs cr)) rfl ?_
          refine wj_y 1 [2] rfl (by kernel_rfl) (fun wr (cr : Chs ([gB2]) _ wr) => y_loadw rfl Tryz.underlying85 rfl (by kernel_rfl) (B1.chs cr)) rfl ?_
          refine wj_one 2 (by kernel_rfl) ?_; refine oj_ef rfl (ef_storeP (o := 0) rfl rfl (by kernel_rfl) B2 (Nat.le_of_ble_eq_true rfl) (all_ones rfl)) rfl ?_
          rintro _ wS14_2 ⟨rfl, D, cg⟩
          have ex := Chs.one cg
          clear cg
          refine ⟨ex, ?_⟩
          replace F := F.chs ex
          replace KA := KA.chs ex
          replace B1 := B1.chs ex
          replace B3 := B3.chs ex
          replace B4 := B4.chs ex
          replace B2 := D; clear D
          replace B2 := B2.congr (cs' := propV k nilH nilH nilH nilH 0 nilH nilH nilH nilH nilH nilH 0 nilH nilH 0) rfl
          refine wj_one 3 (by kernel_rfl) ?_; refine oj_ef rfl (ef_storeP (o := 0) rfl rfl (by kernel_rfl) B3 (Nat.le_of_ble_eq_true rfl) (all_ones rfl)) rfl ?_
          rintro _ wS14_3 ⟨rfl, D, cg⟩
          have ex := Chs.one cg
          clear cg
          refine ⟨ex, ?_⟩
          replace F := F.chs ex
          replace KA := KA.chs ex
          replace B1 := B1.chs ex
          replace B2 := B2.chs ex
          replace B4 := B4.chs ex
          replace B3 := D; clear D
          replace B3 := B3.congr (cs' := placeV A2 n2 c2 t2 3) rfl
          refine wj_done (by kernel_rfl) ?_
          refine wq_nop ?_
          refine wq_then_norm (hK16 ?_)
          refine wc_ret ?_
          refine hret rfl rfl B2 rfl B3 rfl ?_
          rw [hX, if_neg (by omega), if_neg (by omega), if_neg (by omega)]; exact ⟨_, _, rfl, PropS.mk (p := ⟨k, Pack.zero, Leaf.zero, 0⟩) PackS.zero (LeafS.zero _ _ _) hk8 (by show (-9223372036854775808 : Int) ≤ 0 ∧ (0 : Int) ≤ 9223372036854775807; omega), P, (((F.drop (by omega)).drop (by omega)).drop (by omega)).drop (by omega) |>.toExt (by simp)⟩
end
end Go.Proofs.YtpgalbgonmclaaaGreat
