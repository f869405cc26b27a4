/- Which commits may be, and which are small: what the reference answers. -/
import Derived.Test.YtpgalbgonmclaaaGreatMsI
namespace Go.Proofs.YtpgalbgonmclaaaGreat
open Go.RowKit
attribute [local irreducible] Y Ef WL WC WK WQ WM OpM WN WF OpN
open Nd
section
variable {cs : Array Value} {x : Item20} {s : Stp} {b : Bxd} {y : Way20} {c : Com20} {w : World}
theorem wayV_inj {h0 h1 h2 h4 h5 t i0 i1 i2 i4 i5 t' : Hd} {q q' : Nat} (e : wayV h0 h1 h2 q h4 h5 t = wayV i0 i1 i2 q' i4 i5 t') : h0 = i0 ∧ h1 = i1 ∧ h2 = i2 ∧ q = q' ∧ h4 = i4 ∧ h5 = i5 ∧ t = t' := by
  have e' := congrArg Array.toList e
  simp only [wayV, List.cons.injEq, and_true] at e'
  obtain ⟨e0, e1, e2, e3, e4, e5, e6⟩ := e'
  injection e3 with _ e3
  exact ⟨hd_eq e0, hd_eq e1, hd_eq e2, by omega, hd_eq e4, hd_eq e5, hd_eq e6⟩
theorem WayAt.parts {h0 h1 h2 h4 h5 t : Hd} {q : Nat} (H : WayAt w (wayV h0 h1 h2 q h4 h5 t) y) : LeafAt w (leafV h0 h1 h2 q h4 h5) y.leaf ∧ Els StpAt 2 w t.A t.n y.steps := by
  obtain ⟨i0, i1, i2, q', i4, i5, t', e, HL, a2⟩ := H
  obtain ⟨rfl, rfl, rfl, rfl, rfl, rfl, rfl⟩ := wayV_inj e
  exact ⟨HL, a2⟩
theorem itm_prop {r i h0 h1 h2 h4 h5 g l0 l1 l2 l4 l5 : Hd} {k p t : Nat} {z : Int} {j : Nat} {v : Value} (h : (propV k i h0 h1 h2 p h4 h5 g l0 l1 l2 t l4 l5 z)[j]? = some v) : (itmV r k i h0 h1 h2 p h4 h5 g l0 l1 l2 t l4 l5 z)[j + 1]? = some v := by
  unfold propV at h
  unfold itmV
  rw [List.getElem?_toArray] at h ⊢
  rw [List.getElem?_cons_succ]
  exact h
theorem rWay20_any (w : World) (H : WayAt w cs y) (hf : y.Fit) :
    Calls Tryz.prog 103 #[.agg cs] w fun e w' => e = .returned (.bool (decide (okWay y))) ∧ Ext w w' := by
  obtain ⟨h0, h1, h2, q, h4, h5, t, rfl, HL, a1⟩ := H
  have l2 := a1.1; have l3 := hf.2.1
  have E := Ext.refl w
  refine vc_enter1 67 Tryz.func103 rfl rfl rfl rfl ?_
  intro Q hret
  refine wc_seq ?_; intro K1 hK1
  refine wc_region ?_
  refine wl_ef (ef_box rfl rfl) rfl ?_
  rintro _ wB1 ⟨gB1, rfl, B1, hgB1, ex⟩
  have lB1 := B1.lt; have zB1 := ex.size
  replace E := E.ext ex
  refine wl_y (y_assign rfl) rfl ?_
  refine wl_nil ?_
  refine wq_then_norm (hK1 ?_)
  refine wc_seq ?_; intro K2 hK2
  refine wc_seq ?_; intro K3 hK3
  refine wc_region ?_
  refine wl_y (y_fieldAddr (o := 0) (s := 6) (off := 0) (o' := 0) rfl Tryz.underlying38 rfl (by kernel_rfl) rfl rfl) rfl ?_
  refine wl_y (y_loadx (o := 0) (s := 6) rfl Tryz.underlying25 rfl (by kernel_rfl) B1 rfl) rfl ?_
  refine wl_call Tryz.func97 rfl rfl rfl (rLeaf20_any (s := 3) _ (HL.ext E)) rfl ?_
  rintro e w2 ⟨rfl, ex⟩
  refine ⟨_, rfl, ?_⟩
  replace E := E.ext ex
  replace B1 := B1.ext ex
  skip
  refine wl_y (y_not rfl) rfl ?_
  refine wl_yaskb (y_move rfl) rfl (fun q0 => ?_) (fun q0 => ?_)
  · skip
    refine wl_gno 9 rfl rfl rfl rfl ?_
    refine wl_gno 9 rfl rfl rfl rfl ?_
    refine wl_gno 9 rfl rfl rfl rfl ?_
    refine wl_gno 9 rfl rfl rfl rfl ?_
    refine wl_y (y_pickt rfl rfl) rfl ?_
    refine wl_nil ?_
    refine wq_then_norm (hK3 ?_)
    refine wc_true rfl rfl ?_
    refine wc_seq ?_; intro K4 hK4
    refine wc_region ?_
    refine wl_y (y_assign rfl) rfl ?_
    refine wl_nil ?_
    refine wq_then_norm (hK4 ?_)
    refine wc_ret ?_
    refine wq_then_ret ?_
    refine hret rfl ?_
    exact ⟨ret_no fun h => (by rw [decide_eq_true h.1] at q0; cases q0), E⟩
  · skip
    refine wl_gy 9 rfl rfl (y_fieldAddr (o := 6) (s := 1) (off := 0) (o' := 6) rfl Tryz.underlying38 rfl (by kernel_rfl) rfl rfl) rfl ?_
    refine wl_gy 9 rfl rfl (y_load1 rfl Tryz.underlying36 rfl (B1.get (i := 6) rfl)) rfl ?_
    refine wl_gy 9 rfl rfl (y_len_slice rfl Tryz.underlying36) rfl ?_
    refine wl_gy 9 rfl rfl (y_gtr rfl rfl) rfl ?_
    refine wl_y (y_pickf rfl rfl) rfl ?_
    refine wl_nil ?_
    refine wq_then_norm (hK3 ?_)
    refine wc_dec rfl (fun hc1 => ?_) (fun hc1 => ?_)
    · skip
      refine wc_seq ?_; intro K5 hK5
      refine wc_region ?_
      refine wl_y (y_assign rfl) rfl ?_
      refine wl_nil ?_
      refine wq_then_norm (hK5 ?_)
      refine wc_ret ?_
      refine wq_then_ret ?_
      refine hret rfl ?_
      exact ⟨ret_no fun h => by have := h.2.1; omega, E⟩
    · skip
      refine wc_skip ?_
      refine wq_then_norm (hK2 ?_)
      refine wc_seq ?_; intro K6 hK6
      refine wc_seq ?_; intro K7 hK7
      have ql : okLeafS y.leaf 3 := by simpa using q0
      have X := a1.ext E fun _ _ h => StpAt.ext h E
      refine wc_region ?_
      refine wl_y (y_assign rfl) rfl ?_
      refine wl_nil ?_
      refine wq_then_norm (hK7 ?_)
      refine wc_block ?_
      refine wc_loop (fun n' L wr => ∃ i : Nat, L = [(1, .pointer (some ⟨gB1, 0, none⟩)), (3, .int .i64 (i : Int))] ∧ n' = t.n - i ∧ (i ≤ t.n ∧ wr = w2 ∧ ∀ s ∈ y.steps.take i, okStp s)) _ _ ⟨0, rfl, rfl, by omega, rfl, by simp⟩ ⟨rfl, (by first | rfl | exact congrArg some (int_val (by omega))), trivial⟩ ?_
      rintro KL1 n' L wr ⟨i, rfl, rfl, hi, rfl, hall⟩ hL1
      refine wc_seq ?_; intro K8 hK8
      refine wc_seq ?_; intro K9 hK9
      refine wc_region ?_
      refine wl_y (y_move rfl) rfl ?_
      refine wl_y (y_fieldAddr (o := 6) (s := 1) (off := 0) (o' := 6) rfl Tryz.underlying38 rfl (by kernel_rfl) rfl rfl) rfl ?_
      refine wl_y (y_load1 rfl Tryz.underlying36 rfl (B1.get (i := 6) rfl)) rfl ?_
      refine wl_y (y_len_slice rfl Tryz.underlying36) rfl ?_
      refine wl_y (y_lss rfl rfl) rfl ?_
      refine wl_nil ?_
      refine wq_then_norm (hK9 ?_)
      refine wc_dec rfl (fun hc2 => ?_) (fun hc2 => ?_)
      · skip
        refine wc_skip ?_
        refine wq_then_norm (hK8 ?_)
        refine wc_seq ?_; intro K10 hK10
        refine wc_block ?_
        refine wc_seq ?_; intro K11 hK11
        refine wc_seq ?_; intro K12 hK12
        obtain ⟨b1, o1, cs1, x, e1, _, hx, _, hR, hcx⟩ := X.get2 (by omega) (i := i) (by omega)
        obtain ⟨g0, g1, rfl, u0, u1⟩ := hR
        have l4 := u0.1; have l5 := u1.1; have l6 := (hf.2.2 x (ix_mem hx)).2.1
        refine wc_region ?_
        refine wl_y (y_fieldAddr (o := 6) (s := 1) (off := 0) (o' := 6) rfl Tryz.underlying38 rfl (by kernel_rfl) rfl rfl) rfl ?_
        refine wl_y (y_load1 rfl Tryz.underlying36 rfl (B1.get (i := 6) rfl)) rfl ?_
        refine wl_y (y_move rfl) rfl ?_
        refine wl_y (y_ixsE (s := 2) (j := i) e1 rfl rfl Tryz.underlying36 (by kernel_rfl) rfl (by omega)) rfl ?_
        refine wl_y (y_fieldAddr (o := 0) (s := 1) rfl Tryz.underlying98 rfl (by kernel_rfl) rfl rfl) rfl ?_
        refine wl_y (y_load1 rfl Tryz.underlying22 rfl (hcx 0 _ rfl)) rfl ?_
        refine wl_y (y_len_slice rfl Tryz.underlying22) rfl ?_
        refine wl_y (y_neq rfl rfl) rfl ?_
        refine wl_nil ?_
        refine wq_then_norm (hK12 ?_)
        refine wc_dec rfl (fun hc3 => ?_) (fun hc3 => ?_)
        · skip
          refine wc_seq ?_; intro K13 hK13
          refine wc_region ?_
          refine wl_y (y_assign rfl) rfl ?_
          refine wl_nil ?_
          refine wq_then_norm (hK13 ?_)
          refine wc_ret ?_
          refine wq_then_ret ?_
          refine wq_blk_ret ?_
          refine wq_then_ret ?_
          refine wq_then_ret ?_
          refine wq_blk_ret ?_
          refine wq_then_ret ?_
          refine hret rfl ?_
          exact ⟨ret_no fun h => hc3 (by have := (h.2.2 x (ix_mem hx)).1; omega), E⟩
        · skip
          refine wc_skip ?_
          refine wq_then_norm (hK11 ?_)
          refine wc_seq ?_; intro K14 hK14
          refine wc_region ?_
          refine wl_y (y_assign rfl) rfl ?_
          refine wl_nil ?_
          refine wq_then_norm (hK14 ?_)
          refine wc_block ?_
          refine wc_loop (fun n' L wq => ∃ k : Nat, L = [(1, .pointer (some ⟨gB1, 0, none⟩)), (3, .int .i64 (i : Int)), (4, .int .i64 (k : Int))] ∧ n' = g1.n - k ∧ (k ≤ g1.n ∧ wq = wr ∧ ∀ b ∈ x.to.take k, okBxd b)) _ _ ⟨0, rfl, rfl, by omega, rfl, by simp⟩ ⟨rfl, (by first | rfl | exact congrArg some (int_val (by omega))), (by first | rfl | exact congrArg some (int_val (by omega))), trivial⟩ ?_
          rintro KL2 n' L wq ⟨k, rfl, rfl, hk, rfl, hin⟩ hL2
          refine wc_seq ?_; intro K15 hK15
          refine wc_seq ?_; intro K16 hK16
          refine wc_region ?_
          refine wl_y (y_move rfl) rfl ?_
          refine wl_y (y_fieldAddr (o := 6) (s := 1) (off := 0) (o' := 6) rfl Tryz.underlying38 rfl (by kernel_rfl) rfl rfl) rfl ?_
          refine wl_y (y_load1 rfl Tryz.underlying36 rfl (B1.get (i := 6) rfl)) rfl ?_
          refine wl_y (y_move rfl) rfl ?_
          refine wl_y (y_ixsE (s := 2) (j := i) e1 rfl rfl Tryz.underlying36 (by kernel_rfl) rfl (by omega)) rfl ?_
          refine wl_y (y_fieldAddr (o := 1) (s := 1) rfl Tryz.underlying98 rfl (by kernel_rfl) rfl rfl) rfl ?_
          refine wl_y (y_load1 rfl Tryz.underlying96 rfl (hcx 1 _ rfl)) rfl ?_
          refine wl_y (y_len_slice rfl Tryz.underlying96) rfl ?_
          refine wl_y (y_lss rfl rfl) rfl ?_
          refine wl_nil ?_
          refine wq_then_norm (hK16 ?_)
          refine wc_dec rfl (fun hc4 => ?_) (fun hc4 => ?_)
          · skip
            refine wc_skip ?_
            refine wq_then_norm (hK15 ?_)
            refine wc_seq ?_; intro K17 hK17
            refine wc_block ?_
            refine wc_seq ?_; intro K18 hK18
            obtain ⟨b2, o2, cs2, z, e2, _, hz, _, hR2, hcz⟩ := u1.get2 (by omega) (i := k) (by omega)
            obtain ⟨f0, f1, rfl, v0, v1⟩ := hR2
            have l7 := v0.1; have l8 := v1.1
            refine wc_region ?_
            refine wl_y (y_fieldAddr (o := 6) (s := 1) (off := 0) (o' := 6) rfl Tryz.underlying38 rfl (by kernel_rfl) rfl rfl) rfl ?_
            refine wl_y (y_load1 rfl Tryz.underlying36 rfl (B1.get (i := 6) rfl)) rfl ?_
            refine wl_y (y_move rfl) rfl ?_
            refine wl_y (y_ixsE (s := 2) (j := i) e1 rfl rfl Tryz.underlying36 (by kernel_rfl) rfl (by omega)) rfl ?_
            refine wl_y (y_fieldAddr (o := 1) (s := 1) rfl Tryz.underlying98 rfl (by kernel_rfl) rfl rfl) rfl ?_
            refine wl_y (y_load1 rfl Tryz.underlying96 rfl (hcx 1 _ rfl)) rfl ?_
            refine wl_y (y_move rfl) rfl ?_
            refine wl_y (y_ixsE (s := 2) (j := k) e2 rfl rfl Tryz.underlying96 (by kernel_rfl) rfl (by omega)) rfl ?_
            refine wl_y (y_fieldAddr (o := 0) (s := 1) rfl Tryz.underlying100 rfl (by kernel_rfl) rfl rfl) rfl ?_
            refine wl_y (y_load1 rfl Tryz.underlying22 rfl (hcz 0 _ rfl)) rfl ?_
            refine wl_y (y_len_slice rfl Tryz.underlying22) rfl ?_
            refine wl_y (y_neq rfl rfl) rfl ?_
            refine wl_yask (y_move rfl) rfl (fun m0 => ?_) (fun m0 => ?_)
            · skip
              refine wl_gno 53 rfl rfl rfl rfl ?_
              refine wl_gno 53 rfl rfl rfl rfl ?_
              refine wl_gno 53 rfl rfl rfl rfl ?_
              refine wl_gno 53 rfl rfl rfl rfl ?_
              refine wl_gno 53 rfl rfl rfl rfl ?_
              refine wl_gno 53 rfl rfl rfl rfl ?_
              refine wl_gno 53 rfl rfl rfl rfl ?_
              refine wl_gno 53 rfl rfl rfl rfl ?_
              refine wl_gno 53 rfl rfl rfl rfl ?_
              refine wl_gno 53 rfl rfl rfl rfl ?_
              refine wl_gno 53 rfl rfl rfl rfl ?_
              refine wl_gno 53 rfl rfl rfl rfl ?_
              refine wl_y (y_pickt rfl rfl) rfl ?_
              refine wl_nil ?_
              refine wq_then_norm (hK18 ?_)
              refine wc_true rfl rfl ?_
              refine wc_seq ?_; intro K19 hK19
              refine wc_region ?_
              refine wl_y (y_assign rfl) rfl ?_
              refine wl_nil ?_
              refine wq_then_norm (hK19 ?_)
              refine wc_ret ?_
              refine wq_blk_ret ?_
              refine wq_then_ret ?_
              refine wq_then_ret ?_
              refine wq_blk_ret ?_
              refine wq_blk_ret ?_
              refine wq_then_ret ?_
              refine wq_then_ret ?_
              refine wq_blk_ret ?_
              refine wq_then_ret ?_
              refine hret rfl ?_
              exact ⟨ret_no fun h => by have := ((h.2.2 x (ix_mem hx)).2 z (ix_mem hz)).1; omega, E⟩
            · skip
              refine wl_gy 53 rfl rfl (y_fieldAddr (o := 6) (s := 1) (off := 0) (o' := 6) rfl Tryz.underlying38 rfl (by kernel_rfl) rfl rfl) rfl ?_
              refine wl_gy 53 rfl rfl (y_load1 rfl Tryz.underlying36 rfl (B1.get (i := 6) rfl)) rfl ?_
              refine wl_gy 53 rfl rfl (y_move rfl) rfl ?_
              refine wl_gy 53 rfl rfl (y_ixsE (s := 2) (j := i) e1 rfl rfl Tryz.underlying36 (by kernel_rfl) rfl (by omega)) rfl ?_
              refine wl_gy 53 rfl rfl (y_fieldAddr (o := 1) (s := 1) rfl Tryz.underlying98 rfl (by kernel_rfl) rfl rfl) rfl ?_
              refine wl_gy 53 rfl rfl (y_load1 rfl Tryz.underlying96 rfl (hcx 1 _ rfl)) rfl ?_
              refine wl_gy 53 rfl rfl (y_move rfl) rfl ?_
              refine wl_gy 53 rfl rfl (y_ixsE (s := 2) (j := k) e2 rfl rfl Tryz.underlying96 (by kernel_rfl) rfl (by omega)) rfl ?_
              refine wl_gy 53 rfl rfl (y_fieldAddr (o := 1) (s := 1) rfl Tryz.underlying100 rfl (by kernel_rfl) rfl rfl) rfl ?_
              refine wl_gy 53 rfl rfl (y_load1 rfl Tryz.underlying22 rfl (hcz 1 _ rfl)) rfl ?_
              refine wl_gy 53 rfl rfl (y_len_slice rfl Tryz.underlying22) rfl ?_
              refine wl_gy 53 rfl rfl (y_neq rfl rfl) rfl ?_
              refine wl_y (y_pickf rfl rfl) rfl ?_
              refine wl_nil ?_
              refine wq_then_norm (hK18 ?_)
              refine wc_dec rfl (fun hc5 => ?_) (fun hc5 => ?_)
              · skip
                refine wc_seq ?_; intro K20 hK20
                refine wc_region ?_
                refine wl_y (y_assign rfl) rfl ?_
                refine wl_nil ?_
                refine wq_then_norm (hK20 ?_)
                refine wc_ret ?_
                refine wq_blk_ret ?_
                refine wq_then_ret ?_
                refine wq_then_ret ?_
                refine wq_blk_ret ?_
                refine wq_blk_ret ?_
                refine wq_then_ret ?_
                refine wq_then_ret ?_
                refine wq_blk_ret ?_
                refine wq_then_ret ?_
                refine hret rfl ?_
                exact ⟨ret_no fun h => by have := ((h.2.2 x (ix_mem hx)).2 z (ix_mem hz)).2; omega, E⟩
              · skip
                refine wc_skip ?_
                refine wq_blk_norm ?_
                refine wq_then_norm (hK17 ?_)
                refine wc_region ?_
                refine wl_y (y_move rfl) rfl ?_
                refine wl_y (y_add rfl rfl (i64_ok (by omega) (by omega))) rfl ?_
                refine wl_y (y_assign rfl) rfl ?_
                refine wl_nil ?_
                refine wq_then_norm ?_
                refine hL2 _ _ ⟨k + 1, rfl, rfl, by omega, rfl, all_snoc hz hin ⟨by omega, by omega⟩⟩ (by omega) ⟨rfl, (by first | rfl | exact congrArg some (int_val (by omega))), (by first | rfl | exact congrArg some (int_val (by omega))), trivial⟩
          · skip
            refine wc_exit ?_
            refine wq_then_exit ?_
            refine wq_then_exit ?_
            refine wq_blk_hit ?_
            refine wq_blk_norm ?_
            refine wq_then_norm (hK10 ?_)
            refine wc_region ?_
            refine wl_y (y_move rfl) rfl ?_
            refine wl_y (y_add rfl rfl (i64_ok (by omega) (by omega))) rfl ?_
            refine wl_y (y_assign rfl) rfl ?_
            refine wl_nil ?_
            refine wq_then_norm ?_
            refine hL1 _ _ ⟨i + 1, rfl, rfl, by omega, rfl, all_snoc hx hall ⟨by omega, all_full (by omega) hin⟩⟩ (by omega) ⟨rfl, (by first | rfl | exact congrArg some (int_val (by omega))), trivial⟩
      · skip
        refine wc_exit ?_
        refine wq_then_exit ?_
        refine wq_then_exit ?_
        refine wq_blk_hit ?_
        refine wq_then_norm (hK6 ?_)
        refine wc_seq ?_; intro K21 hK21
        refine wc_region ?_
        refine wl_y (y_assign rfl) rfl ?_
        refine wl_nil ?_
        refine wq_then_norm (hK21 ?_)
        refine wc_ret ?_
        refine hret rfl ?_
        exact ⟨ret_yes ⟨ql, by omega, all_full (by omega) hall⟩, E⟩
theorem rCommit20_any (w : World) (H : ComAt w cs c) (hf : c.Fit) :
    Calls Tryz.prog 48 #[.agg cs] w fun e w' => e = .returned (.bool (decide (okCom c))) ∧ Ext w w' := by
  obtain ⟨it, h0, h1, h2, q, h4, h5, t, rfl, a1, HW⟩ := H
  have HL := HW.parts
  have l2 := a1.1; have l3 := hf.1; have l4 := HL.2.1
  have E := Ext.refl w
  refine vc_enter1 67 Tryz.func48 rfl rfl rfl rfl ?_
  intro Q hret
  refine wc_seq ?_; intro K1 hK1
  refine wc_region ?_
  refine wl_ef (ef_box rfl rfl) rfl ?_
  rintro _ wB1 ⟨gB1, rfl, B1, hgB1, ex⟩
  have lB1 := B1.lt; have zB1 := ex.size
  replace E := E.ext ex
  refine wl_y (y_assign rfl) rfl ?_
  refine wl_nil ?_
  refine wq_then_norm (hK1 ?_)
  refine wc_seq ?_; intro K2 hK2
  refine wc_seq ?_; intro K3 hK3
  refine wc_region ?_
  refine wl_y (y_fieldAddr (o := 0) (s := 1) (off := 0) (o' := 0) rfl Tryz.underlying40 rfl (by kernel_rfl) rfl rfl) rfl ?_
  refine wl_y (y_load1 rfl Tryz.underlying35 rfl (B1.get (i := 0) rfl)) rfl ?_
  refine wl_y (y_len_slice rfl Tryz.underlying35) rfl ?_
  refine wl_y (y_gtr rfl rfl) rfl ?_
  refine wl_nil ?_
  refine wq_then_norm (hK3 ?_)
  refine wc_dec rfl (fun hc1 => ?_) (fun hc1 => ?_)
  · skip
    refine wc_seq ?_; intro K4 hK4
    refine wc_region ?_
    refine wl_y (y_assign rfl) rfl ?_
    refine wl_nil ?_
    refine wq_then_norm (hK4 ?_)
    refine wc_ret ?_
    refine wq_then_ret ?_
    refine hret rfl ?_
    exact ⟨ret_no fun h => by have := h.1; omega, E⟩
  · skip
    refine wc_skip ?_
    refine wq_then_norm (hK2 ?_)
    refine wc_seq ?_; intro K5 hK5
    refine wc_seq ?_; intro K6 hK6
    refine wc_region ?_
    refine wl_y (y_assign rfl) rfl ?_
    refine wl_nil ?_
    refine wq_then_norm (hK6 ?_)
    refine wc_block ?_
    refine wc_loop (fun n' L wr => ∃ i : Nat, L = [(1, .pointer (some ⟨gB1, 0, none⟩)), (3, .int .i64 (i : Int))] ∧ n' = it.n - i ∧ (i ≤ it.n ∧ Ext w wr ∧ Ext wB1 wr ∧ ∀ x ∈ c.items.take i, okItem x)) _ _ ⟨0, rfl, rfl, by omega, E, Ext.refl _, by simp⟩ ⟨rfl, (by first | rfl | exact congrArg some (int_val (by omega))), trivial⟩ ?_
    rintro KL1 n' L wr ⟨i, rfl, rfl, hi, E, X, hall⟩ hL1
    replace B1 := B1.ext X
    refine wc_seq ?_; intro K7 hK7
    refine wc_seq ?_; intro K8 hK8
    refine wc_region ?_
    refine wl_y (y_move rfl) rfl ?_
    refine wl_y (y_fieldAddr (o := 0) (s := 1) (off := 0) (o' := 0) rfl Tryz.underlying40 rfl (by kernel_rfl) rfl rfl) rfl ?_
    refine wl_y (y_load1 rfl Tryz.underlying35 rfl (B1.get (i := 0) rfl)) rfl ?_
    refine wl_y (y_len_slice rfl Tryz.underlying35) rfl ?_
    refine wl_y (y_lss rfl rfl) rfl ?_
    refine wl_nil ?_
    refine wq_then_norm (hK8 ?_)
    refine wc_dec rfl (fun hc2 => ?_) (fun hc2 => ?_)
    · skip
      refine wc_skip ?_
      refine wq_then_norm (hK7 ?_)
      refine wc_seq ?_; intro K9 hK9
      refine wc_block ?_
      refine wc_seq ?_; intro K10 hK10
      obtain ⟨b1, o1, cs1, x, e1, _, hx, hcz, hR, hcx⟩ := (a1.ext E fun _ _ h => ItemAt.ext h E).get2 (by omega) (i := i) (by omega)
      obtain ⟨r, j, k0, k1, k2, p, k4, k5, g, m0, m1, m2, u, m4, m5, rfl, hr, HP⟩ := hR
      have l5 := hr.1
      have hfx := (hf.2.1 x (ix_mem hx)).2
      refine wc_region ?_
      refine wl_y (y_fieldAddr (o := 0) (s := 1) (off := 0) (o' := 0) rfl Tryz.underlying40 rfl (by kernel_rfl) rfl rfl) rfl ?_
      refine wl_y (y_load1 rfl Tryz.underlying35 rfl (B1.get (i := 0) rfl)) rfl ?_
      refine wl_y (y_move rfl) rfl ?_
      refine wl_y (y_ixsE (s := 17) (j := i) e1 rfl rfl Tryz.underlying35 (by kernel_rfl) rfl (by omega)) rfl ?_
      refine wl_y (y_loadp rfl Tryz.underlying95 rfl (by rw [hcz]; kernel_rfl) fun j v hv => by rw [Addr.add_plain]; exact hcx j v hv) rfl ?_
      refine wl_ef (ef_alloc (Z := #[.slice none 0 0, .int .u8 0, .slice none 0 0, .slice none 0 0, .slice none 0 0, .slice none 0 0, .int .u8 0, .slice none 0 0, .slice none 0 0, .slice none 0 0, .slice none 0 0, .slice none 0 0, .slice none 0 0, .int .u8 0, .slice none 0 0, .slice none 0 0, .int .i64 0]) (by kernel_rfl)) rfl ?_
      rintro _ wA4 ⟨gB4, rfl, D4, hgB4, exA⟩
      refine wl_ef (ef_storeP (o := 0) rfl rfl (by kernel_rfl) D4 (Nat.le_of_ble_eq_true rfl) (all_ones rfl)) rfl ?_
      rintro _ wB4 ⟨rfl, B4, cg⟩
      have ex := exA.chg cg hgB4; clear cg exA D4
      have lB4 := B4.lt; have zB4 := ex.size
      replace E := E.ext ex
      replace X := X.ext ex
      replace B1 := B1.ext ex
      replace HP := HP.ext ex
      refine wl_nil ?_
      refine wq_then_norm (hK10 ?_)
      refine wc_seq ?_; intro K11 hK11
      refine wc_region ?_
      refine wl_y (y_fieldAddr (o := 0) (s := 1) (off := 0) (o' := 0) rfl Tryz.underlying95 rfl (by kernel_rfl) rfl rfl) rfl ?_
      refine wl_y (y_load1 rfl Tryz.underlying22 rfl (B4.get (i := 0) rfl)) rfl ?_
      refine wl_y (y_len_slice rfl Tryz.underlying22) rfl ?_
      refine wl_y (y_eql rfl rfl) rfl ?_
      refine wl_yask (y_move rfl) rfl (fun n0 => ?_) (fun n0 => ?_)
      · skip
        refine wl_gy 25 rfl rfl (y_fieldAddr (o := 1) (s := 16) (off := 0) (o' := 1) rfl Tryz.underlying95 rfl (by kernel_rfl) rfl rfl) rfl ?_
        refine wl_gy 25 rfl rfl (y_loadx (o := 1) (s := 16) rfl Tryz.underlying32 rfl (by kernel_rfl) B4 rfl) rfl ?_
        refine wl_gcall 25 rfl rfl Tryz.func102 rfl rfl rfl (rNoProp_any _ (HP.ext (Ext.refl _)) hfx) rfl ?_
        rintro e w7 ⟨rfl, ex⟩
        refine ⟨_, rfl, ?_⟩
        replace E := E.ext ex
        replace X := X.ext ex
        replace B1 := B1.ext ex
        replace HP := HP.ext ex
        replace B4 := B4.ext ex
        skip
        refine wl_y (y_pickt rfl rfl) rfl ?_
        refine wl_yask (y_move rfl) rfl (fun n1 => ?_) (fun n1 => ?_)
        · skip
          refine wl_gno 30 rfl rfl rfl rfl ?_
          refine wl_gno 30 rfl rfl rfl rfl ?_
          refine wl_gno 30 rfl rfl rfl rfl ?_
          refine wl_gno 30 rfl rfl rfl rfl ?_
          refine wl_gno 30 rfl rfl rfl rfl ?_
          refine wl_gun 35 rfl rfl rfl ?_
          refine wl_gun 35 rfl rfl rfl ?_
          refine wl_gun 35 rfl rfl rfl ?_
          refine wl_gno 30 rfl rfl rfl rfl ?_
          refine wl_y (y_pickt rfl rfl) rfl ?_
          refine wl_y (y_not rfl) rfl ?_
          refine wl_nil ?_
          refine wq_then_norm (hK11 ?_)
          refine wc_false rfl rfl ?_
          refine wc_skip ?_
          refine wq_blk_norm ?_
          refine wq_then_norm (hK9 ?_)
          refine wc_region ?_
          refine wl_y (y_move rfl) rfl ?_
          refine wl_y (y_add rfl rfl (i64_ok (by omega) (by omega))) rfl ?_
          refine wl_y (y_assign rfl) rfl ?_
          refine wl_nil ?_
          refine wq_then_norm ?_
          refine hL1 _ _ ⟨i + 1, rfl, rfl, by omega, E, X, all_snoc hx hall (.inl ⟨by omega, n1⟩)⟩ (by omega) ⟨rfl, (by first | rfl | exact congrArg some (int_val (by omega))), trivial⟩
        · skip
          refine wl_gy 30 rfl rfl (y_fieldAddr (o := 0) (s := 1) (off := 0) (o' := 0) rfl Tryz.underlying95 rfl (by kernel_rfl) rfl rfl) rfl ?_
          refine wl_gy 30 rfl rfl (y_load1 rfl Tryz.underlying22 rfl (B4.get (i := 0) rfl)) rfl ?_
          refine wl_gy 30 rfl rfl (y_len_slice rfl Tryz.underlying22) rfl ?_
          refine wl_gy 30 rfl rfl (y_eql rfl rfl) rfl ?_
          refine wl_gyask 30 rfl rfl (y_move rfl) rfl (fun n2 => ?_) (fun n2 => ?_)
          · skip
            omega
          · skip
            refine wl_gno 35 rfl rfl rfl rfl ?_
            refine wl_gno 35 rfl rfl rfl rfl ?_
            refine wl_gno 35 rfl rfl rfl rfl ?_
            refine wl_gy 30 rfl rfl (y_pickf rfl rfl) rfl ?_
            refine wl_y (y_pickf rfl rfl) rfl ?_
            refine wl_y (y_not rfl) rfl ?_
            refine wl_nil ?_
            refine wq_then_norm (hK11 ?_)
            refine wc_true rfl rfl ?_
            refine wc_seq ?_; intro K12 hK12
            refine wc_region ?_
            refine wl_y (y_assign rfl) rfl ?_
            refine wl_nil ?_
            refine wq_then_norm (hK12 ?_)
            refine wc_ret ?_
            refine wq_blk_ret ?_
            refine wq_then_ret ?_
            refine wq_then_ret ?_
            refine wq_blk_ret ?_
            refine wq_then_ret ?_
            refine hret rfl ?_
            exact ⟨ret_no fun h => (h.2.1 x (ix_mem hx)).elim (fun h => n1 h.2) (fun h => by omega), E⟩
      · skip
        refine wl_gno 25 rfl rfl rfl rfl ?_
        refine wl_gno 25 rfl rfl rfl rfl ?_
        refine wl_gno 25 rfl rfl rfl rfl ?_
        refine wl_y (y_pickf rfl rfl) rfl ?_
        refine wl_y (y_move rfl) rfl ?_
        refine wl_gy 30 rfl rfl (y_fieldAddr (o := 0) (s := 1) (off := 0) (o' := 0) rfl Tryz.underlying95 rfl (by kernel_rfl) rfl rfl) rfl ?_
        refine wl_gy 30 rfl rfl (y_load1 rfl Tryz.underlying22 rfl (B4.get (i := 0) rfl)) rfl ?_
        refine wl_gy 30 rfl rfl (y_len_slice rfl Tryz.underlying22) rfl ?_
        refine wl_gy 30 rfl rfl (y_eql rfl rfl) rfl ?_
        refine wl_gyask 30 rfl rfl (y_move rfl) rfl (fun n2 => ?_) (fun n2 => ?_)
        · skip
          refine wl_gy 35 rfl rfl (y_fieldAddr (o := 1) (s := 16) (off := 0) (o' := 1) rfl Tryz.underlying95 rfl (by kernel_rfl) rfl rfl) rfl ?_
          refine wl_gy 35 rfl rfl (y_loadx (o := 1) (s := 16) rfl Tryz.underlying32 rfl (by kernel_rfl) B4 rfl) rfl ?_
          refine wl_gcall 35 rfl rfl Tryz.func46 rfl rfl rfl (rProp_any _ HP hfx) rfl ?_
          rintro e w8 ⟨rfl, ex⟩
          refine ⟨_, rfl, ?_⟩
          replace E := E.ext ex
          replace X := X.ext ex
          replace B1 := B1.ext ex
          replace HP := HP.ext ex
          replace B4 := B4.ext ex
          skip
          refine wl_gy 30 rfl rfl (y_pickt rfl rfl) rfl ?_
          refine wl_y (y_pickf rfl rfl) rfl ?_
          refine wl_y (y_not rfl) rfl ?_
          refine wl_nil ?_
          refine wq_then_norm (hK11 ?_)
          refine wc_cond rfl (fun hc3 => ?_) (fun hc3 => ?_)
          · skip
            refine wc_seq ?_; intro K13 hK13
            refine wc_region ?_
            refine wl_y (y_assign rfl) rfl ?_
            refine wl_nil ?_
            refine wq_then_norm (hK13 ?_)
            refine wc_ret ?_
            refine wq_blk_ret ?_
            refine wq_then_ret ?_
            refine wq_then_ret ?_
            refine wq_blk_ret ?_
            refine wq_then_ret ?_
            refine hret rfl ?_
            exact ⟨ret_no fun h => (h.2.1 x (ix_mem hx)).elim (fun h => by omega) (fun h => by rw [decide_eq_true h.2] at hc3; cases hc3), E⟩
          · skip
            refine wc_skip ?_
            refine wq_blk_norm ?_
            refine wq_then_norm (hK9 ?_)
            refine wc_region ?_
            refine wl_y (y_move rfl) rfl ?_
            refine wl_y (y_add rfl rfl (i64_ok (by omega) (by omega))) rfl ?_
            refine wl_y (y_assign rfl) rfl ?_
            refine wl_nil ?_
            refine wq_then_norm ?_
            refine hL1 _ _ ⟨i + 1, rfl, rfl, by omega, E, X, all_snoc hx hall (.inr ⟨by omega, by simpa using hc3⟩)⟩ (by omega) ⟨rfl, (by first | rfl | exact congrArg some (int_val (by omega))), trivial⟩
        · skip
          refine wl_gno 35 rfl rfl rfl rfl ?_
          refine wl_gno 35 rfl rfl rfl rfl ?_
          refine wl_gno 35 rfl rfl rfl rfl ?_
          refine wl_gy 30 rfl rfl (y_pickf rfl rfl) rfl ?_
          refine wl_y (y_pickf rfl rfl) rfl ?_
          refine wl_y (y_not rfl) rfl ?_
          refine wl_nil ?_
          refine wq_then_norm (hK11 ?_)
          refine wc_true rfl rfl ?_
          refine wc_seq ?_; intro K14 hK14
          refine wc_region ?_
          refine wl_y (y_assign rfl) rfl ?_
          refine wl_nil ?_
          refine wq_then_norm (hK14 ?_)
          refine wc_ret ?_
          refine wq_blk_ret ?_
          refine wq_then_ret ?_
          refine wq_then_ret ?_
          refine wq_blk_ret ?_
          refine wq_then_ret ?_
          refine hret rfl ?_
          exact ⟨ret_no fun h => (h.2.1 x (ix_mem hx)).elim (fun h => by omega) (fun h => by omega), E⟩
    · skip
      refine wc_exit ?_
      refine wq_then_exit ?_
      refine wq_then_exit ?_
      refine wq_blk_hit ?_
      refine wq_then_norm (hK5 ?_)
      refine wc_seq ?_; intro K15 hK15
      have qi := all_full (by omega) hall
      refine wc_region ?_
      refine wl_y (y_fieldAddr (o := 1) (s := 1) (off := 0) (o' := 1) rfl Tryz.underlying40 rfl (by kernel_rfl) rfl rfl) rfl ?_
      refine wl_y (y_load1 rfl Tryz.underlying4 rfl (B1.get (i := 1) rfl)) rfl ?_
      refine wl_yaskb (y_move rfl) rfl (fun p0 => ?_) (fun p0 => ?_)
      · skip
        refine wl_gy 44 rfl rfl (y_fieldAddr (o := 2) (s := 7) (off := 0) (o' := 2) rfl Tryz.underlying40 rfl (by kernel_rfl) rfl rfl) rfl ?_
        refine wl_gy 44 rfl rfl (y_loadx (o := 2) (s := 7) rfl Tryz.underlying38 rfl (by kernel_rfl) B1 rfl) rfl ?_
        refine wl_gcall 44 rfl rfl Tryz.func103 rfl rfl rfl (rWay20_any _ (HW.ext E) hf.2.2) rfl ?_
        rintro e w9 ⟨rfl, ex⟩
        refine ⟨_, rfl, ?_⟩
        replace E := E.ext ex
        replace X := X.ext ex
        replace B1 := B1.ext ex
        skip
        refine wl_y (y_pickt rfl rfl) rfl ?_
        refine wl_yask (y_move rfl) rfl (fun p1 => ?_) (fun p1 => ?_)
        · skip
          refine wl_gno 49 rfl rfl rfl rfl ?_
          refine wl_gno 49 rfl rfl rfl rfl ?_
          refine wl_gno 49 rfl rfl rfl rfl ?_
          refine wl_gno 49 rfl rfl rfl rfl ?_
          refine wl_gun 53 rfl rfl rfl ?_
          refine wl_gun 53 rfl rfl rfl ?_
          refine wl_gun 53 rfl rfl rfl ?_
          refine wl_gun 53 rfl rfl rfl ?_
          refine wl_gno 49 rfl rfl rfl rfl ?_
          refine wl_gno 49 rfl rfl rfl rfl ?_
          refine wl_gun 59 rfl rfl rfl ?_
          refine wl_gun 59 rfl rfl rfl ?_
          refine wl_gun 59 rfl rfl rfl ?_
          refine wl_gun 59 rfl rfl rfl ?_
          refine wl_gun 59 rfl rfl rfl ?_
          refine wl_gno 49 rfl rfl rfl rfl ?_
          refine wl_y (y_pickt rfl rfl) rfl ?_
          refine wl_y (y_assign rfl) rfl ?_
          refine wl_nil ?_
          refine wq_then_norm (hK15 ?_)
          refine wc_ret ?_
          refine hret rfl ?_
          exact ⟨ret_yes ⟨by omega, qi, .inl ⟨p0, p1⟩⟩, E⟩
        · skip
          refine wl_gy 49 rfl rfl (y_fieldAddr (o := 1) (s := 1) (off := 0) (o' := 1) rfl Tryz.underlying40 rfl (by kernel_rfl) rfl rfl) rfl ?_
          refine wl_gy 49 rfl rfl (y_load1 rfl Tryz.underlying4 rfl (B1.get (i := 1) rfl)) rfl ?_
          refine wl_gy 49 rfl rfl (y_not rfl) rfl ?_
          refine wl_gyaskb 49 rfl rfl (y_move rfl) rfl (fun p2 => ?_) (fun p2 => ?_)
          · skip
            rw [p0] at p2; cases p2
          · skip
            refine wl_gno 53 rfl rfl rfl rfl ?_
            refine wl_gno 53 rfl rfl rfl rfl ?_
            refine wl_gno 53 rfl rfl rfl rfl ?_
            refine wl_gno 53 rfl rfl rfl rfl ?_
            refine wl_gy 49 rfl rfl (y_pickf rfl rfl) rfl ?_
            refine wl_gy 49 rfl rfl (y_move rfl) rfl ?_
            refine wl_gno 59 rfl rfl rfl rfl ?_
            refine wl_gno 59 rfl rfl rfl rfl ?_
            refine wl_gno 59 rfl rfl rfl rfl ?_
            refine wl_gno 59 rfl rfl rfl rfl ?_
            refine wl_gno 59 rfl rfl rfl rfl ?_
            refine wl_gy 49 rfl rfl (y_pickf rfl rfl) rfl ?_
            refine wl_y (y_pickf rfl rfl) rfl ?_
            refine wl_y (y_assign rfl) rfl ?_
            refine wl_nil ?_
            refine wq_then_norm (hK15 ?_)
            refine wc_ret ?_
            refine hret rfl ?_
            exact ⟨ret_no fun h => h.2.2.elim (fun h => p1 h.2) (fun h => by rw [h.1] at p0; cases p0), E⟩
      · skip
        refine wl_gno 44 rfl rfl rfl rfl ?_
        refine wl_gno 44 rfl rfl rfl rfl ?_
        refine wl_gno 44 rfl rfl rfl rfl ?_
        refine wl_y (y_pickf rfl rfl) rfl ?_
        refine wl_y (y_move rfl) rfl ?_
        refine wl_gy 49 rfl rfl (y_fieldAddr (o := 1) (s := 1) (off := 0) (o' := 1) rfl Tryz.underlying40 rfl (by kernel_rfl) rfl rfl) rfl ?_
        refine wl_gy 49 rfl rfl (y_load1 rfl Tryz.underlying4 rfl (B1.get (i := 1) rfl)) rfl ?_
        refine wl_gy 49 rfl rfl (y_not rfl) rfl ?_
        refine wl_gyaskb 49 rfl rfl (y_move rfl) rfl (fun p2 => ?_) (fun p2 => ?_)
        · skip
          refine wl_gy 53 rfl rfl (y_fieldAddr (o := 2) (s := 7) (off := 0) (o' := 2) rfl Tryz.underlying40 rfl (by kernel_rfl) rfl rfl) rfl ?_
          refine wl_gy 53 rfl rfl (y_fieldAddr (o := 0) (s := 6) (off := 2) (o' := 2) rfl Tryz.underlying38 rfl (by kernel_rfl) rfl rfl) rfl ?_
          refine wl_gy 53 rfl rfl (y_loadx (o := 2) (s := 6) rfl Tryz.underlying25 rfl (by kernel_rfl) B1 rfl) rfl ?_
          refine wl_gcall 53 rfl rfl Tryz.func99 rfl rfl rfl (rNoLeaf20_any _ (HL.1.ext E) hf.2.2.1) rfl ?_
          rintro e w10 ⟨rfl, ex⟩
          refine ⟨_, rfl, ?_⟩
          replace E := E.ext ex
          replace X := X.ext ex
          replace B1 := B1.ext ex
          skip
          refine wl_gy 49 rfl rfl (y_pickt rfl rfl) rfl ?_
          refine wl_gyask 49 rfl rfl (y_move rfl) rfl (fun p3 => ?_) (fun p3 => ?_)
          · skip
            refine wl_gy 59 rfl rfl (y_fieldAddr (o := 2) (s := 7) (off := 0) (o' := 2) rfl Tryz.underlying40 rfl (by kernel_rfl) rfl rfl) rfl ?_
            refine wl_gy 59 rfl rfl (y_fieldAddr (o := 6) (s := 1) (off := 2) (o' := 8) rfl Tryz.underlying38 rfl (by kernel_rfl) rfl rfl) rfl ?_
            refine wl_gy 59 rfl rfl (y_load1 rfl Tryz.underlying36 rfl (B1.get (i := 8) rfl)) rfl ?_
            refine wl_gy 59 rfl rfl (y_len_slice rfl Tryz.underlying36) rfl ?_
            refine wl_gy 59 rfl rfl (y_eql rfl rfl) rfl ?_
            refine wl_gy 49 rfl rfl (y_pickt rfl rfl) rfl ?_
            refine wl_y (y_pickf rfl rfl) rfl ?_
            refine wl_y (y_assign rfl) rfl ?_
            refine wl_nil ?_
            refine wq_then_norm (hK15 ?_)
            refine wc_ret ?_
            refine hret rfl ?_
            exact ⟨ret_bool ⟨fun h => ⟨by omega, qi, .inr ⟨p0, p3, by omega⟩⟩, fun h => h.2.2.elim (fun h => by rw [h.1] at p0; cases p0) (fun h => by have := h.2.2; omega)⟩, E⟩
          · skip
            refine wl_gno 59 rfl rfl rfl rfl ?_
            refine wl_gno 59 rfl rfl rfl rfl ?_
            refine wl_gno 59 rfl rfl rfl rfl ?_
            refine wl_gno 59 rfl rfl rfl rfl ?_
            refine wl_gno 59 rfl rfl rfl rfl ?_
            refine wl_gy 49 rfl rfl (y_pickf rfl rfl) rfl ?_
            refine wl_y (y_pickf rfl rfl) rfl ?_
            refine wl_y (y_assign rfl) rfl ?_
            refine wl_nil ?_
            refine wq_then_norm (hK15 ?_)
            refine wc_ret ?_
            refine hret rfl ?_
            exact ⟨ret_no fun h => h.2.2.elim (fun h => by rw [h.1] at p0; cases p0) (fun h => p3 h.2.1), E⟩
        · skip
          refine wl_gno 53 rfl rfl rfl rfl ?_
          refine wl_gno 53 rfl rfl rfl rfl ?_
          refine wl_gno 53 rfl rfl rfl rfl ?_
          refine wl_gno 53 rfl rfl rfl rfl ?_
          refine wl_gy 49 rfl rfl (y_pickf rfl rfl) rfl ?_
          refine wl_gy 49 rfl rfl (y_move rfl) rfl ?_
          refine wl_gno 59 rfl rfl rfl rfl ?_
          refine wl_gno 59 rfl rfl rfl rfl ?_
          refine wl_gno 59 rfl rfl rfl rfl ?_
          refine wl_gno 59 rfl rfl rfl rfl ?_
          refine wl_gno 59 rfl rfl rfl rfl ?_
          refine wl_gy 49 rfl rfl (y_pickf rfl rfl) rfl ?_
          refine wl_y (y_pickf rfl rfl) rfl ?_
          refine wl_y (y_assign rfl) rfl ?_
          refine wl_nil ?_
          refine wq_then_norm (hK15 ?_)
          refine wc_ret ?_
          refine hret rfl ?_
          exact ⟨ret_no fun _ => (by rw [p0] at p2; cases p2), E⟩
theorem rNoCommit20_any (w : World) (H : ComAt w cs c) (hf : c.Fit) :
    Calls Tryz.prog 107 #[.agg cs] w fun e w' => e = .returned (.bool (decide (noCom c))) ∧ Ext w w' := by
  obtain ⟨it, h0, h1, h2, q, h4, h5, t, rfl, a1, HW⟩ := H
  have HL := HW.parts
  have l2 := a1.1; have l4 := HL.2.1
  have E := Ext.refl w
  refine vc_enter1 25 Tryz.func107 rfl rfl rfl rfl ?_
  intro Q hret
  refine wc_seq ?_; intro K1 hK1
  refine wc_region ?_
  refine wl_ef (ef_box rfl rfl) rfl ?_
  rintro _ wB1 ⟨gB1, rfl, B1, hgB1, ex⟩
  have lB1 := B1.lt; have zB1 := ex.size
  replace E := E.ext ex
  refine wl_y (y_assign rfl) rfl ?_
  refine wl_nil ?_
  refine wq_then_norm (hK1 ?_)
  refine wc_seq ?_; intro K2 hK2
  refine wc_region ?_
  refine wl_y (y_fieldAddr (o := 0) (s := 1) (off := 0) (o' := 0) rfl Tryz.underlying40 rfl (by kernel_rfl) rfl rfl) rfl ?_
  refine wl_y (y_load1 rfl Tryz.underlying35 rfl (B1.get (i := 0) rfl)) rfl ?_
  refine wl_y (y_len_slice rfl Tryz.underlying35) rfl ?_
  refine wl_y (y_eql rfl rfl) rfl ?_
  refine wl_yask (y_move rfl) rfl (fun q0 => ?_) (fun q0 => ?_)
  · skip
    refine wl_gy 7 rfl rfl (y_fieldAddr (o := 1) (s := 1) (off := 0) (o' := 1) rfl Tryz.underlying40 rfl (by kernel_rfl) rfl rfl) rfl ?_
    refine wl_gy 7 rfl rfl (y_load1 rfl Tryz.underlying4 rfl (B1.get (i := 1) rfl)) rfl ?_
    refine wl_gy 7 rfl rfl (y_not rfl) rfl ?_
    refine wl_y (y_pickt rfl rfl) rfl ?_
    refine wl_yaskb (y_move rfl) rfl (fun q1 => ?_) (fun q1 => ?_)
    · skip
      refine wl_gy 12 rfl rfl (y_fieldAddr (o := 2) (s := 7) (off := 0) (o' := 2) rfl Tryz.underlying40 rfl (by kernel_rfl) rfl rfl) rfl ?_
      refine wl_gy 12 rfl rfl (y_fieldAddr (o := 0) (s := 6) (off := 2) (o' := 2) rfl Tryz.underlying38 rfl (by kernel_rfl) rfl rfl) rfl ?_
      refine wl_gy 12 rfl rfl (y_loadx (o := 2) (s := 6) rfl Tryz.underlying25 rfl (by kernel_rfl) B1 rfl) rfl ?_
      refine wl_gcall 12 rfl rfl Tryz.func99 rfl rfl rfl (rNoLeaf20_any _ (HL.1.ext E) hf.2.2.1) rfl ?_
      rintro e w10 ⟨rfl, ex⟩
      refine ⟨_, rfl, ?_⟩
      replace E := E.ext ex
      replace B1 := B1.ext ex
      skip
      refine wl_y (y_pickt rfl rfl) rfl ?_
      refine wl_yask (y_move rfl) rfl (fun q2 => ?_) (fun q2 => ?_)
      · skip
        refine wl_gy 18 rfl rfl (y_fieldAddr (o := 2) (s := 7) (off := 0) (o' := 2) rfl Tryz.underlying40 rfl (by kernel_rfl) rfl rfl) rfl ?_
        refine wl_gy 18 rfl rfl (y_fieldAddr (o := 6) (s := 1) (off := 2) (o' := 8) rfl Tryz.underlying38 rfl (by kernel_rfl) rfl rfl) rfl ?_
        refine wl_gy 18 rfl rfl (y_load1 rfl Tryz.underlying36 rfl (B1.get (i := 8) rfl)) rfl ?_
        refine wl_gy 18 rfl rfl (y_len_slice rfl Tryz.underlying36) rfl ?_
        refine wl_gy 18 rfl rfl (y_eql rfl rfl) rfl ?_
        refine wl_y (y_pickt rfl rfl) rfl ?_
        refine wl_y (y_assign rfl) rfl ?_
        refine wl_nil ?_
        refine wq_then_norm (hK2 ?_)
        refine wc_ret ?_
        refine hret rfl ?_
        exact ⟨ret_bool ⟨fun h => ⟨by omega, by simpa using q1, q2, by omega⟩, fun h => by have := h.2.2.2; omega⟩, E⟩
      · skip
        refine wl_gno 18 rfl rfl rfl rfl ?_
        refine wl_gno 18 rfl rfl rfl rfl ?_
        refine wl_gno 18 rfl rfl rfl rfl ?_
        refine wl_gno 18 rfl rfl rfl rfl ?_
        refine wl_gno 18 rfl rfl rfl rfl ?_
        refine wl_y (y_pickf rfl rfl) rfl ?_
        refine wl_y (y_assign rfl) rfl ?_
        refine wl_nil ?_
        refine wq_then_norm (hK2 ?_)
        refine wc_ret ?_
        refine hret rfl ?_
        exact ⟨ret_no fun h => q2 h.2.2.1, E⟩
    · skip
      refine wl_gno 12 rfl rfl rfl rfl ?_
      refine wl_gno 12 rfl rfl rfl rfl ?_
      refine wl_gno 12 rfl rfl rfl rfl ?_
      refine wl_gno 12 rfl rfl rfl rfl ?_
      refine wl_y (y_pickf rfl rfl) rfl ?_
      refine wl_y (y_move rfl) rfl ?_
      refine wl_gno 18 rfl rfl rfl rfl ?_
      refine wl_gno 18 rfl rfl rfl rfl ?_
      refine wl_gno 18 rfl rfl rfl rfl ?_
      refine wl_gno 18 rfl rfl rfl rfl ?_
      refine wl_gno 18 rfl rfl rfl rfl ?_
      refine wl_y (y_pickf rfl rfl) rfl ?_
      refine wl_y (y_assign rfl) rfl ?_
      refine wl_nil ?_
      refine wq_then_norm (hK2 ?_)
      refine wc_ret ?_
      refine hret rfl ?_
      exact ⟨ret_no fun h => (by rw [h.2.1] at q1; cases q1), E⟩
  · skip
    refine wl_gno 7 rfl rfl rfl rfl ?_
    refine wl_gno 7 rfl rfl rfl rfl ?_
    refine wl_gno 7 rfl rfl rfl rfl ?_
    refine wl_y (y_pickf rfl rfl) rfl ?_
    refine wl_y (y_move rfl) rfl ?_
    refine wl_gno 12 rfl rfl rfl rfl ?_
    refine wl_gno 12 rfl rfl rfl rfl ?_
    refine wl_gno 12 rfl rfl rfl rfl ?_
    refine wl_gno 12 rfl rfl rfl rfl ?_
    refine wl_y (y_pickf rfl rfl) rfl ?_
    refine wl_y (y_move rfl) rfl ?_
    refine wl_gno 18 rfl rfl rfl rfl ?_
    refine wl_gno 18 rfl rfl rfl rfl ?_
    refine wl_gno 18 rfl rfl rfl rfl ?_
    refine wl_gno 18 rfl rfl rfl rfl ?_
    refine wl_gno 18 rfl rfl rfl rfl ?_
    refine wl_y (y_pickf rfl rfl) rfl ?_
    refine wl_y (y_assign rfl) rfl ?_
    refine wl_nil ?_
    refine wq_then_norm (hK2 ?_)
    refine wc_ret ?_
    refine hret rfl ?_
    exact ⟨ret_no fun h => by have := h.1; omega, E⟩
end
end Go.Proofs.YtpgalbgonmclaaaGreat
