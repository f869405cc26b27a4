/- Whether leaves and nodes are the same, and right, as the reference says it. -/
import Derived.Test.YtpgalbgonmclaaaGreatNdB
namespace Go.Proofs.YtpgalbgonmclaaaGreat
open Go.RowKit
attribute [local irreducible] Y Ef WL WC WK WQ WM OpM WN WF OpN
theorem same_stepZ {xs ys : List Int} {k : Nat} (hx : k < xs.length) (hy : k < ys.length) (h : xs.take k = ys.take k) (e : xs.getD k 0 = ys.getD k 0) : xs.take (k + 1) = ys.take (k + 1) := by
  rw [List.take_succ_eq_append_getElem hx, List.take_succ_eq_append_getElem hy, h]
  congr 1
  simpa [hx, hy] using e
theorem slEqual_any {A B : Option Addr} {n m c d : Nat} {xs ys : List Int} {w : World} (HA : Zs w A n xs) (HB : Zs w B m ys) (hn : n ≤ 1000000) :
    Calls Tryz.prog 140 #[.slice A n c, .slice B m d] w fun e w' => e = .returned (.bool (decide (xs = ys))) ∧ Ext w w' := by
  have la := HA.1; have lb := HB.1
  have E := Ext.refl w
  refine vc_enter1 26 Tryz.func140 rfl rfl rfl rfl ?_
  intro Q hret
  refine wc_seq ?_; intro K1 hK1
  refine wc_region ?_
  refine wl_y (y_assign rfl) rfl ?_
  refine wl_nil ?_
  refine wq_then_norm (hK1 ?_)
  refine wc_seq ?_; intro K2 hK2
  refine wc_seq ?_; intro K3 hK3
  refine wc_region ?_
  refine wl_y (y_move rfl) rfl ?_
  refine wl_y (y_len_slice rfl Tryz.underlying109) rfl ?_
  refine wl_y (y_move rfl) rfl ?_
  refine wl_y (y_len_slice rfl Tryz.underlying109) rfl ?_
  refine wl_y (y_neq rfl rfl) rfl ?_
  refine wl_nil ?_
  refine wq_then_norm (hK3 ?_)
  refine wc_dec rfl (fun hc1 => ?_) (fun hc1 => ?_)
  · skip
    refine wc_seq ?_; intro K4 hK4
    refine wc_region ?_
    refine wl_y (y_assign rfl) rfl ?_
    refine wl_nil ?_
    refine wq_then_norm (hK4 ?_)
    refine wc_ret ?_
    refine wq_then_ret ?_
    refine hret rfl ?_
    exact ⟨ret_no fun h => by subst h; omega, E⟩
  · skip
    refine wc_skip ?_
    refine wq_then_norm (hK2 ?_)
    refine wc_seq ?_; intro K5 hK5
    refine wc_seq ?_; intro K6 hK6
    refine wc_region ?_
    refine wl_y (y_move rfl) rfl ?_
    refine wl_y (y_len_slice rfl Tryz.underlying109) rfl ?_
    refine wl_y (y_move rfl) rfl ?_
    refine wl_nil ?_
    refine wq_then_norm (hK6 ?_)
    refine wc_block ?_
    refine wc_loop (fun n' L wr => ∃ (k : Nat), L = [(0, .slice A n c), (1, .slice B m d), (12, .int .i64 (n : Int)), (13, .int .i64 (k : Int))] ∧ n' = n - k ∧ (k ≤ n ∧ xs.take k = ys.take k ∧ Ext w wr)) _ _ ⟨0, rfl, rfl, by omega, rfl, E⟩ ⟨rfl, rfl, (by first | rfl | exact congrArg some (int_val (by omega))), (by first | rfl | exact congrArg some (int_val (by omega))), trivial⟩ ?_
    rintro KL1 n' L wr ⟨k, rfl, rfl, hk, hT, E⟩ hL1
    refine wc_seq ?_; intro K7 hK7
    refine wc_region ?_
    refine wl_y (y_lss rfl rfl) rfl ?_
    refine wl_nil ?_
    refine wq_then_norm (hK7 ?_)
    refine wc_seq ?_; intro K8 hK8
    refine wc_dec rfl (fun hc2 => ?_) (fun hc2 => ?_)
    · skip
      refine wc_skip ?_
      refine wq_then_norm (hK8 ?_)
      refine wc_seq ?_; intro K9 hK9
      refine wc_block ?_
      refine wc_seq ?_; intro K10 hK10
      have hlt : k < n := by omega
      have hnm : n = m := by omega
      obtain ⟨b, off, rfl, _, hc, _, _⟩ := (HA.ext E).get hlt
      obtain ⟨b', off', rfl, _, hc', _, _⟩ := (HB.ext E).get (k := k) (by omega)
      refine wc_region ?_
      refine wl_y (y_move rfl) rfl ?_
      refine wl_y (y_assign rfl) rfl ?_
      refine wl_nil ?_
      refine wq_then_norm (hK10 ?_)
      refine wc_seq ?_; intro K11 hK11
      refine wc_draw (by kernel_rfl) 9 rfl ?_; intro wd6 ex hd6
      replace E := E.ext ex
      refine wm_y 0 rfl (by kernel_rfl) (y_move rfl) rfl ?_
      refine wm_y 1 rfl (by kernel_rfl) (y_move rfl) rfl ?_
      refine wm_y 2 rfl (by kernel_rfl) (y_ixs1 rfl rfl Tryz.underlying109 (by kernel_rfl) rfl (by omega)) rfl ?_
      refine wm_y 3 rfl (by kernel_rfl) (y_load1 rfl Tryz.underlying3 rfl ((ex.cell (cell_lt hc)).trans hc)) rfl ?_
      refine wm_y 4 rfl (by kernel_rfl) (y_move rfl) rfl ?_
      refine wm_y 5 rfl (by kernel_rfl) (y_move rfl) rfl ?_
      refine wm_y 6 rfl (by kernel_rfl) (y_ixs1 rfl rfl Tryz.underlying109 (by kernel_rfl) rfl (by omega)) rfl ?_
      refine wm_y 7 rfl (by kernel_rfl) (y_load1 rfl Tryz.underlying3 rfl ((ex.cell (cell_lt hc')).trans hc')) rfl ?_
      refine wm_y 8 rfl (by kernel_rfl) (y_neq rfl rfl) rfl ?_
      refine wm_done (by kernel_rfl) ?_
      refine wq_nop ?_
      refine wq_then_norm (hK11 ?_)
      refine wc_dec rfl (fun hc3 => ?_) (fun hc3 => ?_)
      · skip
        refine wc_seq ?_; intro K12 hK12
        refine wc_region ?_
        refine wl_y (y_assign rfl) rfl ?_
        refine wl_nil ?_
        refine wq_then_norm (hK12 ?_)
        refine wc_ret ?_
        refine wq_blk_ret ?_
        refine wq_then_ret ?_
        refine wq_then_ret ?_
        refine wq_blk_ret ?_
        refine wq_then_ret ?_
        refine hret rfl ?_
        exact ⟨ret_no fun h => hc3 (by rw [h]), E⟩
      · skip
        refine wc_skip ?_
        refine wq_blk_norm ?_
        refine wq_then_norm (hK9 ?_)
        refine wc_region ?_
        refine wl_y (y_add rfl rfl (i64_ok (by omega) (by omega))) rfl ?_
        refine wl_y (y_move rfl) rfl ?_
        refine wl_nil ?_
        refine wq_then_norm ?_
        refine hL1 _ _ ⟨k + 1, rfl, rfl, by omega, same_stepZ (by omega) (by omega) hT (by omega), E⟩ (by omega) ⟨rfl, rfl, (by first | rfl | exact congrArg some (int_val (by omega))), (by first | rfl | exact congrArg some (int_val (by omega))), trivial⟩
    · skip
      refine wc_exit ?_
      refine wq_then_exit ?_
      refine wq_then_exit ?_
      refine wq_blk_hit ?_
      refine wq_then_norm (hK5 ?_)
      refine wc_seq ?_; intro K13 hK13
      refine wc_region ?_
      refine wl_y (y_assign rfl) rfl ?_
      refine wl_nil ?_
      refine wq_then_norm (hK13 ?_)
      refine wc_ret ?_
      refine hret rfl ?_
      have hnm : n = m := by omega
      obtain rfl : k = n := by omega
      rw [List.take_of_length_le (by omega), List.take_of_length_le (by omega)] at hT
      exact ⟨ret_yes hT, E⟩
theorem leaf_eq {a b : Leaf} : a = b ↔ a.box = b.box ∧ a.sign = b.sign ∧ a.ident = b.ident ∧ a.src = b.src ∧ a.parent = b.parent ∧ a.sig = b.sig := by
  constructor
  · rintro rfl; simp
  · cases a; cases b; simp_all
theorem rsameLeaf_any {cs ds : Array Value} {a b : Leaf} (w : World) (H : LeafAt w cs a) (K : LeafAt w ds b) (hf : a.Fit) (hg : b.Fit) :
    Calls Tryz.prog 49 #[.agg cs, .agg ds] w fun e w' => e = .returned (.bool (decide (a = b))) ∧ Ext w w' := by
  obtain ⟨h0, h1, h2, h4, h5, rfl, hs, b0, b1, b2, b4, b5⟩ := H
  obtain ⟨i0, i1, i2, i4, i5, rfl, hs', d0, d1, d2, d4, d5⟩ := K
  have l0 := b0.1; have l1 := b1.1; have l2 := b2.1; have l4 := b4.1; have l5 := b5.1
  have m0 := d0.1; have m1 := d1.1; have m2 := d2.1; have m4 := d4.1; have m5 := d5.1
  obtain ⟨f0, f1, f2, f4, f5⟩ := hf
  obtain ⟨g0, g1, g2, g4, g5⟩ := hg
  have E := Ext.refl w
  refine vc_enter1 45 Tryz.func49 rfl rfl rfl rfl ?_
  intro Q hret
  refine wc_seq ?_; intro K1 hK1
  refine wc_region ?_
  refine wl_ef (ef_box rfl rfl) rfl ?_
  rintro _ wB2 ⟨gB2, rfl, B2, hgB2, ex⟩
  have lB2 := B2.lt; have zB2 := ex.size
  replace E := E.ext ex
  refine wl_ef (ef_box rfl rfl) rfl ?_
  rintro _ wB3 ⟨gB3, rfl, B3, hgB3, ex⟩
  have lB3 := B3.lt; have zB3 := ex.size
  replace E := E.ext ex
  replace B2 := B2.ext ex
  refine wl_y (y_assign rfl) rfl ?_
  refine wl_nil ?_
  refine wq_then_norm (hK1 ?_)
  refine wc_seq ?_; intro K2 hK2
  refine wc_region ?_
  refine wl_y (y_fieldAddr (o := 0) (s := 1) (off := 0) (o' := 0) rfl Tryz.underlying25 rfl (by kernel_rfl) rfl rfl) rfl ?_
  refine wl_y (y_load1 rfl Tryz.underlying22 rfl (B2.get (i := 0) rfl)) rfl ?_
  refine wl_y (y_fieldAddr (o := 0) (s := 1) (off := 0) (o' := 0) rfl Tryz.underlying25 rfl (by kernel_rfl) rfl rfl) rfl ?_
  refine wl_y (y_load1 rfl Tryz.underlying22 rfl (B3.get (i := 0) rfl)) rfl ?_
  refine wl_call Tryz.func28 rfl rfl rfl (sm_any (Bs.ext b0 E) (Bs.ext d0 E) (by omega) (by omega)) rfl ?_
  rintro e w2 ⟨rfl, ex⟩
  refine ⟨_, rfl, ?_⟩
  replace E := E.ext ex
  replace B2 := B2.ext ex
  replace B3 := B3.ext ex
  skip
  refine wl_yask (y_move rfl) rfl (fun q0 => ?_) (fun q0 => ?_)
  · skip
    refine wl_gy 10 rfl rfl (y_fieldAddr (o := 1) (s := 1) (off := 0) (o' := 1) rfl Tryz.underlying25 rfl (by kernel_rfl) rfl rfl) rfl ?_
    refine wl_gy 10 rfl rfl (y_load1 rfl Tryz.underlying22 rfl (B2.get (i := 1) rfl)) rfl ?_
    refine wl_gy 10 rfl rfl (y_fieldAddr (o := 1) (s := 1) (off := 0) (o' := 1) rfl Tryz.underlying25 rfl (by kernel_rfl) rfl rfl) rfl ?_
    refine wl_gy 10 rfl rfl (y_load1 rfl Tryz.underlying22 rfl (B3.get (i := 1) rfl)) rfl ?_
    refine wl_gcall 10 rfl rfl Tryz.func28 rfl rfl rfl (sm_any (Bs.ext b1 E) (Bs.ext d1 E) (by omega) (by omega)) rfl ?_
    rintro e w3 ⟨rfl, ex⟩
    refine ⟨_, rfl, ?_⟩
    replace E := E.ext ex
    replace B2 := B2.ext ex
    replace B3 := B3.ext ex
    skip
    refine wl_y (y_pickt rfl rfl) rfl ?_
    refine wl_yask (y_move rfl) rfl (fun q1 => ?_) (fun q1 => ?_)
    · skip
      refine wl_gy 17 rfl rfl (y_fieldAddr (o := 2) (s := 1) (off := 0) (o' := 2) rfl Tryz.underlying25 rfl (by kernel_rfl) rfl rfl) rfl ?_
      refine wl_gy 17 rfl rfl (y_load1 rfl Tryz.underlying22 rfl (B2.get (i := 2) rfl)) rfl ?_
      refine wl_gy 17 rfl rfl (y_fieldAddr (o := 2) (s := 1) (off := 0) (o' := 2) rfl Tryz.underlying25 rfl (by kernel_rfl) rfl rfl) rfl ?_
      refine wl_gy 17 rfl rfl (y_load1 rfl Tryz.underlying22 rfl (B3.get (i := 2) rfl)) rfl ?_
      refine wl_gcall 17 rfl rfl Tryz.func28 rfl rfl rfl (sm_any (Bs.ext b2 E) (Bs.ext d2 E) (by omega) (by omega)) rfl ?_
      rintro e w4 ⟨rfl, ex⟩
      refine ⟨_, rfl, ?_⟩
      replace E := E.ext ex
      replace B2 := B2.ext ex
      replace B3 := B3.ext ex
      skip
      refine wl_y (y_pickt rfl rfl) rfl ?_
      refine wl_yask (y_move rfl) rfl (fun q2 => ?_) (fun q2 => ?_)
      · skip
        refine wl_gy 24 rfl rfl (y_fieldAddr (o := 3) (s := 1) (off := 0) (o' := 3) rfl Tryz.underlying25 rfl (by kernel_rfl) rfl rfl) rfl ?_
        refine wl_gy 24 rfl rfl (y_load1 rfl Tryz.underlying5 rfl (B2.get (i := 3) rfl)) rfl ?_
        refine wl_gy 24 rfl rfl (y_fieldAddr (o := 3) (s := 1) (off := 0) (o' := 3) rfl Tryz.underlying25 rfl (by kernel_rfl) rfl rfl) rfl ?_
        refine wl_gy 24 rfl rfl (y_load1 rfl Tryz.underlying5 rfl (B3.get (i := 3) rfl)) rfl ?_
        refine wl_gyask 24 rfl rfl (y_eql rfl rfl) rfl (fun q3 => ?_) (fun q3 => ?_)
        · skip
          refine wl_y (y_pickt rfl rfl) rfl ?_
          refine wl_y (y_move rfl) rfl ?_
          refine wl_gy 31 rfl rfl (y_fieldAddr (o := 4) (s := 1) (off := 0) (o' := 4) rfl Tryz.underlying25 rfl (by kernel_rfl) rfl rfl) rfl ?_
          refine wl_gy 31 rfl rfl (y_load1 rfl Tryz.underlying22 rfl (B2.get (i := 4) rfl)) rfl ?_
          refine wl_gy 31 rfl rfl (y_fieldAddr (o := 4) (s := 1) (off := 0) (o' := 4) rfl Tryz.underlying25 rfl (by kernel_rfl) rfl rfl) rfl ?_
          refine wl_gy 31 rfl rfl (y_load1 rfl Tryz.underlying22 rfl (B3.get (i := 4) rfl)) rfl ?_
          refine wl_gcall 31 rfl rfl Tryz.func28 rfl rfl rfl (sm_any (Bs.ext b4 E) (Bs.ext d4 E) (by omega) (by omega)) rfl ?_
          rintro e w5 ⟨rfl, ex⟩
          refine ⟨_, rfl, ?_⟩
          replace E := E.ext ex
          replace B2 := B2.ext ex
          replace B3 := B3.ext ex
          skip
          refine wl_y (y_pickt rfl rfl) rfl ?_
          refine wl_yask (y_move rfl) rfl (fun q4 => ?_) (fun q4 => ?_)
          · skip
            refine wl_gy 38 rfl rfl (y_fieldAddr (o := 5) (s := 1) (off := 0) (o' := 5) rfl Tryz.underlying25 rfl (by kernel_rfl) rfl rfl) rfl ?_
            refine wl_gy 38 rfl rfl (y_load1 rfl Tryz.underlying22 rfl (B2.get (i := 5) rfl)) rfl ?_
            refine wl_gy 38 rfl rfl (y_fieldAddr (o := 5) (s := 1) (off := 0) (o' := 5) rfl Tryz.underlying25 rfl (by kernel_rfl) rfl rfl) rfl ?_
            refine wl_gy 38 rfl rfl (y_load1 rfl Tryz.underlying22 rfl (B3.get (i := 5) rfl)) rfl ?_
            refine wl_gcall 38 rfl rfl Tryz.func28 rfl rfl rfl (sm_any (Bs.ext b5 E) (Bs.ext d5 E) (by omega) (by omega)) rfl ?_
            rintro e w6 ⟨rfl, ex⟩
            refine ⟨_, rfl, ?_⟩
            replace E := E.ext ex
            replace B2 := B2.ext ex
            replace B3 := B3.ext ex
            skip
            refine wl_y (y_pickt rfl rfl) rfl ?_
            refine wl_y (y_assign rfl) rfl ?_
            refine wl_nil ?_
            refine wq_then_norm (hK2 ?_)
            refine wc_ret ?_
            refine hret rfl ?_
            exact ⟨ret_bool ⟨fun h => leaf_eq.2 ⟨q0, q1, q2, by omega, q4, h⟩, fun h => by rw [h]⟩, E⟩
          · skip
            refine wl_gno 38 rfl rfl rfl rfl ?_
            refine wl_gno 38 rfl rfl rfl rfl ?_
            refine wl_gno 38 rfl rfl rfl rfl ?_
            refine wl_gno 38 rfl rfl rfl rfl ?_
            refine wl_gno 38 rfl rfl rfl rfl ?_
            refine wl_y (y_pickf rfl rfl) rfl ?_
            refine wl_y (y_assign rfl) rfl ?_
            refine wl_nil ?_
            refine wq_then_norm (hK2 ?_)
            refine wc_ret ?_
            refine hret rfl ?_
            exact ⟨ret_no fun h => q4 (by rw [h]), E⟩
        · skip
          refine wl_y (y_pickt rfl rfl) rfl ?_
          refine wl_y (y_move rfl) rfl ?_
          refine wl_gno 31 rfl rfl rfl rfl ?_
          refine wl_gno 31 rfl rfl rfl rfl ?_
          refine wl_gno 31 rfl rfl rfl rfl ?_
          refine wl_gno 31 rfl rfl rfl rfl ?_
          refine wl_gno 31 rfl rfl rfl rfl ?_
          refine wl_y (y_pickf rfl rfl) rfl ?_
          refine wl_y (y_move rfl) rfl ?_
          refine wl_gno 38 rfl rfl rfl rfl ?_
          refine wl_gno 38 rfl rfl rfl rfl ?_
          refine wl_gno 38 rfl rfl rfl rfl ?_
          refine wl_gno 38 rfl rfl rfl rfl ?_
          refine wl_gno 38 rfl rfl rfl rfl ?_
          refine wl_y (y_pickf rfl rfl) rfl ?_
          refine wl_y (y_assign rfl) rfl ?_
          refine wl_nil ?_
          refine wq_then_norm (hK2 ?_)
          refine wc_ret ?_
          refine hret rfl ?_
          exact ⟨ret_no fun h => q3 (by rw [h]), E⟩
      · skip
        refine wl_gno 24 rfl rfl rfl rfl ?_
        refine wl_gno 24 rfl rfl rfl rfl ?_
        refine wl_gno 24 rfl rfl rfl rfl ?_
        refine wl_gno 24 rfl rfl rfl rfl ?_
        refine wl_gno 24 rfl rfl rfl rfl ?_
        refine wl_y (y_pickf rfl rfl) rfl ?_
        refine wl_y (y_move rfl) rfl ?_
        refine wl_gno 31 rfl rfl rfl rfl ?_
        refine wl_gno 31 rfl rfl rfl rfl ?_
        refine wl_gno 31 rfl rfl rfl rfl ?_
        refine wl_gno 31 rfl rfl rfl rfl ?_
        refine wl_gno 31 rfl rfl rfl rfl ?_
        refine wl_y (y_pickf rfl rfl) rfl ?_
        refine wl_y (y_move rfl) rfl ?_
        refine wl_gno 38 rfl rfl rfl rfl ?_
        refine wl_gno 38 rfl rfl rfl rfl ?_
        refine wl_gno 38 rfl rfl rfl rfl ?_
        refine wl_gno 38 rfl rfl rfl rfl ?_
        refine wl_gno 38 rfl rfl rfl rfl ?_
        refine wl_y (y_pickf rfl rfl) rfl ?_
        refine wl_y (y_assign rfl) rfl ?_
        refine wl_nil ?_
        refine wq_then_norm (hK2 ?_)
        refine wc_ret ?_
        refine hret rfl ?_
        exact ⟨ret_no fun h => q2 (by rw [h]), E⟩
    · skip
      refine wl_gno 17 rfl rfl rfl rfl ?_
      refine wl_gno 17 rfl rfl rfl rfl ?_
      refine wl_gno 17 rfl rfl rfl rfl ?_
      refine wl_gno 17 rfl rfl rfl rfl ?_
      refine wl_gno 17 rfl rfl rfl rfl ?_
      refine wl_y (y_pickf rfl rfl) rfl ?_
      refine wl_y (y_move rfl) rfl ?_
      refine wl_gno 24 rfl rfl rfl rfl ?_
      refine wl_gno 24 rfl rfl rfl rfl ?_
      refine wl_gno 24 rfl rfl rfl rfl ?_
      refine wl_gno 24 rfl rfl rfl rfl ?_
      refine wl_gno 24 rfl rfl rfl rfl ?_
      refine wl_y (y_pickf rfl rfl) rfl ?_
      refine wl_y (y_move rfl) rfl ?_
      refine wl_gno 31 rfl rfl rfl rfl ?_
      refine wl_gno 31 rfl rfl rfl rfl ?_
      refine wl_gno 31 rfl rfl rfl rfl ?_
      refine wl_gno 31 rfl rfl rfl rfl ?_
      refine wl_gno 31 rfl rfl rfl rfl ?_
      refine wl_y (y_pickf rfl rfl) rfl ?_
      refine wl_y (y_move rfl) rfl ?_
      refine wl_gno 38 rfl rfl rfl rfl ?_
      refine wl_gno 38 rfl rfl rfl rfl ?_
      refine wl_gno 38 rfl rfl rfl rfl ?_
      refine wl_gno 38 rfl rfl rfl rfl ?_
      refine wl_gno 38 rfl rfl rfl rfl ?_
      refine wl_y (y_pickf rfl rfl) rfl ?_
      refine wl_y (y_assign rfl) rfl ?_
      refine wl_nil ?_
      refine wq_then_norm (hK2 ?_)
      refine wc_ret ?_
      refine hret rfl ?_
      exact ⟨ret_no fun h => q1 (by rw [h]), E⟩
  · skip
    refine wl_gno 10 rfl rfl rfl rfl ?_
    refine wl_gno 10 rfl rfl rfl rfl ?_
    refine wl_gno 10 rfl rfl rfl rfl ?_
    refine wl_gno 10 rfl rfl rfl rfl ?_
    refine wl_gno 10 rfl rfl rfl rfl ?_
    refine wl_y (y_pickf rfl rfl) rfl ?_
    refine wl_y (y_move rfl) rfl ?_
    refine wl_gno 17 rfl rfl rfl rfl ?_
    refine wl_gno 17 rfl rfl rfl rfl ?_
    refine wl_gno 17 rfl rfl rfl rfl ?_
    refine wl_gno 17 rfl rfl rfl rfl ?_
    refine wl_gno 17 rfl rfl rfl rfl ?_
    refine wl_y (y_pickf rfl rfl) rfl ?_
    refine wl_y (y_move rfl) rfl ?_
    refine wl_gno 24 rfl rfl rfl rfl ?_
    refine wl_gno 24 rfl rfl rfl rfl ?_
    refine wl_gno 24 rfl rfl rfl rfl ?_
    refine wl_gno 24 rfl rfl rfl rfl ?_
    refine wl_gno 24 rfl rfl rfl rfl ?_
    refine wl_y (y_pickf rfl rfl) rfl ?_
    refine wl_y (y_move rfl) rfl ?_
    refine wl_gno 31 rfl rfl rfl rfl ?_
    refine wl_gno 31 rfl rfl rfl rfl ?_
    refine wl_gno 31 rfl rfl rfl rfl ?_
    refine wl_gno 31 rfl rfl rfl rfl ?_
    refine wl_gno 31 rfl rfl rfl rfl ?_
    refine wl_y (y_pickf rfl rfl) rfl ?_
    refine wl_y (y_move rfl) rfl ?_
    refine wl_gno 38 rfl rfl rfl rfl ?_
    refine wl_gno 38 rfl rfl rfl rfl ?_
    refine wl_gno 38 rfl rfl rfl rfl ?_
    refine wl_gno 38 rfl rfl rfl rfl ?_
    refine wl_gno 38 rfl rfl rfl rfl ?_
    refine wl_y (y_pickf rfl rfl) rfl ?_
    refine wl_y (y_assign rfl) rfl ?_
    refine wl_nil ?_
    refine wq_then_norm (hK2 ?_)
    refine wc_ret ?_
    refine hret rfl ?_
    exact ⟨ret_no fun h => q0 (by rw [h]), E⟩
theorem par_eq {a b : Par} : a = b ↔ a.box = b.box ∧ a.hash = b.hash ∧ a.late = b.late := by
  constructor
  · rintro rfl; simp
  · cases a; cases b; simp_all
theorem node_eq {a b : Node} : a = b ↔ a.kind = b.kind ∧ a.leaf = b.leaf ∧ a.par.box = b.par.box ∧ a.par.hash = b.par.hash ∧ a.par.late = b.par.late := by
  constructor
  · rintro rfl; simp
  · obtain ⟨k, l, p⟩ := a
    obtain ⟨k', l', p'⟩ := b
    rintro ⟨h1, h2, h3, h4, h5⟩
    have : p = p' := par_eq.2 ⟨h3, h4, h5⟩
    simp only at h1 h2
    subst h1; subst h2; subst this; rfl
theorem nsame_any {cs ds : Array Value} {a b : Node} (w : World) (H : NodeAt w cs a) (K : NodeAt w ds b) (hf : a.Fit) (hg : b.Fit) :
    Calls Tryz.prog 119 #[.agg cs, .agg ds] w fun e w' => e = .returned (.bool (decide (a = b))) ∧ Ext w w' := by
  obtain ⟨h0, h1, h2, h4, h5, p0, p1, p2, rfl, hk, hs, b0, b1, b2, b4, b5, q0', q1', q2'⟩ := H
  obtain ⟨i0, i1, i2, i4, i5, r0, r1, r2, rfl, hk', hs', d0, d1, d2, d4, d5, s0, s1, s2⟩ := K
  have l0 := b0.1; have l1 := b1.1; have l2 := b2.1; have l4 := b4.1; have l5 := b5.1
  have e0 := d0.1; have e1 := d1.1; have e2 := d2.1; have e4 := d4.1; have e5 := d5.1
  have m0 := q0'.1; have m1 := q1'.1; have m2 := q2'.1
  have o0 := s0.1; have o1 := s1.1; have o2 := s2.1
  obtain ⟨⟨u0, u1, u2, u4, u5⟩, f0, f1, f2⟩ := hf
  obtain ⟨⟨v0, v1, v2, v4, v5⟩, g0, g1, g2⟩ := hg
  have E := Ext.refl w
  refine vc_enter1 84 Tryz.func119 rfl rfl rfl rfl ?_
  intro Q hret
  refine wc_seq ?_; intro K1 hK1
  refine wc_region ?_
  refine wl_ef (ef_box rfl rfl) rfl ?_
  rintro _ wB2 ⟨gB2, rfl, B2, hgB2, ex⟩
  have lB2 := B2.lt; have zB2 := ex.size
  replace E := E.ext ex
  refine wl_ef (ef_box rfl rfl) rfl ?_
  rintro _ wB3 ⟨gB3, rfl, B3, hgB3, ex⟩
  have lB3 := B3.lt; have zB3 := ex.size
  replace E := E.ext ex
  replace B2 := B2.ext ex
  refine wl_y (y_assign rfl) rfl ?_
  refine wl_nil ?_
  refine wq_then_norm (hK1 ?_)
  refine wc_seq ?_; intro K2 hK2
  refine wc_drawB (by kernel_rfl) 8 rfl ?_; intro wd1 ex hd1
  replace E := E.ext ex
  replace B2 := B2.ext ex
  replace B3 := B3.ext ex
  have E_0 := E
  have B2_0 := B2
  have B3_0 := B3
  have X0 := Ext.refl wd1
  refine wn_y 0 rfl (by kernel_rfl) (y_fieldAddr (o := 1) (s := 6) (off := 0) (o' := 1) rfl Tryz.underlying113 rfl (by kernel_rfl) rfl rfl) rfl ?_
  refine wn_y 1 rfl (by kernel_rfl) (y_loadx (o := 1) (s := 6) rfl Tryz.underlying25 rfl (by kernel_rfl) B2_0 rfl) rfl ?_
  refine wn_y 2 rfl (by kernel_rfl) (y_fieldAddr (o := 1) (s := 6) (off := 0) (o' := 1) rfl Tryz.underlying113 rfl (by kernel_rfl) rfl rfl) rfl ?_
  refine wn_y 3 rfl (by kernel_rfl) (y_loadx (o := 1) (s := 6) rfl Tryz.underlying25 rfl (by kernel_rfl) B3_0 rfl) rfl ?_
  refine wf_start (fl := [flA 4 5 25 (zLeafV), flA 5 6 25 (zLeafV)]) rfl ?_
  refine wf_land2 ⟨(fall (flA_runs rfl (by kernel_rfl)) (fall (flA_runs rfl (by kernel_rfl)) fall_nil)), by decide, by decide, (fall (⟨rfl, by decide⟩) (fall (⟨rfl, by decide⟩) fall_nil)), (fall (mem_of_has (by kernel_rfl)) (fall (mem_of_has (by kernel_rfl)) fall_nil))⟩ (by kernel_rfl) ?_
  rintro _ _ wl1 ex ⟨⟨g5, rfl, Bg5⟩, hg5⟩ ⟨⟨g6, rfl, Bg6⟩, hg6⟩ farg5_g6
  replace hg5 := hg5 g5 rfl
  replace hg6 := hg6 g6 rfl
  have neg5_g6 : g5 ≠ g6 := fun e => farg5_g6 g5 rfl (by rw [e]; rfl)
  replace E := E.ext ex
  replace B2 := B2.ext ex
  replace B3 := B3.ext ex
  replace X0 := X0.ext ex
  refine wn_one 6 (by kernel_rfl) ?_
  refine on_ef rfl (ef_storeW (cells := leafV h0 h1 h2 a.leaf.src h4 h5) rfl rfl (by kernel_rfl) Bg5 rfl (all_ones rfl)) rfl ?_
  rintro _ wn1_6 ⟨rfl, Bg5, cg⟩
  replace X0 := X0.chg cg hg5
  refine ⟨X0, ?_⟩
  replace E := E_0.ext X0
  replace B2 := B2_0.ext X0
  replace B3 := B3_0.ext X0
  replace Bg6 := Bg6.chg cg (by omega)
  refine wn_one 7 (by kernel_rfl) ?_
  refine on_ef rfl (ef_storeW (cells := leafV i0 i1 i2 b.leaf.src i4 i5) rfl rfl (by kernel_rfl) Bg6 rfl (all_ones rfl)) rfl ?_
  rintro _ wn1_7 ⟨rfl, Bg6, cg⟩
  replace X0 := X0.chg cg hg6
  refine ⟨X0, ?_⟩
  replace E := E_0.ext X0
  replace B2 := B2_0.ext X0
  replace B3 := B3_0.ext X0
  replace Bg5 := Bg5.chg cg (by omega)
  refine wn_done (by kernel_rfl) ?_
  refine wq_nop ?_
  refine wq_then_norm (hK2 ?_)
  refine wc_seq ?_; intro K3 hK3
  refine wc_seq ?_; intro K4 hK4
  refine wc_region ?_
  refine wl_y (y_fieldAddr (o := 0) (s := 1) (off := 0) (o' := 0) rfl Tryz.underlying113 rfl (by kernel_rfl) rfl rfl) rfl ?_
  refine wl_y (y_load1 rfl Tryz.underlying5 rfl (B2.get (i := 0) rfl)) rfl ?_
  refine wl_y (y_fieldAddr (o := 0) (s := 1) (off := 0) (o' := 0) rfl Tryz.underlying113 rfl (by kernel_rfl) rfl rfl) rfl ?_
  refine wl_y (y_load1 rfl Tryz.underlying5 rfl (B3.get (i := 0) rfl)) rfl ?_
  refine wl_yask (y_neq rfl rfl) rfl (fun q0 => ?_) (fun q0 => ?_)
  · skip
    refine wl_y (y_move rfl) rfl ?_
    refine wl_gno 16 rfl rfl rfl rfl ?_
    refine wl_gno 16 rfl rfl rfl rfl ?_
    refine wl_gno 16 rfl rfl rfl rfl ?_
    refine wl_gno 16 rfl rfl rfl rfl ?_
    refine wl_gno 16 rfl rfl rfl rfl ?_
    refine wl_y (y_pickt rfl rfl) rfl ?_
    refine wl_y (y_move rfl) rfl ?_
    refine wl_gno 23 rfl rfl rfl rfl ?_
    refine wl_gno 23 rfl rfl rfl rfl ?_
    refine wl_gno 23 rfl rfl rfl rfl ?_
    refine wl_gno 23 rfl rfl rfl rfl ?_
    refine wl_gno 23 rfl rfl rfl rfl ?_
    refine wl_gno 23 rfl rfl rfl rfl ?_
    refine wl_gno 23 rfl rfl rfl rfl ?_
    refine wl_gno 23 rfl rfl rfl rfl ?_
    refine wl_y (y_pickt rfl rfl) rfl ?_
    refine wl_nil ?_
    refine wq_then_norm (hK4 ?_)
    refine wc_true rfl rfl ?_
    refine wc_seq ?_; intro K5 hK5
    refine wc_region ?_
    refine wl_y (y_assign rfl) rfl ?_
    refine wl_nil ?_
    refine wq_then_norm (hK5 ?_)
    refine wc_ret ?_
    refine wq_then_ret ?_
    refine hret rfl ?_
    exact ⟨ret_no fun h => q0 (by rw [h]), E⟩
  · skip
    refine wl_y (y_move rfl) rfl ?_
    refine wl_gy 16 rfl rfl (y_fieldAddr (o := 3) (s := 1) (off := 0) (o' := 3) rfl Tryz.underlying25 rfl (by kernel_rfl) rfl rfl) rfl ?_
    refine wl_gy 16 rfl rfl (y_load1 rfl Tryz.underlying5 rfl (Bg5.get (i := 3) rfl)) rfl ?_
    refine wl_gy 16 rfl rfl (y_fieldAddr (o := 3) (s := 1) (off := 0) (o' := 3) rfl Tryz.underlying25 rfl (by kernel_rfl) rfl rfl) rfl ?_
    refine wl_gy 16 rfl rfl (y_load1 rfl Tryz.underlying5 rfl (Bg6.get (i := 3) rfl)) rfl ?_
    refine wl_gyask 16 rfl rfl (y_neq rfl rfl) rfl (fun q1 => ?_) (fun q1 => ?_)
    · skip
      refine wl_y (y_pickf rfl rfl) rfl ?_
      refine wl_y (y_move rfl) rfl ?_
      refine wl_gno 23 rfl rfl rfl rfl ?_
      refine wl_gno 23 rfl rfl rfl rfl ?_
      refine wl_gno 23 rfl rfl rfl rfl ?_
      refine wl_gno 23 rfl rfl rfl rfl ?_
      refine wl_gno 23 rfl rfl rfl rfl ?_
      refine wl_gno 23 rfl rfl rfl rfl ?_
      refine wl_gno 23 rfl rfl rfl rfl ?_
      refine wl_gno 23 rfl rfl rfl rfl ?_
      refine wl_y (y_pickt rfl rfl) rfl ?_
      refine wl_nil ?_
      refine wq_then_norm (hK4 ?_)
      refine wc_true rfl rfl ?_
      refine wc_seq ?_; intro K6 hK6
      refine wc_region ?_
      refine wl_y (y_assign rfl) rfl ?_
      refine wl_nil ?_
      refine wq_then_norm (hK6 ?_)
      refine wc_ret ?_
      refine wq_then_ret ?_
      refine hret rfl ?_
      exact ⟨ret_no fun h => q1 (by rw [h]), E⟩
    · skip
      refine wl_y (y_pickf rfl rfl) rfl ?_
      refine wl_y (y_move rfl) rfl ?_
      refine wl_gy 23 rfl rfl (y_fieldAddr (o := 7) (s := 3) (off := 0) (o' := 7) rfl Tryz.underlying113 rfl (by kernel_rfl) rfl rfl) rfl ?_
      refine wl_gy 23 rfl rfl (y_fieldAddr (o := 2) (s := 1) (off := 7) (o' := 9) rfl Tryz.underlying111 rfl (by kernel_rfl) rfl rfl) rfl ?_
      refine wl_gy 23 rfl rfl (y_load1 rfl Tryz.underlying109 rfl (B2.get (i := 9) rfl)) rfl ?_
      refine wl_gy 23 rfl rfl (y_fieldAddr (o := 7) (s := 3) (off := 0) (o' := 7) rfl Tryz.underlying113 rfl (by kernel_rfl) rfl rfl) rfl ?_
      refine wl_gy 23 rfl rfl (y_fieldAddr (o := 2) (s := 1) (off := 7) (o' := 9) rfl Tryz.underlying111 rfl (by kernel_rfl) rfl rfl) rfl ?_
      refine wl_gy 23 rfl rfl (y_load1 rfl Tryz.underlying109 rfl (B3.get (i := 9) rfl)) rfl ?_
      refine wl_gcall 23 rfl rfl Tryz.func140 rfl rfl rfl (slEqual_any (Zs.ext q2' E) (Zs.ext s2 E) (by omega)) rfl ?_
      rintro e w3 ⟨rfl, ex⟩
      refine ⟨_, rfl, ?_⟩
      replace E := E.ext ex
      replace B2 := B2.ext ex
      replace B3 := B3.ext ex
      replace Bg5 := Bg5.ext ex
      replace Bg6 := Bg6.ext ex
      skip
      refine wl_gyaskb 23 rfl rfl (y_not rfl) rfl (fun q2 => ?_) (fun q2 => ?_)
      · skip
        refine wl_y (y_pickf rfl rfl) rfl ?_
        refine wl_nil ?_
        refine wq_then_norm (hK4 ?_)
        refine wc_true rfl rfl ?_
        refine wc_seq ?_; intro K7 hK7
        refine wc_region ?_
        refine wl_y (y_assign rfl) rfl ?_
        refine wl_nil ?_
        refine wq_then_norm (hK7 ?_)
        refine wc_ret ?_
        refine wq_then_ret ?_
        refine hret rfl ?_
        exact ⟨ret_no fun h => (by rw [decide_eq_true (by rw [h])] at q2; cases q2), E⟩
      · skip
        refine wl_y (y_pickf rfl rfl) rfl ?_
        refine wl_nil ?_
        refine wq_then_norm (hK4 ?_)
        refine wc_false rfl rfl ?_
        refine wc_skip ?_
        refine wq_then_norm (hK3 ?_)
        refine wc_seq ?_; intro K8 hK8
        have q2 : a.par.late = b.par.late := by simpa using q2
        refine wc_region ?_
        refine wl_y (y_fieldAddr (o := 0) (s := 1) (off := 0) (o' := 0) rfl Tryz.underlying25 rfl (by kernel_rfl) rfl rfl) rfl ?_
        refine wl_y (y_load1 rfl Tryz.underlying22 rfl (Bg5.get (i := 0) rfl)) rfl ?_
        refine wl_y (y_fieldAddr (o := 0) (s := 1) (off := 0) (o' := 0) rfl Tryz.underlying25 rfl (by kernel_rfl) rfl rfl) rfl ?_
        refine wl_y (y_load1 rfl Tryz.underlying22 rfl (Bg6.get (i := 0) rfl)) rfl ?_
        refine wl_call Tryz.func141 rfl rfl rfl (bytesEqual_any _ _ _ _ _ _ _ _ _ (Bs.ext b0 E) (Bs.ext d0 E)) rfl ?_
        rintro e w4 ⟨rfl, ex⟩
        refine ⟨_, rfl, ?_⟩
        replace E := E.ext ex
        replace B2 := B2.ext ex
        replace B3 := B3.ext ex
        replace Bg5 := Bg5.ext ex
        replace Bg6 := Bg6.ext ex
        skip
        refine wl_yask (y_move rfl) rfl (fun t0 => ?_) (fun t0 => ?_)
        · skip
          refine wl_gy 38 rfl rfl (y_fieldAddr (o := 1) (s := 1) (off := 0) (o' := 1) rfl Tryz.underlying25 rfl (by kernel_rfl) rfl rfl) rfl ?_
          refine wl_gy 38 rfl rfl (y_load1 rfl Tryz.underlying22 rfl (Bg5.get (i := 1) rfl)) rfl ?_
          refine wl_gy 38 rfl rfl (y_fieldAddr (o := 1) (s := 1) (off := 0) (o' := 1) rfl Tryz.underlying25 rfl (by kernel_rfl) rfl rfl) rfl ?_
          refine wl_gy 38 rfl rfl (y_load1 rfl Tryz.underlying22 rfl (Bg6.get (i := 1) rfl)) rfl ?_
          refine wl_gcall 38 rfl rfl Tryz.func141 rfl rfl rfl (bytesEqual_any _ _ _ _ _ _ _ _ _ (Bs.ext b1 E) (Bs.ext d1 E)) rfl ?_
          rintro e w5 ⟨rfl, ex⟩
          refine ⟨_, rfl, ?_⟩
          replace E := E.ext ex
          replace B2 := B2.ext ex
          replace B3 := B3.ext ex
          replace Bg5 := Bg5.ext ex
          replace Bg6 := Bg6.ext ex
          skip
          refine wl_y (y_pickt rfl rfl) rfl ?_
          refine wl_yask (y_move rfl) rfl (fun t1 => ?_) (fun t1 => ?_)
          · skip
            refine wl_gy 45 rfl rfl (y_fieldAddr (o := 2) (s := 1) (off := 0) (o' := 2) rfl Tryz.underlying25 rfl (by kernel_rfl) rfl rfl) rfl ?_
            refine wl_gy 45 rfl rfl (y_load1 rfl Tryz.underlying22 rfl (Bg5.get (i := 2) rfl)) rfl ?_
            refine wl_gy 45 rfl rfl (y_fieldAddr (o := 2) (s := 1) (off := 0) (o' := 2) rfl Tryz.underlying25 rfl (by kernel_rfl) rfl rfl) rfl ?_
            refine wl_gy 45 rfl rfl (y_load1 rfl Tryz.underlying22 rfl (Bg6.get (i := 2) rfl)) rfl ?_
            refine wl_gcall 45 rfl rfl Tryz.func141 rfl rfl rfl (bytesEqual_any _ _ _ _ _ _ _ _ _ (Bs.ext b2 E) (Bs.ext d2 E)) rfl ?_
            rintro e w6 ⟨rfl, ex⟩
            refine ⟨_, rfl, ?_⟩
            replace E := E.ext ex
            replace B2 := B2.ext ex
            replace B3 := B3.ext ex
            replace Bg5 := Bg5.ext ex
            replace Bg6 := Bg6.ext ex
            skip
            refine wl_y (y_pickt rfl rfl) rfl ?_
            refine wl_yask (y_move rfl) rfl (fun t2 => ?_) (fun t2 => ?_)
            · skip
              refine wl_gy 52 rfl rfl (y_fieldAddr (o := 4) (s := 1) (off := 0) (o' := 4) rfl Tryz.underlying25 rfl (by kernel_rfl) rfl rfl) rfl ?_
              refine wl_gy 52 rfl rfl (y_load1 rfl Tryz.underlying22 rfl (Bg5.get (i := 4) rfl)) rfl ?_
              refine wl_gy 52 rfl rfl (y_fieldAddr (o := 4) (s := 1) (off := 0) (o' := 4) rfl Tryz.underlying25 rfl (by kernel_rfl) rfl rfl) rfl ?_
              refine wl_gy 52 rfl rfl (y_load1 rfl Tryz.underlying22 rfl (Bg6.get (i := 4) rfl)) rfl ?_
              refine wl_gcall 52 rfl rfl Tryz.func141 rfl rfl rfl (bytesEqual_any _ _ _ _ _ _ _ _ _ (Bs.ext b4 E) (Bs.ext d4 E)) rfl ?_
              rintro e w7 ⟨rfl, ex⟩
              refine ⟨_, rfl, ?_⟩
              replace E := E.ext ex
              replace B2 := B2.ext ex
              replace B3 := B3.ext ex
              replace Bg5 := Bg5.ext ex
              replace Bg6 := Bg6.ext ex
              skip
              refine wl_y (y_pickt rfl rfl) rfl ?_
              refine wl_yask (y_move rfl) rfl (fun t4 => ?_) (fun t4 => ?_)
              · skip
                refine wl_gy 59 rfl rfl (y_fieldAddr (o := 5) (s := 1) (off := 0) (o' := 5) rfl Tryz.underlying25 rfl (by kernel_rfl) rfl rfl) rfl ?_
                refine wl_gy 59 rfl rfl (y_load1 rfl Tryz.underlying22 rfl (Bg5.get (i := 5) rfl)) rfl ?_
                refine wl_gy 59 rfl rfl (y_fieldAddr (o := 5) (s := 1) (off := 0) (o' := 5) rfl Tryz.underlying25 rfl (by kernel_rfl) rfl rfl) rfl ?_
                refine wl_gy 59 rfl rfl (y_load1 rfl Tryz.underlying22 rfl (Bg6.get (i := 5) rfl)) rfl ?_
                refine wl_gcall 59 rfl rfl Tryz.func141 rfl rfl rfl (bytesEqual_any _ _ _ _ _ _ _ _ _ (Bs.ext b5 E) (Bs.ext d5 E)) rfl ?_
                rintro e w8 ⟨rfl, ex⟩
                refine ⟨_, rfl, ?_⟩
                replace E := E.ext ex
                replace B2 := B2.ext ex
                replace B3 := B3.ext ex
                replace Bg5 := Bg5.ext ex
                replace Bg6 := Bg6.ext ex
                skip
                refine wl_y (y_pickt rfl rfl) rfl ?_
                refine wl_yask (y_move rfl) rfl (fun t5 => ?_) (fun t5 => ?_)
                · skip
                  refine wl_gy 66 rfl rfl (y_fieldAddr (o := 7) (s := 3) (off := 0) (o' := 7) rfl Tryz.underlying113 rfl (by kernel_rfl) rfl rfl) rfl ?_
                  refine wl_gy 66 rfl rfl (y_fieldAddr (o := 0) (s := 1) (off := 7) (o' := 7) rfl Tryz.underlying111 rfl (by kernel_rfl) rfl rfl) rfl ?_
                  refine wl_gy 66 rfl rfl (y_load1 rfl Tryz.underlying22 rfl (B2.get (i := 7) rfl)) rfl ?_
                  refine wl_gy 66 rfl rfl (y_fieldAddr (o := 7) (s := 3) (off := 0) (o' := 7) rfl Tryz.underlying113 rfl (by kernel_rfl) rfl rfl) rfl ?_
                  refine wl_gy 66 rfl rfl (y_fieldAddr (o := 0) (s := 1) (off := 7) (o' := 7) rfl Tryz.underlying111 rfl (by kernel_rfl) rfl rfl) rfl ?_
                  refine wl_gy 66 rfl rfl (y_load1 rfl Tryz.underlying22 rfl (B3.get (i := 7) rfl)) rfl ?_
                  refine wl_gcall 66 rfl rfl Tryz.func141 rfl rfl rfl (bytesEqual_any _ _ _ _ _ _ _ _ _ (Bs.ext q0' E) (Bs.ext s0 E)) rfl ?_
                  rintro e w9 ⟨rfl, ex⟩
                  refine ⟨_, rfl, ?_⟩
                  replace E := E.ext ex
                  replace B2 := B2.ext ex
                  replace B3 := B3.ext ex
                  replace Bg5 := Bg5.ext ex
                  replace Bg6 := Bg6.ext ex
                  skip
                  refine wl_y (y_pickt rfl rfl) rfl ?_
                  refine wl_yask (y_move rfl) rfl (fun t6 => ?_) (fun t6 => ?_)
                  · skip
                    refine wl_gy 75 rfl rfl (y_fieldAddr (o := 7) (s := 3) (off := 0) (o' := 7) rfl Tryz.underlying113 rfl (by kernel_rfl) rfl rfl) rfl ?_
                    refine wl_gy 75 rfl rfl (y_fieldAddr (o := 1) (s := 1) (off := 7) (o' := 8) rfl Tryz.underlying111 rfl (by kernel_rfl) rfl rfl) rfl ?_
                    refine wl_gy 75 rfl rfl (y_load1 rfl Tryz.underlying22 rfl (B2.get (i := 8) rfl)) rfl ?_
                    refine wl_gy 75 rfl rfl (y_fieldAddr (o := 7) (s := 3) (off := 0) (o' := 7) rfl Tryz.underlying113 rfl (by kernel_rfl) rfl rfl) rfl ?_
                    refine wl_gy 75 rfl rfl (y_fieldAddr (o := 1) (s := 1) (off := 7) (o' := 8) rfl Tryz.underlying111 rfl (by kernel_rfl) rfl rfl) rfl ?_
                    refine wl_gy 75 rfl rfl (y_load1 rfl Tryz.underlying22 rfl (B3.get (i := 8) rfl)) rfl ?_
                    refine wl_gcall 75 rfl rfl Tryz.func141 rfl rfl rfl (bytesEqual_any _ _ _ _ _ _ _ _ _ (Bs.ext q1' E) (Bs.ext s1 E)) rfl ?_
                    rintro e w10 ⟨rfl, ex⟩
                    refine ⟨_, rfl, ?_⟩
                    replace E := E.ext ex
                    replace B2 := B2.ext ex
                    replace B3 := B3.ext ex
                    replace Bg5 := Bg5.ext ex
                    replace Bg6 := Bg6.ext ex
                    skip
                    refine wl_y (y_pickt rfl rfl) rfl ?_
                    refine wl_y (y_assign rfl) rfl ?_
                    refine wl_nil ?_
                    refine wq_then_norm (hK8 ?_)
                    refine wc_ret ?_
                    refine hret rfl ?_
                    exact ⟨ret_bool ⟨fun h => node_eq.2 ⟨by omega, leaf_eq.2 ⟨t0, t1, t2, by omega, t4, t5⟩, t6, h, q2⟩, fun h => by rw [h]⟩, E⟩
                  · skip
                    refine wl_gno 75 rfl rfl rfl rfl ?_
                    refine wl_gno 75 rfl rfl rfl rfl ?_
                    refine wl_gno 75 rfl rfl rfl rfl ?_
                    refine wl_gno 75 rfl rfl rfl rfl ?_
                    refine wl_gno 75 rfl rfl rfl rfl ?_
                    refine wl_gno 75 rfl rfl rfl rfl ?_
                    refine wl_gno 75 rfl rfl rfl rfl ?_
                    refine wl_y (y_pickf rfl rfl) rfl ?_
                    refine wl_y (y_assign rfl) rfl ?_
                    refine wl_nil ?_
                    refine wq_then_norm (hK8 ?_)
                    refine wc_ret ?_
                    refine hret rfl ?_
                    exact ⟨ret_no fun h => t6 (by rw [h]), E⟩
                · skip
                  refine wl_gno 66 rfl rfl rfl rfl ?_
                  refine wl_gno 66 rfl rfl rfl rfl ?_
                  refine wl_gno 66 rfl rfl rfl rfl ?_
                  refine wl_gno 66 rfl rfl rfl rfl ?_
                  refine wl_gno 66 rfl rfl rfl rfl ?_
                  refine wl_gno 66 rfl rfl rfl rfl ?_
                  refine wl_gno 66 rfl rfl rfl rfl ?_
                  refine wl_y (y_pickf rfl rfl) rfl ?_
                  refine wl_y (y_move rfl) rfl ?_
                  refine wl_gno 75 rfl rfl rfl rfl ?_
                  refine wl_gno 75 rfl rfl rfl rfl ?_
                  refine wl_gno 75 rfl rfl rfl rfl ?_
                  refine wl_gno 75 rfl rfl rfl rfl ?_
                  refine wl_gno 75 rfl rfl rfl rfl ?_
                  refine wl_gno 75 rfl rfl rfl rfl ?_
                  refine wl_gno 75 rfl rfl rfl rfl ?_
                  refine wl_y (y_pickf rfl rfl) rfl ?_
                  refine wl_y (y_assign rfl) rfl ?_
                  refine wl_nil ?_
                  refine wq_then_norm (hK8 ?_)
                  refine wc_ret ?_
                  refine hret rfl ?_
                  exact ⟨ret_no fun h => t5 (by rw [h]), E⟩
              · skip
                refine wl_gno 59 rfl rfl rfl rfl ?_
                refine wl_gno 59 rfl rfl rfl rfl ?_
                refine wl_gno 59 rfl rfl rfl rfl ?_
                refine wl_gno 59 rfl rfl rfl rfl ?_
                refine wl_gno 59 rfl rfl rfl rfl ?_
                refine wl_y (y_pickf rfl rfl) rfl ?_
                refine wl_y (y_move rfl) rfl ?_
                refine wl_gno 66 rfl rfl rfl rfl ?_
                refine wl_gno 66 rfl rfl rfl rfl ?_
                refine wl_gno 66 rfl rfl rfl rfl ?_
                refine wl_gno 66 rfl rfl rfl rfl ?_
                refine wl_gno 66 rfl rfl rfl rfl ?_
                refine wl_gno 66 rfl rfl rfl rfl ?_
                refine wl_gno 66 rfl rfl rfl rfl ?_
                refine wl_y (y_pickf rfl rfl) rfl ?_
                refine wl_y (y_move rfl) rfl ?_
                refine wl_gno 75 rfl rfl rfl rfl ?_
                refine wl_gno 75 rfl rfl rfl rfl ?_
                refine wl_gno 75 rfl rfl rfl rfl ?_
                refine wl_gno 75 rfl rfl rfl rfl ?_
                refine wl_gno 75 rfl rfl rfl rfl ?_
                refine wl_gno 75 rfl rfl rfl rfl ?_
                refine wl_gno 75 rfl rfl rfl rfl ?_
                refine wl_y (y_pickf rfl rfl) rfl ?_
                refine wl_y (y_assign rfl) rfl ?_
                refine wl_nil ?_
                refine wq_then_norm (hK8 ?_)
                refine wc_ret ?_
                refine hret rfl ?_
                exact ⟨ret_no fun h => t4 (by rw [h]), E⟩
            · skip
              refine wl_gno 52 rfl rfl rfl rfl ?_
              refine wl_gno 52 rfl rfl rfl rfl ?_
              refine wl_gno 52 rfl rfl rfl rfl ?_
              refine wl_gno 52 rfl rfl rfl rfl ?_
              refine wl_gno 52 rfl rfl rfl rfl ?_
              refine wl_y (y_pickf rfl rfl) rfl ?_
              refine wl_y (y_move rfl) rfl ?_
              refine wl_gno 59 rfl rfl rfl rfl ?_
              refine wl_gno 59 rfl rfl rfl rfl ?_
              refine wl_gno 59 rfl rfl rfl rfl ?_
              refine wl_gno 59 rfl rfl rfl rfl ?_
              refine wl_gno 59 rfl rfl rfl rfl ?_
              refine wl_y (y_pickf rfl rfl) rfl ?_
              refine wl_y (y_move rfl) rfl ?_
              refine wl_gno 66 rfl rfl rfl rfl ?_
              refine wl_gno 66 rfl rfl rfl rfl ?_
              refine wl_gno 66 rfl rfl rfl rfl ?_
              refine wl_gno 66 rfl rfl rfl rfl ?_
              refine wl_gno 66 rfl rfl rfl rfl ?_
              refine wl_gno 66 rfl rfl rfl rfl ?_
              refine wl_gno 66 rfl rfl rfl rfl ?_
              refine wl_y (y_pickf rfl rfl) rfl ?_
              refine wl_y (y_move rfl) rfl ?_
              refine wl_gno 75 rfl rfl rfl rfl ?_
              refine wl_gno 75 rfl rfl rfl rfl ?_
              refine wl_gno 75 rfl rfl rfl rfl ?_
              refine wl_gno 75 rfl rfl rfl rfl ?_
              refine wl_gno 75 rfl rfl rfl rfl ?_
              refine wl_gno 75 rfl rfl rfl rfl ?_
              refine wl_gno 75 rfl rfl rfl rfl ?_
              refine wl_y (y_pickf rfl rfl) rfl ?_
              refine wl_y (y_assign rfl) rfl ?_
              refine wl_nil ?_
              refine wq_then_norm (hK8 ?_)
              refine wc_ret ?_
              refine hret rfl ?_
              exact ⟨ret_no fun h => t2 (by rw [h]), E⟩
          · skip
            refine wl_gno 45 rfl rfl rfl rfl ?_
            refine wl_gno 45 rfl rfl rfl rfl ?_
            refine wl_gno 45 rfl rfl rfl rfl ?_
            refine wl_gno 45 rfl rfl rfl rfl ?_
            refine wl_gno 45 rfl rfl rfl rfl ?_
            refine wl_y (y_pickf rfl rfl) rfl ?_
            refine wl_y (y_move rfl) rfl ?_
            refine wl_gno 52 rfl rfl rfl rfl ?_
            refine wl_gno 52 rfl rfl rfl rfl ?_
            refine wl_gno 52 rfl rfl rfl rfl ?_
            refine wl_gno 52 rfl rfl rfl rfl ?_
            refine wl_gno 52 rfl rfl rfl rfl ?_
            refine wl_y (y_pickf rfl rfl) rfl ?_
            refine wl_y (y_move rfl) rfl ?_
            refine wl_gno 59 rfl rfl rfl rfl ?_
            refine wl_gno 59 rfl rfl rfl rfl ?_
            refine wl_gno 59 rfl rfl rfl rfl ?_
            refine wl_gno 59 rfl rfl rfl rfl ?_
            refine wl_gno 59 rfl rfl rfl rfl ?_
            refine wl_y (y_pickf rfl rfl) rfl ?_
            refine wl_y (y_move rfl) rfl ?_
            refine wl_gno 66 rfl rfl rfl rfl ?_
            refine wl_gno 66 rfl rfl rfl rfl ?_
            refine wl_gno 66 rfl rfl rfl rfl ?_
            refine wl_gno 66 rfl rfl rfl rfl ?_
            refine wl_gno 66 rfl rfl rfl rfl ?_
            refine wl_gno 66 rfl rfl rfl rfl ?_
            refine wl_gno 66 rfl rfl rfl rfl ?_
            refine wl_y (y_pickf rfl rfl) rfl ?_
            refine wl_y (y_move rfl) rfl ?_
            refine wl_gno 75 rfl rfl rfl rfl ?_
            refine wl_gno 75 rfl rfl rfl rfl ?_
            refine wl_gno 75 rfl rfl rfl rfl ?_
            refine wl_gno 75 rfl rfl rfl rfl ?_
            refine wl_gno 75 rfl rfl rfl rfl ?_
            refine wl_gno 75 rfl rfl rfl rfl ?_
            refine wl_gno 75 rfl rfl rfl rfl ?_
            refine wl_y (y_pickf rfl rfl) rfl ?_
            refine wl_y (y_assign rfl) rfl ?_
            refine wl_nil ?_
            refine wq_then_norm (hK8 ?_)
            refine wc_ret ?_
            refine hret rfl ?_
            exact ⟨ret_no fun h => t1 (by rw [h]), E⟩
        · skip
          refine wl_gno 38 rfl rfl rfl rfl ?_
          refine wl_gno 38 rfl rfl rfl rfl ?_
          refine wl_gno 38 rfl rfl rfl rfl ?_
          refine wl_gno 38 rfl rfl rfl rfl ?_
          refine wl_gno 38 rfl rfl rfl rfl ?_
          refine wl_y (y_pickf rfl rfl) rfl ?_
          refine wl_y (y_move rfl) rfl ?_
          refine wl_gno 45 rfl rfl rfl rfl ?_
          refine wl_gno 45 rfl rfl rfl rfl ?_
          refine wl_gno 45 rfl rfl rfl rfl ?_
          refine wl_gno 45 rfl rfl rfl rfl ?_
          refine wl_gno 45 rfl rfl rfl rfl ?_
          refine wl_y (y_pickf rfl rfl) rfl ?_
          refine wl_y (y_move rfl) rfl ?_
          refine wl_gno 52 rfl rfl rfl rfl ?_
          refine wl_gno 52 rfl rfl rfl rfl ?_
          refine wl_gno 52 rfl rfl rfl rfl ?_
          refine wl_gno 52 rfl rfl rfl rfl ?_
          refine wl_gno 52 rfl rfl rfl rfl ?_
          refine wl_y (y_pickf rfl rfl) rfl ?_
          refine wl_y (y_move rfl) rfl ?_
          refine wl_gno 59 rfl rfl rfl rfl ?_
          refine wl_gno 59 rfl rfl rfl rfl ?_
          refine wl_gno 59 rfl rfl rfl rfl ?_
          refine wl_gno 59 rfl rfl rfl rfl ?_
          refine wl_gno 59 rfl rfl rfl rfl ?_
          refine wl_y (y_pickf rfl rfl) rfl ?_
          refine wl_y (y_move rfl) rfl ?_
          refine wl_gno 66 rfl rfl rfl rfl ?_
          refine wl_gno 66 rfl rfl rfl rfl ?_
          refine wl_gno 66 rfl rfl rfl rfl ?_
          refine wl_gno 66 rfl rfl rfl rfl ?_
          refine wl_gno 66 rfl rfl rfl rfl ?_
          refine wl_gno 66 rfl rfl rfl rfl ?_
          refine wl_gno 66 rfl rfl rfl rfl ?_
          refine wl_y (y_pickf rfl rfl) rfl ?_
          refine wl_y (y_move rfl) rfl ?_
          refine wl_gno 75 rfl rfl rfl rfl ?_
          refine wl_gno 75 rfl rfl rfl rfl ?_
          refine wl_gno 75 rfl rfl rfl rfl ?_
          refine wl_gno 75 rfl rfl rfl rfl ?_
          refine wl_gno 75 rfl rfl rfl rfl ?_
          refine wl_gno 75 rfl rfl rfl rfl ?_
          refine wl_gno 75 rfl rfl rfl rfl ?_
          refine wl_y (y_pickf rfl rfl) rfl ?_
          refine wl_y (y_assign rfl) rfl ?_
          refine wl_nil ?_
          refine wq_then_norm (hK8 ?_)
          refine wc_ret ?_
          refine hret rfl ?_
          exact ⟨ret_no fun h => t0 (by rw [h]), E⟩
theorem rrightLeaf_any {cs : Array Value} {l : Leaf} (w : World) (H : LeafAt w cs l) :
    Calls Tryz.prog 128 #[.agg cs] w fun e w' => e = .returned (.bool (decide (okLeaf l))) ∧ Ext w w' := by
  obtain ⟨h0, h1, h2, h4, h5, rfl, hs, b0, b1, b2, b4, b5⟩ := H
  have l0 := b0.1; have l1 := b1.1; have l2 := b2.1; have l4 := b4.1; have l5 := b5.1
  have E := Ext.refl w
  refine vc_enter1 60 Tryz.func128 rfl rfl rfl rfl ?_
  intro Q hret
  refine wc_seq ?_; intro K1 hK1
  refine wc_region ?_
  refine wl_ef (ef_box rfl rfl) rfl ?_
  rintro _ wB1 ⟨gB1, rfl, B1, hgB1, ex⟩
  have lB1 := B1.lt; have zB1 := ex.size
  replace E := E.ext ex
  refine wl_y (y_assign rfl) rfl ?_
  refine wl_nil ?_
  refine wq_then_norm (hK1 ?_)
  refine wc_seq ?_; intro K2 hK2
  refine wc_region ?_
  refine wl_y (y_fieldAddr (o := 4) (s := 1) (off := 0) (o' := 4) rfl Tryz.underlying25 rfl (by kernel_rfl) rfl rfl) rfl ?_
  refine wl_y (y_load1 rfl Tryz.underlying22 rfl (B1.get (i := 4) rfl)) rfl ?_
  refine wl_y (y_len_slice rfl Tryz.underlying22) rfl ?_
  refine wl_yask (y_eql rfl rfl) rfl (fun q0 => ?_) (fun q0 => ?_)
  · skip
    refine wl_y (y_move rfl) rfl ?_
    refine wl_gno 8 rfl rfl rfl rfl ?_
    refine wl_gno 8 rfl rfl rfl rfl ?_
    refine wl_gno 8 rfl rfl rfl rfl ?_
    refine wl_gno 8 rfl rfl rfl rfl ?_
    refine wl_gun 12 rfl rfl rfl ?_
    refine wl_gun 12 rfl rfl rfl ?_
    refine wl_gun 12 rfl rfl rfl ?_
    refine wl_gun 12 rfl rfl rfl ?_
    refine wl_gno 8 rfl rfl rfl rfl ?_
    refine wl_y (y_pickt rfl rfl) rfl ?_
    refine wl_y (y_assign rfl) rfl ?_
    refine wl_nil ?_
    refine wq_then_norm (hK2 ?_)
    refine wc_seq ?_; intro K3 hK3
    refine wc_region ?_
    refine wl_y (y_fieldAddr (o := 0) (s := 1) (off := 0) (o' := 0) rfl Tryz.underlying25 rfl (by kernel_rfl) rfl rfl) rfl ?_
    refine wl_y (y_load1 rfl Tryz.underlying22 rfl (B1.get (i := 0) rfl)) rfl ?_
    refine wl_y (y_len_slice rfl Tryz.underlying22) rfl ?_
    refine wl_yask (y_eql rfl rfl) rfl (fun u0 => ?_) (fun u0 => ?_)
    · skip
      refine wl_y (y_move rfl) rfl ?_
      refine wl_gy 23 rfl rfl (y_fieldAddr (o := 1) (s := 1) (off := 0) (o' := 1) rfl Tryz.underlying25 rfl (by kernel_rfl) rfl rfl) rfl ?_
      refine wl_gy 23 rfl rfl (y_load1 rfl Tryz.underlying22 rfl (B1.get (i := 1) rfl)) rfl ?_
      refine wl_gy 23 rfl rfl (y_len_slice rfl Tryz.underlying22) rfl ?_
      refine wl_gyask 23 rfl rfl (y_eql rfl rfl) rfl (fun u1 => ?_) (fun u1 => ?_)
      · skip
        refine wl_y (y_pickt rfl rfl) rfl ?_
        refine wl_y (y_move rfl) rfl ?_
        refine wl_gy 29 rfl rfl (y_fieldAddr (o := 2) (s := 1) (off := 0) (o' := 2) rfl Tryz.underlying25 rfl (by kernel_rfl) rfl rfl) rfl ?_
        refine wl_gy 29 rfl rfl (y_load1 rfl Tryz.underlying22 rfl (B1.get (i := 2) rfl)) rfl ?_
        refine wl_gy 29 rfl rfl (y_len_slice rfl Tryz.underlying22) rfl ?_
        refine wl_gyask 29 rfl rfl (y_gtr rfl rfl) rfl (fun u2 => ?_) (fun u2 => ?_)
        · skip
          refine wl_y (y_pickt rfl rfl) rfl ?_
          refine wl_y (y_move rfl) rfl ?_
          refine wl_gy 35 rfl rfl (y_fieldAddr (o := 2) (s := 1) (off := 0) (o' := 2) rfl Tryz.underlying25 rfl (by kernel_rfl) rfl rfl) rfl ?_
          refine wl_gy 35 rfl rfl (y_load1 rfl Tryz.underlying22 rfl (B1.get (i := 2) rfl)) rfl ?_
          refine wl_gy 35 rfl rfl (y_len_slice rfl Tryz.underlying22) rfl ?_
          refine wl_gyask 35 rfl rfl (y_leq rfl rfl) rfl (fun u3 => ?_) (fun u3 => ?_)
          · skip
            refine wl_y (y_pickt rfl rfl) rfl ?_
            refine wl_y (y_move rfl) rfl ?_
            refine wl_gy 41 rfl rfl (y_fieldAddr (o := 3) (s := 1) (off := 0) (o' := 3) rfl Tryz.underlying25 rfl (by kernel_rfl) rfl rfl) rfl ?_
            refine wl_gy 41 rfl rfl (y_load1 rfl Tryz.underlying5 rfl (B1.get (i := 3) rfl)) rfl ?_
            refine wl_gyask 41 rfl rfl (y_gtr rfl rfl) rfl (fun u4 => ?_) (fun u4 => ?_)
            · skip
              refine wl_y (y_pickt rfl rfl) rfl ?_
              refine wl_y (y_move rfl) rfl ?_
              refine wl_gy 46 rfl rfl (y_fieldAddr (o := 3) (s := 1) (off := 0) (o' := 3) rfl Tryz.underlying25 rfl (by kernel_rfl) rfl rfl) rfl ?_
              refine wl_gy 46 rfl rfl (y_load1 rfl Tryz.underlying5 rfl (B1.get (i := 3) rfl)) rfl ?_
              refine wl_gyask 46 rfl rfl (y_lss rfl rfl) rfl (fun u5 => ?_) (fun u5 => ?_)
              · skip
                refine wl_y (y_pickt rfl rfl) rfl ?_
                refine wl_y (y_move rfl) rfl ?_
                refine wl_gy 51 rfl rfl (y_move rfl) rfl ?_
                refine wl_y (y_pickt rfl rfl) rfl ?_
                refine wl_y (y_move rfl) rfl ?_
                refine wl_gy 54 rfl rfl (y_fieldAddr (o := 5) (s := 1) (off := 0) (o' := 5) rfl Tryz.underlying25 rfl (by kernel_rfl) rfl rfl) rfl ?_
                refine wl_gy 54 rfl rfl (y_load1 rfl Tryz.underlying22 rfl (B1.get (i := 5) rfl)) rfl ?_
                refine wl_gy 54 rfl rfl (y_len_slice rfl Tryz.underlying22) rfl ?_
                refine wl_gyask 54 rfl rfl (y_eql rfl rfl) rfl (fun u6 => ?_) (fun u6 => ?_)
                · skip
                  refine wl_y (y_pickt rfl rfl) rfl ?_
                  refine wl_y (y_assign rfl) rfl ?_
                  refine wl_nil ?_
                  refine wq_then_norm (hK3 ?_)
                  refine wc_ret ?_
                  refine hret rfl ?_
                  first | exact ⟨ret_yes (by unfold okLeaf; omega), E⟩ | exact ⟨ret_no fun h => by unfold okLeaf at h; omega, E⟩
                · skip
                  refine wl_y (y_pickt rfl rfl) rfl ?_
                  refine wl_y (y_assign rfl) rfl ?_
                  refine wl_nil ?_
                  refine wq_then_norm (hK3 ?_)
                  refine wc_ret ?_
                  refine hret rfl ?_
                  first | exact ⟨ret_yes (by unfold okLeaf; omega), E⟩ | exact ⟨ret_no fun h => by unfold okLeaf at h; omega, E⟩
              · skip
                refine wl_y (y_pickt rfl rfl) rfl ?_
                refine wl_y (y_move rfl) rfl ?_
                refine wl_gno 51 rfl rfl rfl rfl ?_
                refine wl_y (y_pickf rfl rfl) rfl ?_
                refine wl_y (y_move rfl) rfl ?_
                refine wl_gno 54 rfl rfl rfl rfl ?_
                refine wl_gno 54 rfl rfl rfl rfl ?_
                refine wl_gno 54 rfl rfl rfl rfl ?_
                refine wl_gno 54 rfl rfl rfl rfl ?_
                refine wl_y (y_pickf rfl rfl) rfl ?_
                refine wl_y (y_assign rfl) rfl ?_
                refine wl_nil ?_
                refine wq_then_norm (hK3 ?_)
                refine wc_ret ?_
                refine hret rfl ?_
                first | exact ⟨ret_yes (by unfold okLeaf; omega), E⟩ | exact ⟨ret_no fun h => by unfold okLeaf at h; omega, E⟩
            · skip
              refine wl_y (y_pickt rfl rfl) rfl ?_
              refine wl_y (y_move rfl) rfl ?_
              refine wl_gno 46 rfl rfl rfl rfl ?_
              refine wl_gno 46 rfl rfl rfl rfl ?_
              refine wl_gno 46 rfl rfl rfl rfl ?_
              refine wl_y (y_pickf rfl rfl) rfl ?_
              refine wl_y (y_move rfl) rfl ?_
              refine wl_gno 51 rfl rfl rfl rfl ?_
              refine wl_y (y_pickf rfl rfl) rfl ?_
              refine wl_y (y_move rfl) rfl ?_
              refine wl_gno 54 rfl rfl rfl rfl ?_
              refine wl_gno 54 rfl rfl rfl rfl ?_
              refine wl_gno 54 rfl rfl rfl rfl ?_
              refine wl_gno 54 rfl rfl rfl rfl ?_
              refine wl_y (y_pickf rfl rfl) rfl ?_
              refine wl_y (y_assign rfl) rfl ?_
              refine wl_nil ?_
              refine wq_then_norm (hK3 ?_)
              refine wc_ret ?_
              refine hret rfl ?_
              first | exact ⟨ret_yes (by unfold okLeaf; omega), E⟩ | exact ⟨ret_no fun h => by unfold okLeaf at h; omega, E⟩
          · skip
            refine wl_y (y_pickt rfl rfl) rfl ?_
            refine wl_y (y_move rfl) rfl ?_
            refine wl_gno 41 rfl rfl rfl rfl ?_
            refine wl_gno 41 rfl rfl rfl rfl ?_
            refine wl_gno 41 rfl rfl rfl rfl ?_
            refine wl_y (y_pickf rfl rfl) rfl ?_
            refine wl_y (y_move rfl) rfl ?_
            refine wl_gno 46 rfl rfl rfl rfl ?_
            refine wl_gno 46 rfl rfl rfl rfl ?_
            refine wl_gno 46 rfl rfl rfl rfl ?_
            refine wl_y (y_pickf rfl rfl) rfl ?_
            refine wl_y (y_move rfl) rfl ?_
            refine wl_gno 51 rfl rfl rfl rfl ?_
            refine wl_y (y_pickf rfl rfl) rfl ?_
            refine wl_y (y_move rfl) rfl ?_
            refine wl_gno 54 rfl rfl rfl rfl ?_
            refine wl_gno 54 rfl rfl rfl rfl ?_
            refine wl_gno 54 rfl rfl rfl rfl ?_
            refine wl_gno 54 rfl rfl rfl rfl ?_
            refine wl_y (y_pickf rfl rfl) rfl ?_
            refine wl_y (y_assign rfl) rfl ?_
            refine wl_nil ?_
            refine wq_then_norm (hK3 ?_)
            refine wc_ret ?_
            refine hret rfl ?_
            first | exact ⟨ret_yes (by unfold okLeaf; omega), E⟩ | exact ⟨ret_no fun h => by unfold okLeaf at h; omega, E⟩
        · skip
          refine wl_y (y_pickt rfl rfl) rfl ?_
          refine wl_y (y_move rfl) rfl ?_
          refine wl_gno 35 rfl rfl rfl rfl ?_
          refine wl_gno 35 rfl rfl rfl rfl ?_
          refine wl_gno 35 rfl rfl rfl rfl ?_
          refine wl_gno 35 rfl rfl rfl rfl ?_
          refine wl_y (y_pickf rfl rfl) rfl ?_
          refine wl_y (y_move rfl) rfl ?_
          refine wl_gno 41 rfl rfl rfl rfl ?_
          refine wl_gno 41 rfl rfl rfl rfl ?_
          refine wl_gno 41 rfl rfl rfl rfl ?_
          refine wl_y (y_pickf rfl rfl) rfl ?_
          refine wl_y (y_move rfl) rfl ?_
          refine wl_gno 46 rfl rfl rfl rfl ?_
          refine wl_gno 46 rfl rfl rfl rfl ?_
          refine wl_gno 46 rfl rfl rfl rfl ?_
          refine wl_y (y_pickf rfl rfl) rfl ?_
          refine wl_y (y_move rfl) rfl ?_
          refine wl_gno 51 rfl rfl rfl rfl ?_
          refine wl_y (y_pickf rfl rfl) rfl ?_
          refine wl_y (y_move rfl) rfl ?_
          refine wl_gno 54 rfl rfl rfl rfl ?_
          refine wl_gno 54 rfl rfl rfl rfl ?_
          refine wl_gno 54 rfl rfl rfl rfl ?_
          refine wl_gno 54 rfl rfl rfl rfl ?_
          refine wl_y (y_pickf rfl rfl) rfl ?_
          refine wl_y (y_assign rfl) rfl ?_
          refine wl_nil ?_
          refine wq_then_norm (hK3 ?_)
          refine wc_ret ?_
          refine hret rfl ?_
          first | exact ⟨ret_yes (by unfold okLeaf; omega), E⟩ | exact ⟨ret_no fun h => by unfold okLeaf at h; omega, E⟩
      · skip
        refine wl_y (y_pickt rfl rfl) rfl ?_
        refine wl_y (y_move rfl) rfl ?_
        refine wl_gno 29 rfl rfl rfl rfl ?_
        refine wl_gno 29 rfl rfl rfl rfl ?_
        refine wl_gno 29 rfl rfl rfl rfl ?_
        refine wl_gno 29 rfl rfl rfl rfl ?_
        refine wl_y (y_pickf rfl rfl) rfl ?_
        refine wl_y (y_move rfl) rfl ?_
        refine wl_gno 35 rfl rfl rfl rfl ?_
        refine wl_gno 35 rfl rfl rfl rfl ?_
        refine wl_gno 35 rfl rfl rfl rfl ?_
        refine wl_gno 35 rfl rfl rfl rfl ?_
        refine wl_y (y_pickf rfl rfl) rfl ?_
        refine wl_y (y_move rfl) rfl ?_
        refine wl_gno 41 rfl rfl rfl rfl ?_
        refine wl_gno 41 rfl rfl rfl rfl ?_
        refine wl_gno 41 rfl rfl rfl rfl ?_
        refine wl_y (y_pickf rfl rfl) rfl ?_
        refine wl_y (y_move rfl) rfl ?_
        refine wl_gno 46 rfl rfl rfl rfl ?_
        refine wl_gno 46 rfl rfl rfl rfl ?_
        refine wl_gno 46 rfl rfl rfl rfl ?_
        refine wl_y (y_pickf rfl rfl) rfl ?_
        refine wl_y (y_move rfl) rfl ?_
        refine wl_gno 51 rfl rfl rfl rfl ?_
        refine wl_y (y_pickf rfl rfl) rfl ?_
        refine wl_y (y_move rfl) rfl ?_
        refine wl_gno 54 rfl rfl rfl rfl ?_
        refine wl_gno 54 rfl rfl rfl rfl ?_
        refine wl_gno 54 rfl rfl rfl rfl ?_
        refine wl_gno 54 rfl rfl rfl rfl ?_
        refine wl_y (y_pickf rfl rfl) rfl ?_
        refine wl_y (y_assign rfl) rfl ?_
        refine wl_nil ?_
        refine wq_then_norm (hK3 ?_)
        refine wc_ret ?_
        refine hret rfl ?_
        first | exact ⟨ret_yes (by unfold okLeaf; omega), E⟩ | exact ⟨ret_no fun h => by unfold okLeaf at h; omega, E⟩
    · skip
      refine wl_y (y_move rfl) rfl ?_
      refine wl_gno 23 rfl rfl rfl rfl ?_
      refine wl_gno 23 rfl rfl rfl rfl ?_
      refine wl_gno 23 rfl rfl rfl rfl ?_
      refine wl_gno 23 rfl rfl rfl rfl ?_
      refine wl_y (y_pickf rfl rfl) rfl ?_
      refine wl_y (y_move rfl) rfl ?_
      refine wl_gno 29 rfl rfl rfl rfl ?_
      refine wl_gno 29 rfl rfl rfl rfl ?_
      refine wl_gno 29 rfl rfl rfl rfl ?_
      refine wl_gno 29 rfl rfl rfl rfl ?_
      refine wl_y (y_pickf rfl rfl) rfl ?_
      refine wl_y (y_move rfl) rfl ?_
      refine wl_gno 35 rfl rfl rfl rfl ?_
      refine wl_gno 35 rfl rfl rfl rfl ?_
      refine wl_gno 35 rfl rfl rfl rfl ?_
      refine wl_gno 35 rfl rfl rfl rfl ?_
      refine wl_y (y_pickf rfl rfl) rfl ?_
      refine wl_y (y_move rfl) rfl ?_
      refine wl_gno 41 rfl rfl rfl rfl ?_
      refine wl_gno 41 rfl rfl rfl rfl ?_
      refine wl_gno 41 rfl rfl rfl rfl ?_
      refine wl_y (y_pickf rfl rfl) rfl ?_
      refine wl_y (y_move rfl) rfl ?_
      refine wl_gno 46 rfl rfl rfl rfl ?_
      refine wl_gno 46 rfl rfl rfl rfl ?_
      refine wl_gno 46 rfl rfl rfl rfl ?_
      refine wl_y (y_pickf rfl rfl) rfl ?_
      refine wl_y (y_move rfl) rfl ?_
      refine wl_gno 51 rfl rfl rfl rfl ?_
      refine wl_y (y_pickf rfl rfl) rfl ?_
      refine wl_y (y_move rfl) rfl ?_
      refine wl_gno 54 rfl rfl rfl rfl ?_
      refine wl_gno 54 rfl rfl rfl rfl ?_
      refine wl_gno 54 rfl rfl rfl rfl ?_
      refine wl_gno 54 rfl rfl rfl rfl ?_
      refine wl_y (y_pickf rfl rfl) rfl ?_
      refine wl_y (y_assign rfl) rfl ?_
      refine wl_nil ?_
      refine wq_then_norm (hK3 ?_)
      refine wc_ret ?_
      refine hret rfl ?_
      first | exact ⟨ret_yes (by unfold okLeaf; omega), E⟩ | exact ⟨ret_no fun h => by unfold okLeaf at h; omega, E⟩
  · skip
    refine wl_y (y_move rfl) rfl ?_
    refine wl_gy 8 rfl rfl (y_fieldAddr (o := 3) (s := 1) (off := 0) (o' := 3) rfl Tryz.underlying25 rfl (by kernel_rfl) rfl rfl) rfl ?_
    refine wl_gy 8 rfl rfl (y_load1 rfl Tryz.underlying5 rfl (B1.get (i := 3) rfl)) rfl ?_
    refine wl_gyask 8 rfl rfl (y_eql rfl rfl) rfl (fun q1 => ?_) (fun q1 => ?_)
    · skip
      refine wl_gy 8 rfl rfl (y_move rfl) rfl ?_
      refine wl_gy 12 rfl rfl (y_fieldAddr (o := 4) (s := 1) (off := 0) (o' := 4) rfl Tryz.underlying25 rfl (by kernel_rfl) rfl rfl) rfl ?_
      refine wl_gy 12 rfl rfl (y_load1 rfl Tryz.underlying22 rfl (B1.get (i := 4) rfl)) rfl ?_
      refine wl_gy 12 rfl rfl (y_len_slice rfl Tryz.underlying22) rfl ?_
      refine wl_gyask 12 rfl rfl (y_eql rfl rfl) rfl (fun q2 => ?_) (fun q2 => ?_)
      · skip
        refine wl_gy 8 rfl rfl (y_pickt rfl rfl) rfl ?_
        refine wl_y (y_pickf rfl rfl) rfl ?_
        refine wl_y (y_assign rfl) rfl ?_
        refine wl_nil ?_
        refine wq_then_norm (hK2 ?_)
        refine wc_seq ?_; intro K4 hK4
        refine wc_region ?_
        refine wl_y (y_fieldAddr (o := 0) (s := 1) (off := 0) (o' := 0) rfl Tryz.underlying25 rfl (by kernel_rfl) rfl rfl) rfl ?_
        refine wl_y (y_load1 rfl Tryz.underlying22 rfl (B1.get (i := 0) rfl)) rfl ?_
        refine wl_y (y_len_slice rfl Tryz.underlying22) rfl ?_
        refine wl_yask (y_eql rfl rfl) rfl (fun u0 => ?_) (fun u0 => ?_)
        · skip
          refine wl_y (y_move rfl) rfl ?_
          refine wl_gy 23 rfl rfl (y_fieldAddr (o := 1) (s := 1) (off := 0) (o' := 1) rfl Tryz.underlying25 rfl (by kernel_rfl) rfl rfl) rfl ?_
          refine wl_gy 23 rfl rfl (y_load1 rfl Tryz.underlying22 rfl (B1.get (i := 1) rfl)) rfl ?_
          refine wl_gy 23 rfl rfl (y_len_slice rfl Tryz.underlying22) rfl ?_
          refine wl_gyask 23 rfl rfl (y_eql rfl rfl) rfl (fun u1 => ?_) (fun u1 => ?_)
          · skip
            refine wl_y (y_pickt rfl rfl) rfl ?_
            refine wl_y (y_move rfl) rfl ?_
            refine wl_gy 29 rfl rfl (y_fieldAddr (o := 2) (s := 1) (off := 0) (o' := 2) rfl Tryz.underlying25 rfl (by kernel_rfl) rfl rfl) rfl ?_
            refine wl_gy 29 rfl rfl (y_load1 rfl Tryz.underlying22 rfl (B1.get (i := 2) rfl)) rfl ?_
            refine wl_gy 29 rfl rfl (y_len_slice rfl Tryz.underlying22) rfl ?_
            refine wl_gyask 29 rfl rfl (y_gtr rfl rfl) rfl (fun u2 => ?_) (fun u2 => ?_)
            · skip
              refine wl_y (y_pickt rfl rfl) rfl ?_
              refine wl_y (y_move rfl) rfl ?_
              refine wl_gy 35 rfl rfl (y_fieldAddr (o := 2) (s := 1) (off := 0) (o' := 2) rfl Tryz.underlying25 rfl (by kernel_rfl) rfl rfl) rfl ?_
              refine wl_gy 35 rfl rfl (y_load1 rfl Tryz.underlying22 rfl (B1.get (i := 2) rfl)) rfl ?_
              refine wl_gy 35 rfl rfl (y_len_slice rfl Tryz.underlying22) rfl ?_
              refine wl_gyask 35 rfl rfl (y_leq rfl rfl) rfl (fun u3 => ?_) (fun u3 => ?_)
              · skip
                refine wl_y (y_pickt rfl rfl) rfl ?_
                refine wl_y (y_move rfl) rfl ?_
                refine wl_gy 41 rfl rfl (y_fieldAddr (o := 3) (s := 1) (off := 0) (o' := 3) rfl Tryz.underlying25 rfl (by kernel_rfl) rfl rfl) rfl ?_
                refine wl_gy 41 rfl rfl (y_load1 rfl Tryz.underlying5 rfl (B1.get (i := 3) rfl)) rfl ?_
                refine wl_gyask 41 rfl rfl (y_gtr rfl rfl) rfl (fun u4 => ?_) (fun u4 => ?_)
                · skip
                  refine wl_y (y_pickt rfl rfl) rfl ?_
                  refine wl_y (y_move rfl) rfl ?_
                  refine wl_gy 46 rfl rfl (y_fieldAddr (o := 3) (s := 1) (off := 0) (o' := 3) rfl Tryz.underlying25 rfl (by kernel_rfl) rfl rfl) rfl ?_
                  refine wl_gy 46 rfl rfl (y_load1 rfl Tryz.underlying5 rfl (B1.get (i := 3) rfl)) rfl ?_
                  refine wl_gyask 46 rfl rfl (y_lss rfl rfl) rfl (fun u5 => ?_) (fun u5 => ?_)
                  · skip
                    refine wl_y (y_pickt rfl rfl) rfl ?_
                    refine wl_y (y_move rfl) rfl ?_
                    refine wl_gy 51 rfl rfl (y_move rfl) rfl ?_
                    refine wl_y (y_pickt rfl rfl) rfl ?_
                    refine wl_y (y_move rfl) rfl ?_
                    refine wl_gy 54 rfl rfl (y_fieldAddr (o := 5) (s := 1) (off := 0) (o' := 5) rfl Tryz.underlying25 rfl (by kernel_rfl) rfl rfl) rfl ?_
                    refine wl_gy 54 rfl rfl (y_load1 rfl Tryz.underlying22 rfl (B1.get (i := 5) rfl)) rfl ?_
                    refine wl_gy 54 rfl rfl (y_len_slice rfl Tryz.underlying22) rfl ?_
                    refine wl_gyask 54 rfl rfl (y_eql rfl rfl) rfl (fun u6 => ?_) (fun u6 => ?_)
                    · skip
                      refine wl_y (y_pickt rfl rfl) rfl ?_
                      refine wl_y (y_assign rfl) rfl ?_
                      refine wl_nil ?_
                      refine wq_then_norm (hK4 ?_)
                      refine wc_ret ?_
                      refine hret rfl ?_
                      first | exact ⟨ret_yes (by unfold okLeaf; omega), E⟩ | exact ⟨ret_no fun h => by unfold okLeaf at h; omega, E⟩
                    · skip
                      refine wl_y (y_pickt rfl rfl) rfl ?_
                      refine wl_y (y_assign rfl) rfl ?_
                      refine wl_nil ?_
                      refine wq_then_norm (hK4 ?_)
                      refine wc_ret ?_
                      refine hret rfl ?_
                      first | exact ⟨ret_yes (by unfold okLeaf; omega), E⟩ | exact ⟨ret_no fun h => by unfold okLeaf at h; omega, E⟩
                  · skip
                    refine wl_y (y_pickt rfl rfl) rfl ?_
                    refine wl_y (y_move rfl) rfl ?_
                    refine wl_gno 51 rfl rfl rfl rfl ?_
                    refine wl_y (y_pickf rfl rfl) rfl ?_
                    refine wl_y (y_move rfl) rfl ?_
                    refine wl_gno 54 rfl rfl rfl rfl ?_
                    refine wl_gno 54 rfl rfl rfl rfl ?_
                    refine wl_gno 54 rfl rfl rfl rfl ?_
                    refine wl_gno 54 rfl rfl rfl rfl ?_
                    refine wl_y (y_pickf rfl rfl) rfl ?_
                    refine wl_y (y_assign rfl) rfl ?_
                    refine wl_nil ?_
                    refine wq_then_norm (hK4 ?_)
                    refine wc_ret ?_
                    refine hret rfl ?_
                    first | exact ⟨ret_yes (by unfold okLeaf; omega), E⟩ | exact ⟨ret_no fun h => by unfold okLeaf at h; omega, E⟩
                · skip
                  refine wl_y (y_pickt rfl rfl) rfl ?_
                  refine wl_y (y_move rfl) rfl ?_
                  refine wl_gno 46 rfl rfl rfl rfl ?_
                  refine wl_gno 46 rfl rfl rfl rfl ?_
                  refine wl_gno 46 rfl rfl rfl rfl ?_
                  refine wl_y (y_pickf rfl rfl) rfl ?_
                  refine wl_y (y_move rfl) rfl ?_
                  refine wl_gno 51 rfl rfl rfl rfl ?_
                  refine wl_y (y_pickf rfl rfl) rfl ?_
                  refine wl_y (y_move rfl) rfl ?_
                  refine wl_gno 54 rfl rfl rfl rfl ?_
                  refine wl_gno 54 rfl rfl rfl rfl ?_
                  refine wl_gno 54 rfl rfl rfl rfl ?_
                  refine wl_gno 54 rfl rfl rfl rfl ?_
                  refine wl_y (y_pickf rfl rfl) rfl ?_
                  refine wl_y (y_assign rfl) rfl ?_
                  refine wl_nil ?_
                  refine wq_then_norm (hK4 ?_)
                  refine wc_ret ?_
                  refine hret rfl ?_
                  first | exact ⟨ret_yes (by unfold okLeaf; omega), E⟩ | exact ⟨ret_no fun h => by unfold okLeaf at h; omega, E⟩
              · skip
                refine wl_y (y_pickt rfl rfl) rfl ?_
                refine wl_y (y_move rfl) rfl ?_
                refine wl_gno 41 rfl rfl rfl rfl ?_
                refine wl_gno 41 rfl rfl rfl rfl ?_
                refine wl_gno 41 rfl rfl rfl rfl ?_
                refine wl_y (y_pickf rfl rfl) rfl ?_
                refine wl_y (y_move rfl) rfl ?_
                refine wl_gno 46 rfl rfl rfl rfl ?_
                refine wl_gno 46 rfl rfl rfl rfl ?_
                refine wl_gno 46 rfl rfl rfl rfl ?_
                refine wl_y (y_pickf rfl rfl) rfl ?_
                refine wl_y (y_move rfl) rfl ?_
                refine wl_gno 51 rfl rfl rfl rfl ?_
                refine wl_y (y_pickf rfl rfl) rfl ?_
                refine wl_y (y_move rfl) rfl ?_
                refine wl_gno 54 rfl rfl rfl rfl ?_
                refine wl_gno 54 rfl rfl rfl rfl ?_
                refine wl_gno 54 rfl rfl rfl rfl ?_
                refine wl_gno 54 rfl rfl rfl rfl ?_
                refine wl_y (y_pickf rfl rfl) rfl ?_
                refine wl_y (y_assign rfl) rfl ?_
                refine wl_nil ?_
                refine wq_then_norm (hK4 ?_)
                refine wc_ret ?_
                refine hret rfl ?_
                first | exact ⟨ret_yes (by unfold okLeaf; omega), E⟩ | exact ⟨ret_no fun h => by unfold okLeaf at h; omega, E⟩
            · skip
              refine wl_y (y_pickt rfl rfl) rfl ?_
              refine wl_y (y_move rfl) rfl ?_
              refine wl_gno 35 rfl rfl rfl rfl ?_
              refine wl_gno 35 rfl rfl rfl rfl ?_
              refine wl_gno 35 rfl rfl rfl rfl ?_
              refine wl_gno 35 rfl rfl rfl rfl ?_
              refine wl_y (y_pickf rfl rfl) rfl ?_
              refine wl_y (y_move rfl) rfl ?_
              refine wl_gno 41 rfl rfl rfl rfl ?_
              refine wl_gno 41 rfl rfl rfl rfl ?_
              refine wl_gno 41 rfl rfl rfl rfl ?_
              refine wl_y (y_pickf rfl rfl) rfl ?_
              refine wl_y (y_move rfl) rfl ?_
              refine wl_gno 46 rfl rfl rfl rfl ?_
              refine wl_gno 46 rfl rfl rfl rfl ?_
              refine wl_gno 46 rfl rfl rfl rfl ?_
              refine wl_y (y_pickf rfl rfl) rfl ?_
              refine wl_y (y_move rfl) rfl ?_
              refine wl_gno 51 rfl rfl rfl rfl ?_
              refine wl_y (y_pickf rfl rfl) rfl ?_
              refine wl_y (y_move rfl) rfl ?_
              refine wl_gno 54 rfl rfl rfl rfl ?_
              refine wl_gno 54 rfl rfl rfl rfl ?_
              refine wl_gno 54 rfl rfl rfl rfl ?_
              refine wl_gno 54 rfl rfl rfl rfl ?_
              refine wl_y (y_pickf rfl rfl) rfl ?_
              refine wl_y (y_assign rfl) rfl ?_
              refine wl_nil ?_
              refine wq_then_norm (hK4 ?_)
              refine wc_ret ?_
              refine hret rfl ?_
              first | exact ⟨ret_yes (by unfold okLeaf; omega), E⟩ | exact ⟨ret_no fun h => by unfold okLeaf at h; omega, E⟩
          · skip
            refine wl_y (y_pickt rfl rfl) rfl ?_
            refine wl_y (y_move rfl) rfl ?_
            refine wl_gno 29 rfl rfl rfl rfl ?_
            refine wl_gno 29 rfl rfl rfl rfl ?_
            refine wl_gno 29 rfl rfl rfl rfl ?_
            refine wl_gno 29 rfl rfl rfl rfl ?_
            refine wl_y (y_pickf rfl rfl) rfl ?_
            refine wl_y (y_move rfl) rfl ?_
            refine wl_gno 35 rfl rfl rfl rfl ?_
            refine wl_gno 35 rfl rfl rfl rfl ?_
            refine wl_gno 35 rfl rfl rfl rfl ?_
            refine wl_gno 35 rfl rfl rfl rfl ?_
            refine wl_y (y_pickf rfl rfl) rfl ?_
            refine wl_y (y_move rfl) rfl ?_
            refine wl_gno 41 rfl rfl rfl rfl ?_
            refine wl_gno 41 rfl rfl rfl rfl ?_
            refine wl_gno 41 rfl rfl rfl rfl ?_
            refine wl_y (y_pickf rfl rfl) rfl ?_
            refine wl_y (y_move rfl) rfl ?_
            refine wl_gno 46 rfl rfl rfl rfl ?_
            refine wl_gno 46 rfl rfl rfl rfl ?_
            refine wl_gno 46 rfl rfl rfl rfl ?_
            refine wl_y (y_pickf rfl rfl) rfl ?_
            refine wl_y (y_move rfl) rfl ?_
            refine wl_gno 51 rfl rfl rfl rfl ?_
            refine wl_y (y_pickf rfl rfl) rfl ?_
            refine wl_y (y_move rfl) rfl ?_
            refine wl_gno 54 rfl rfl rfl rfl ?_
            refine wl_gno 54 rfl rfl rfl rfl ?_
            refine wl_gno 54 rfl rfl rfl rfl ?_
            refine wl_gno 54 rfl rfl rfl rfl ?_
            refine wl_y (y_pickf rfl rfl) rfl ?_
            refine wl_y (y_assign rfl) rfl ?_
            refine wl_nil ?_
            refine wq_then_norm (hK4 ?_)
            refine wc_ret ?_
            refine hret rfl ?_
            first | exact ⟨ret_yes (by unfold okLeaf; omega), E⟩ | exact ⟨ret_no fun h => by unfold okLeaf at h; omega, E⟩
        · skip
          refine wl_y (y_move rfl) rfl ?_
          refine wl_gno 23 rfl rfl rfl rfl ?_
          refine wl_gno 23 rfl rfl rfl rfl ?_
          refine wl_gno 23 rfl rfl rfl rfl ?_
          refine wl_gno 23 rfl rfl rfl rfl ?_
          refine wl_y (y_pickf rfl rfl) rfl ?_
          refine wl_y (y_move rfl) rfl ?_
          refine wl_gno 29 rfl rfl rfl rfl ?_
          refine wl_gno 29 rfl rfl rfl rfl ?_
          refine wl_gno 29 rfl rfl rfl rfl ?_
          refine wl_gno 29 rfl rfl rfl rfl ?_
          refine wl_y (y_pickf rfl rfl) rfl ?_
          refine wl_y (y_move rfl) rfl ?_
          refine wl_gno 35 rfl rfl rfl rfl ?_
          refine wl_gno 35 rfl rfl rfl rfl ?_
          refine wl_gno 35 rfl rfl rfl rfl ?_
          refine wl_gno 35 rfl rfl rfl rfl ?_
          refine wl_y (y_pickf rfl rfl) rfl ?_
          refine wl_y (y_move rfl) rfl ?_
          refine wl_gno 41 rfl rfl rfl rfl ?_
          refine wl_gno 41 rfl rfl rfl rfl ?_
          refine wl_gno 41 rfl rfl rfl rfl ?_
          refine wl_y (y_pickf rfl rfl) rfl ?_
          refine wl_y (y_move rfl) rfl ?_
          refine wl_gno 46 rfl rfl rfl rfl ?_
          refine wl_gno 46 rfl rfl rfl rfl ?_
          refine wl_gno 46 rfl rfl rfl rfl ?_
          refine wl_y (y_pickf rfl rfl) rfl ?_
          refine wl_y (y_move rfl) rfl ?_
          refine wl_gno 51 rfl rfl rfl rfl ?_
          refine wl_y (y_pickf rfl rfl) rfl ?_
          refine wl_y (y_move rfl) rfl ?_
          refine wl_gno 54 rfl rfl rfl rfl ?_
          refine wl_gno 54 rfl rfl rfl rfl ?_
          refine wl_gno 54 rfl rfl rfl rfl ?_
          refine wl_gno 54 rfl rfl rfl rfl ?_
          refine wl_y (y_pickf rfl rfl) rfl ?_
          refine wl_y (y_assign rfl) rfl ?_
          refine wl_nil ?_
          refine wq_then_norm (hK4 ?_)
          refine wc_ret ?_
          refine hret rfl ?_
          first | exact ⟨ret_yes (by unfold okLeaf; omega), E⟩ | exact ⟨ret_no fun h => by unfold okLeaf at h; omega, E⟩
      · skip
        refine wl_gy 8 rfl rfl (y_pickt rfl rfl) rfl ?_
        refine wl_y (y_pickf rfl rfl) rfl ?_
        refine wl_y (y_assign rfl) rfl ?_
        refine wl_nil ?_
        refine wq_then_norm (hK2 ?_)
        refine wc_seq ?_; intro K5 hK5
        refine wc_region ?_
        refine wl_y (y_fieldAddr (o := 0) (s := 1) (off := 0) (o' := 0) rfl Tryz.underlying25 rfl (by kernel_rfl) rfl rfl) rfl ?_
        refine wl_y (y_load1 rfl Tryz.underlying22 rfl (B1.get (i := 0) rfl)) rfl ?_
        refine wl_y (y_len_slice rfl Tryz.underlying22) rfl ?_
        refine wl_yask (y_eql rfl rfl) rfl (fun u0 => ?_) (fun u0 => ?_)
        · skip
          refine wl_y (y_move rfl) rfl ?_
          refine wl_gy 23 rfl rfl (y_fieldAddr (o := 1) (s := 1) (off := 0) (o' := 1) rfl Tryz.underlying25 rfl (by kernel_rfl) rfl rfl) rfl ?_
          refine wl_gy 23 rfl rfl (y_load1 rfl Tryz.underlying22 rfl (B1.get (i := 1) rfl)) rfl ?_
          refine wl_gy 23 rfl rfl (y_len_slice rfl Tryz.underlying22) rfl ?_
          refine wl_gyask 23 rfl rfl (y_eql rfl rfl) rfl (fun u1 => ?_) (fun u1 => ?_)
          · skip
            refine wl_y (y_pickt rfl rfl) rfl ?_
            refine wl_y (y_move rfl) rfl ?_
            refine wl_gy 29 rfl rfl (y_fieldAddr (o := 2) (s := 1) (off := 0) (o' := 2) rfl Tryz.underlying25 rfl (by kernel_rfl) rfl rfl) rfl ?_
            refine wl_gy 29 rfl rfl (y_load1 rfl Tryz.underlying22 rfl (B1.get (i := 2) rfl)) rfl ?_
            refine wl_gy 29 rfl rfl (y_len_slice rfl Tryz.underlying22) rfl ?_
            refine wl_gyask 29 rfl rfl (y_gtr rfl rfl) rfl (fun u2 => ?_) (fun u2 => ?_)
            · skip
              refine wl_y (y_pickt rfl rfl) rfl ?_
              refine wl_y (y_move rfl) rfl ?_
              refine wl_gy 35 rfl rfl (y_fieldAddr (o := 2) (s := 1) (off := 0) (o' := 2) rfl Tryz.underlying25 rfl (by kernel_rfl) rfl rfl) rfl ?_
              refine wl_gy 35 rfl rfl (y_load1 rfl Tryz.underlying22 rfl (B1.get (i := 2) rfl)) rfl ?_
              refine wl_gy 35 rfl rfl (y_len_slice rfl Tryz.underlying22) rfl ?_
              refine wl_gyask 35 rfl rfl (y_leq rfl rfl) rfl (fun u3 => ?_) (fun u3 => ?_)
              · skip
                refine wl_y (y_pickt rfl rfl) rfl ?_
                refine wl_y (y_move rfl) rfl ?_
                refine wl_gy 41 rfl rfl (y_fieldAddr (o := 3) (s := 1) (off := 0) (o' := 3) rfl Tryz.underlying25 rfl (by kernel_rfl) rfl rfl) rfl ?_
                refine wl_gy 41 rfl rfl (y_load1 rfl Tryz.underlying5 rfl (B1.get (i := 3) rfl)) rfl ?_
                refine wl_gyask 41 rfl rfl (y_gtr rfl rfl) rfl (fun u4 => ?_) (fun u4 => ?_)
                · skip
                  refine wl_y (y_pickt rfl rfl) rfl ?_
                  refine wl_y (y_move rfl) rfl ?_
                  refine wl_gy 46 rfl rfl (y_fieldAddr (o := 3) (s := 1) (off := 0) (o' := 3) rfl Tryz.underlying25 rfl (by kernel_rfl) rfl rfl) rfl ?_
                  refine wl_gy 46 rfl rfl (y_load1 rfl Tryz.underlying5 rfl (B1.get (i := 3) rfl)) rfl ?_
                  refine wl_gyask 46 rfl rfl (y_lss rfl rfl) rfl (fun u5 => ?_) (fun u5 => ?_)
                  · skip
                    refine wl_y (y_pickt rfl rfl) rfl ?_
                    refine wl_y (y_move rfl) rfl ?_
                    refine wl_gy 51 rfl rfl (y_move rfl) rfl ?_
                    refine wl_y (y_pickt rfl rfl) rfl ?_
                    refine wl_y (y_move rfl) rfl ?_
                    refine wl_gno 54 rfl rfl rfl rfl ?_
                    refine wl_gno 54 rfl rfl rfl rfl ?_
                    refine wl_gno 54 rfl rfl rfl rfl ?_
                    refine wl_gno 54 rfl rfl rfl rfl ?_
                    refine wl_y (y_pickf rfl rfl) rfl ?_
                    refine wl_y (y_assign rfl) rfl ?_
                    refine wl_nil ?_
                    refine wq_then_norm (hK5 ?_)
                    refine wc_ret ?_
                    refine hret rfl ?_
                    first | exact ⟨ret_yes (by unfold okLeaf; omega), E⟩ | exact ⟨ret_no fun h => by unfold okLeaf at h; omega, E⟩
                  · skip
                    refine wl_y (y_pickt rfl rfl) rfl ?_
                    refine wl_y (y_move rfl) rfl ?_
                    refine wl_gno 51 rfl rfl rfl rfl ?_
                    refine wl_y (y_pickf rfl rfl) rfl ?_
                    refine wl_y (y_move rfl) rfl ?_
                    refine wl_gno 54 rfl rfl rfl rfl ?_
                    refine wl_gno 54 rfl rfl rfl rfl ?_
                    refine wl_gno 54 rfl rfl rfl rfl ?_
                    refine wl_gno 54 rfl rfl rfl rfl ?_
                    refine wl_y (y_pickf rfl rfl) rfl ?_
                    refine wl_y (y_assign rfl) rfl ?_
                    refine wl_nil ?_
                    refine wq_then_norm (hK5 ?_)
                    refine wc_ret ?_
                    refine hret rfl ?_
                    first | exact ⟨ret_yes (by unfold okLeaf; omega), E⟩ | exact ⟨ret_no fun h => by unfold okLeaf at h; omega, E⟩
                · skip
                  refine wl_y (y_pickt rfl rfl) rfl ?_
                  refine wl_y (y_move rfl) rfl ?_
                  refine wl_gno 46 rfl rfl rfl rfl ?_
                  refine wl_gno 46 rfl rfl rfl rfl ?_
                  refine wl_gno 46 rfl rfl rfl rfl ?_
                  refine wl_y (y_pickf rfl rfl) rfl ?_
                  refine wl_y (y_move rfl) rfl ?_
                  refine wl_gno 51 rfl rfl rfl rfl ?_
                  refine wl_y (y_pickf rfl rfl) rfl ?_
                  refine wl_y (y_move rfl) rfl ?_
                  refine wl_gno 54 rfl rfl rfl rfl ?_
                  refine wl_gno 54 rfl rfl rfl rfl ?_
                  refine wl_gno 54 rfl rfl rfl rfl ?_
                  refine wl_gno 54 rfl rfl rfl rfl ?_
                  refine wl_y (y_pickf rfl rfl) rfl ?_
                  refine wl_y (y_assign rfl) rfl ?_
                  refine wl_nil ?_
                  refine wq_then_norm (hK5 ?_)
                  refine wc_ret ?_
                  refine hret rfl ?_
                  first | exact ⟨ret_yes (by unfold okLeaf; omega), E⟩ | exact ⟨ret_no fun h => by unfold okLeaf at h; omega, E⟩
              · skip
                refine wl_y (y_pickt rfl rfl) rfl ?_
                refine wl_y (y_move rfl) rfl ?_
                refine wl_gno 41 rfl rfl rfl rfl ?_
                refine wl_gno 41 rfl rfl rfl rfl ?_
                refine wl_gno 41 rfl rfl rfl rfl ?_
                refine wl_y (y_pickf rfl rfl) rfl ?_
                refine wl_y (y_move rfl) rfl ?_
                refine wl_gno 46 rfl rfl rfl rfl ?_
                refine wl_gno 46 rfl rfl rfl rfl ?_
                refine wl_gno 46 rfl rfl rfl rfl ?_
                refine wl_y (y_pickf rfl rfl) rfl ?_
                refine wl_y (y_move rfl) rfl ?_
                refine wl_gno 51 rfl rfl rfl rfl ?_
                refine wl_y (y_pickf rfl rfl) rfl ?_
                refine wl_y (y_move rfl) rfl ?_
                refine wl_gno 54 rfl rfl rfl rfl ?_
                refine wl_gno 54 rfl rfl rfl rfl ?_
                refine wl_gno 54 rfl rfl rfl rfl ?_
                refine wl_gno 54 rfl rfl rfl rfl ?_
                refine wl_y (y_pickf rfl rfl) rfl ?_
                refine wl_y (y_assign rfl) rfl ?_
                refine wl_nil ?_
                refine wq_then_norm (hK5 ?_)
                refine wc_ret ?_
                refine hret rfl ?_
                first | exact ⟨ret_yes (by unfold okLeaf; omega), E⟩ | exact ⟨ret_no fun h => by unfold okLeaf at h; omega, E⟩
            · skip
              refine wl_y (y_pickt rfl rfl) rfl ?_
              refine wl_y (y_move rfl) rfl ?_
              refine wl_gno 35 rfl rfl rfl rfl ?_
              refine wl_gno 35 rfl rfl rfl rfl ?_
              refine wl_gno 35 rfl rfl rfl rfl ?_
              refine wl_gno 35 rfl rfl rfl rfl ?_
              refine wl_y (y_pickf rfl rfl) rfl ?_
              refine wl_y (y_move rfl) rfl ?_
              refine wl_gno 41 rfl rfl rfl rfl ?_
              refine wl_gno 41 rfl rfl rfl rfl ?_
              refine wl_gno 41 rfl rfl rfl rfl ?_
              refine wl_y (y_pickf rfl rfl) rfl ?_
              refine wl_y (y_move rfl) rfl ?_
              refine wl_gno 46 rfl rfl rfl rfl ?_
              refine wl_gno 46 rfl rfl rfl rfl ?_
              refine wl_gno 46 rfl rfl rfl rfl ?_
              refine wl_y (y_pickf rfl rfl) rfl ?_
              refine wl_y (y_move rfl) rfl ?_
              refine wl_gno 51 rfl rfl rfl rfl ?_
              refine wl_y (y_pickf rfl rfl) rfl ?_
              refine wl_y (y_move rfl) rfl ?_
              refine wl_gno 54 rfl rfl rfl rfl ?_
              refine wl_gno 54 rfl rfl rfl rfl ?_
              refine wl_gno 54 rfl rfl rfl rfl ?_
              refine wl_gno 54 rfl rfl rfl rfl ?_
              refine wl_y (y_pickf rfl rfl) rfl ?_
              refine wl_y (y_assign rfl) rfl ?_
              refine wl_nil ?_
              refine wq_then_norm (hK5 ?_)
              refine wc_ret ?_
              refine hret rfl ?_
              first | exact ⟨ret_yes (by unfold okLeaf; omega), E⟩ | exact ⟨ret_no fun h => by unfold okLeaf at h; omega, E⟩
          · skip
            refine wl_y (y_pickt rfl rfl) rfl ?_
            refine wl_y (y_move rfl) rfl ?_
            refine wl_gno 29 rfl rfl rfl rfl ?_
            refine wl_gno 29 rfl rfl rfl rfl ?_
            refine wl_gno 29 rfl rfl rfl rfl ?_
            refine wl_gno 29 rfl rfl rfl rfl ?_
            refine wl_y (y_pickf rfl rfl) rfl ?_
            refine wl_y (y_move rfl) rfl ?_
            refine wl_gno 35 rfl rfl rfl rfl ?_
            refine wl_gno 35 rfl rfl rfl rfl ?_
            refine wl_gno 35 rfl rfl rfl rfl ?_
            refine wl_gno 35 rfl rfl rfl rfl ?_
            refine wl_y (y_pickf rfl rfl) rfl ?_
            refine wl_y (y_move rfl) rfl ?_
            refine wl_gno 41 rfl rfl rfl rfl ?_
            refine wl_gno 41 rfl rfl rfl rfl ?_
            refine wl_gno 41 rfl rfl rfl rfl ?_
            refine wl_y (y_pickf rfl rfl) rfl ?_
            refine wl_y (y_move rfl) rfl ?_
            refine wl_gno 46 rfl rfl rfl rfl ?_
            refine wl_gno 46 rfl rfl rfl rfl ?_
            refine wl_gno 46 rfl rfl rfl rfl ?_
            refine wl_y (y_pickf rfl rfl) rfl ?_
            refine wl_y (y_move rfl) rfl ?_
            refine wl_gno 51 rfl rfl rfl rfl ?_
            refine wl_y (y_pickf rfl rfl) rfl ?_
            refine wl_y (y_move rfl) rfl ?_
            refine wl_gno 54 rfl rfl rfl rfl ?_
            refine wl_gno 54 rfl rfl rfl rfl ?_
            refine wl_gno 54 rfl rfl rfl rfl ?_
            refine wl_gno 54 rfl rfl rfl rfl ?_
            refine wl_y (y_pickf rfl rfl) rfl ?_
            refine wl_y (y_assign rfl) rfl ?_
            refine wl_nil ?_
            refine wq_then_norm (hK5 ?_)
            refine wc_ret ?_
            refine hret rfl ?_
            first | exact ⟨ret_yes (by unfold okLeaf; omega), E⟩ | exact ⟨ret_no fun h => by unfold okLeaf at h; omega, E⟩
        · skip
          refine wl_y (y_move rfl) rfl ?_
          refine wl_gno 23 rfl rfl rfl rfl ?_
          refine wl_gno 23 rfl rfl rfl rfl ?_
          refine wl_gno 23 rfl rfl rfl rfl ?_
          refine wl_gno 23 rfl rfl rfl rfl ?_
          refine wl_y (y_pickf rfl rfl) rfl ?_
          refine wl_y (y_move rfl) rfl ?_
          refine wl_gno 29 rfl rfl rfl rfl ?_
          refine wl_gno 29 rfl rfl rfl rfl ?_
          refine wl_gno 29 rfl rfl rfl rfl ?_
          refine wl_gno 29 rfl rfl rfl rfl ?_
          refine wl_y (y_pickf rfl rfl) rfl ?_
          refine wl_y (y_move rfl) rfl ?_
          refine wl_gno 35 rfl rfl rfl rfl ?_
          refine wl_gno 35 rfl rfl rfl rfl ?_
          refine wl_gno 35 rfl rfl rfl rfl ?_
          refine wl_gno 35 rfl rfl rfl rfl ?_
          refine wl_y (y_pickf rfl rfl) rfl ?_
          refine wl_y (y_move rfl) rfl ?_
          refine wl_gno 41 rfl rfl rfl rfl ?_
          refine wl_gno 41 rfl rfl rfl rfl ?_
          refine wl_gno 41 rfl rfl rfl rfl ?_
          refine wl_y (y_pickf rfl rfl) rfl ?_
          refine wl_y (y_move rfl) rfl ?_
          refine wl_gno 46 rfl rfl rfl rfl ?_
          refine wl_gno 46 rfl rfl rfl rfl ?_
          refine wl_gno 46 rfl rfl rfl rfl ?_
          refine wl_y (y_pickf rfl rfl) rfl ?_
          refine wl_y (y_move rfl) rfl ?_
          refine wl_gno 51 rfl rfl rfl rfl ?_
          refine wl_y (y_pickf rfl rfl) rfl ?_
          refine wl_y (y_move rfl) rfl ?_
          refine wl_gno 54 rfl rfl rfl rfl ?_
          refine wl_gno 54 rfl rfl rfl rfl ?_
          refine wl_gno 54 rfl rfl rfl rfl ?_
          refine wl_gno 54 rfl rfl rfl rfl ?_
          refine wl_y (y_pickf rfl rfl) rfl ?_
          refine wl_y (y_assign rfl) rfl ?_
          refine wl_nil ?_
          refine wq_then_norm (hK5 ?_)
          refine wc_ret ?_
          refine hret rfl ?_
          first | exact ⟨ret_yes (by unfold okLeaf; omega), E⟩ | exact ⟨ret_no fun h => by unfold okLeaf at h; omega, E⟩
    · skip
      refine wl_gy 8 rfl rfl (y_move rfl) rfl ?_
      refine wl_gno 12 rfl rfl rfl rfl ?_
      refine wl_gno 12 rfl rfl rfl rfl ?_
      refine wl_gno 12 rfl rfl rfl rfl ?_
      refine wl_gno 12 rfl rfl rfl rfl ?_
      refine wl_gy 8 rfl rfl (y_pickf rfl rfl) rfl ?_
      refine wl_y (y_pickf rfl rfl) rfl ?_
      refine wl_y (y_assign rfl) rfl ?_
      refine wl_nil ?_
      refine wq_then_norm (hK2 ?_)
      refine wc_seq ?_; intro K6 hK6
      refine wc_region ?_
      refine wl_y (y_fieldAddr (o := 0) (s := 1) (off := 0) (o' := 0) rfl Tryz.underlying25 rfl (by kernel_rfl) rfl rfl) rfl ?_
      refine wl_y (y_load1 rfl Tryz.underlying22 rfl (B1.get (i := 0) rfl)) rfl ?_
      refine wl_y (y_len_slice rfl Tryz.underlying22) rfl ?_
      refine wl_yask (y_eql rfl rfl) rfl (fun u0 => ?_) (fun u0 => ?_)
      · skip
        refine wl_y (y_move rfl) rfl ?_
        refine wl_gy 23 rfl rfl (y_fieldAddr (o := 1) (s := 1) (off := 0) (o' := 1) rfl Tryz.underlying25 rfl (by kernel_rfl) rfl rfl) rfl ?_
        refine wl_gy 23 rfl rfl (y_load1 rfl Tryz.underlying22 rfl (B1.get (i := 1) rfl)) rfl ?_
        refine wl_gy 23 rfl rfl (y_len_slice rfl Tryz.underlying22) rfl ?_
        refine wl_gyask 23 rfl rfl (y_eql rfl rfl) rfl (fun u1 => ?_) (fun u1 => ?_)
        · skip
          refine wl_y (y_pickt rfl rfl) rfl ?_
          refine wl_y (y_move rfl) rfl ?_
          refine wl_gy 29 rfl rfl (y_fieldAddr (o := 2) (s := 1) (off := 0) (o' := 2) rfl Tryz.underlying25 rfl (by kernel_rfl) rfl rfl) rfl ?_
          refine wl_gy 29 rfl rfl (y_load1 rfl Tryz.underlying22 rfl (B1.get (i := 2) rfl)) rfl ?_
          refine wl_gy 29 rfl rfl (y_len_slice rfl Tryz.underlying22) rfl ?_
          refine wl_gyask 29 rfl rfl (y_gtr rfl rfl) rfl (fun u2 => ?_) (fun u2 => ?_)
          · skip
            refine wl_y (y_pickt rfl rfl) rfl ?_
            refine wl_y (y_move rfl) rfl ?_
            refine wl_gy 35 rfl rfl (y_fieldAddr (o := 2) (s := 1) (off := 0) (o' := 2) rfl Tryz.underlying25 rfl (by kernel_rfl) rfl rfl) rfl ?_
            refine wl_gy 35 rfl rfl (y_load1 rfl Tryz.underlying22 rfl (B1.get (i := 2) rfl)) rfl ?_
            refine wl_gy 35 rfl rfl (y_len_slice rfl Tryz.underlying22) rfl ?_
            refine wl_gyask 35 rfl rfl (y_leq rfl rfl) rfl (fun u3 => ?_) (fun u3 => ?_)
            · skip
              refine wl_y (y_pickt rfl rfl) rfl ?_
              refine wl_y (y_move rfl) rfl ?_
              refine wl_gy 41 rfl rfl (y_fieldAddr (o := 3) (s := 1) (off := 0) (o' := 3) rfl Tryz.underlying25 rfl (by kernel_rfl) rfl rfl) rfl ?_
              refine wl_gy 41 rfl rfl (y_load1 rfl Tryz.underlying5 rfl (B1.get (i := 3) rfl)) rfl ?_
              refine wl_gyask 41 rfl rfl (y_gtr rfl rfl) rfl (fun u4 => ?_) (fun u4 => ?_)
              · skip
                refine wl_y (y_pickt rfl rfl) rfl ?_
                refine wl_y (y_move rfl) rfl ?_
                refine wl_gy 46 rfl rfl (y_fieldAddr (o := 3) (s := 1) (off := 0) (o' := 3) rfl Tryz.underlying25 rfl (by kernel_rfl) rfl rfl) rfl ?_
                refine wl_gy 46 rfl rfl (y_load1 rfl Tryz.underlying5 rfl (B1.get (i := 3) rfl)) rfl ?_
                refine wl_gyask 46 rfl rfl (y_lss rfl rfl) rfl (fun u5 => ?_) (fun u5 => ?_)
                · skip
                  refine wl_y (y_pickt rfl rfl) rfl ?_
                  refine wl_y (y_move rfl) rfl ?_
                  refine wl_gy 51 rfl rfl (y_move rfl) rfl ?_
                  refine wl_y (y_pickt rfl rfl) rfl ?_
                  refine wl_y (y_move rfl) rfl ?_
                  refine wl_gno 54 rfl rfl rfl rfl ?_
                  refine wl_gno 54 rfl rfl rfl rfl ?_
                  refine wl_gno 54 rfl rfl rfl rfl ?_
                  refine wl_gno 54 rfl rfl rfl rfl ?_
                  refine wl_y (y_pickf rfl rfl) rfl ?_
                  refine wl_y (y_assign rfl) rfl ?_
                  refine wl_nil ?_
                  refine wq_then_norm (hK6 ?_)
                  refine wc_ret ?_
                  refine hret rfl ?_
                  first | exact ⟨ret_yes (by unfold okLeaf; omega), E⟩ | exact ⟨ret_no fun h => by unfold okLeaf at h; omega, E⟩
                · skip
                  refine wl_y (y_pickt rfl rfl) rfl ?_
                  refine wl_y (y_move rfl) rfl ?_
                  refine wl_gno 51 rfl rfl rfl rfl ?_
                  refine wl_y (y_pickf rfl rfl) rfl ?_
                  refine wl_y (y_move rfl) rfl ?_
                  refine wl_gno 54 rfl rfl rfl rfl ?_
                  refine wl_gno 54 rfl rfl rfl rfl ?_
                  refine wl_gno 54 rfl rfl rfl rfl ?_
                  refine wl_gno 54 rfl rfl rfl rfl ?_
                  refine wl_y (y_pickf rfl rfl) rfl ?_
                  refine wl_y (y_assign rfl) rfl ?_
                  refine wl_nil ?_
                  refine wq_then_norm (hK6 ?_)
                  refine wc_ret ?_
                  refine hret rfl ?_
                  first | exact ⟨ret_yes (by unfold okLeaf; omega), E⟩ | exact ⟨ret_no fun h => by unfold okLeaf at h; omega, E⟩
              · skip
                refine wl_y (y_pickt rfl rfl) rfl ?_
                refine wl_y (y_move rfl) rfl ?_
                refine wl_gno 46 rfl rfl rfl rfl ?_
                refine wl_gno 46 rfl rfl rfl rfl ?_
                refine wl_gno 46 rfl rfl rfl rfl ?_
                refine wl_y (y_pickf rfl rfl) rfl ?_
                refine wl_y (y_move rfl) rfl ?_
                refine wl_gno 51 rfl rfl rfl rfl ?_
                refine wl_y (y_pickf rfl rfl) rfl ?_
                refine wl_y (y_move rfl) rfl ?_
                refine wl_gno 54 rfl rfl rfl rfl ?_
                refine wl_gno 54 rfl rfl rfl rfl ?_
                refine wl_gno 54 rfl rfl rfl rfl ?_
                refine wl_gno 54 rfl rfl rfl rfl ?_
                refine wl_y (y_pickf rfl rfl) rfl ?_
                refine wl_y (y_assign rfl) rfl ?_
                refine wl_nil ?_
                refine wq_then_norm (hK6 ?_)
                refine wc_ret ?_
                refine hret rfl ?_
                first | exact ⟨ret_yes (by unfold okLeaf; omega), E⟩ | exact ⟨ret_no fun h => by unfold okLeaf at h; omega, E⟩
            · skip
              refine wl_y (y_pickt rfl rfl) rfl ?_
              refine wl_y (y_move rfl) rfl ?_
              refine wl_gno 41 rfl rfl rfl rfl ?_
              refine wl_gno 41 rfl rfl rfl rfl ?_
              refine wl_gno 41 rfl rfl rfl rfl ?_
              refine wl_y (y_pickf rfl rfl) rfl ?_
              refine wl_y (y_move rfl) rfl ?_
              refine wl_gno 46 rfl rfl rfl rfl ?_
              refine wl_gno 46 rfl rfl rfl rfl ?_
              refine wl_gno 46 rfl rfl rfl rfl ?_
              refine wl_y (y_pickf rfl rfl) rfl ?_
              refine wl_y (y_move rfl) rfl ?_
              refine wl_gno 51 rfl rfl rfl rfl ?_
              refine wl_y (y_pickf rfl rfl) rfl ?_
              refine wl_y (y_move rfl) rfl ?_
              refine wl_gno 54 rfl rfl rfl rfl ?_
              refine wl_gno 54 rfl rfl rfl rfl ?_
              refine wl_gno 54 rfl rfl rfl rfl ?_
              refine wl_gno 54 rfl rfl rfl rfl ?_
              refine wl_y (y_pickf rfl rfl) rfl ?_
              refine wl_y (y_assign rfl) rfl ?_
              refine wl_nil ?_
              refine wq_then_norm (hK6 ?_)
              refine wc_ret ?_
              refine hret rfl ?_
              first | exact ⟨ret_yes (by unfold okLeaf; omega), E⟩ | exact ⟨ret_no fun h => by unfold okLeaf at h; omega, E⟩
          · skip
            refine wl_y (y_pickt rfl rfl) rfl ?_
            refine wl_y (y_move rfl) rfl ?_
            refine wl_gno 35 rfl rfl rfl rfl ?_
            refine wl_gno 35 rfl rfl rfl rfl ?_
            refine wl_gno 35 rfl rfl rfl rfl ?_
            refine wl_gno 35 rfl rfl rfl rfl ?_
            refine wl_y (y_pickf rfl rfl) rfl ?_
            refine wl_y (y_move rfl) rfl ?_
            refine wl_gno 41 rfl rfl rfl rfl ?_
            refine wl_gno 41 rfl rfl rfl rfl ?_
            refine wl_gno 41 rfl rfl rfl rfl ?_
            refine wl_y (y_pickf rfl rfl) rfl ?_
            refine wl_y (y_move rfl) rfl ?_
            refine wl_gno 46 rfl rfl rfl rfl ?_
            refine wl_gno 46 rfl rfl rfl rfl ?_
            refine wl_gno 46 rfl rfl rfl rfl ?_
            refine wl_y (y_pickf rfl rfl) rfl ?_
            refine wl_y (y_move rfl) rfl ?_
            refine wl_gno 51 rfl rfl rfl rfl ?_
            refine wl_y (y_pickf rfl rfl) rfl ?_
            refine wl_y (y_move rfl) rfl ?_
            refine wl_gno 54 rfl rfl rfl rfl ?_
            refine wl_gno 54 rfl rfl rfl rfl ?_
            refine wl_gno 54 rfl rfl rfl rfl ?_
            refine wl_gno 54 rfl rfl rfl rfl ?_
            refine wl_y (y_pickf rfl rfl) rfl ?_
            refine wl_y (y_assign rfl) rfl ?_
            refine wl_nil ?_
            refine wq_then_norm (hK6 ?_)
            refine wc_ret ?_
            refine hret rfl ?_
            first | exact ⟨ret_yes (by unfold okLeaf; omega), E⟩ | exact ⟨ret_no fun h => by unfold okLeaf at h; omega, E⟩
        · skip
          refine wl_y (y_pickt rfl rfl) rfl ?_
          refine wl_y (y_move rfl) rfl ?_
          refine wl_gno 29 rfl rfl rfl rfl ?_
          refine wl_gno 29 rfl rfl rfl rfl ?_
          refine wl_gno 29 rfl rfl rfl rfl ?_
          refine wl_gno 29 rfl rfl rfl rfl ?_
          refine wl_y (y_pickf rfl rfl) rfl ?_
          refine wl_y (y_move rfl) rfl ?_
          refine wl_gno 35 rfl rfl rfl rfl ?_
          refine wl_gno 35 rfl rfl rfl rfl ?_
          refine wl_gno 35 rfl rfl rfl rfl ?_
          refine wl_gno 35 rfl rfl rfl rfl ?_
          refine wl_y (y_pickf rfl rfl) rfl ?_
          refine wl_y (y_move rfl) rfl ?_
          refine wl_gno 41 rfl rfl rfl rfl ?_
          refine wl_gno 41 rfl rfl rfl rfl ?_
          refine wl_gno 41 rfl rfl rfl rfl ?_
          refine wl_y (y_pickf rfl rfl) rfl ?_
          refine wl_y (y_move rfl) rfl ?_
          refine wl_gno 46 rfl rfl rfl rfl ?_
          refine wl_gno 46 rfl rfl rfl rfl ?_
          refine wl_gno 46 rfl rfl rfl rfl ?_
          refine wl_y (y_pickf rfl rfl) rfl ?_
          refine wl_y (y_move rfl) rfl ?_
          refine wl_gno 51 rfl rfl rfl rfl ?_
          refine wl_y (y_pickf rfl rfl) rfl ?_
          refine wl_y (y_move rfl) rfl ?_
          refine wl_gno 54 rfl rfl rfl rfl ?_
          refine wl_gno 54 rfl rfl rfl rfl ?_
          refine wl_gno 54 rfl rfl rfl rfl ?_
          refine wl_gno 54 rfl rfl rfl rfl ?_
          refine wl_y (y_pickf rfl rfl) rfl ?_
          refine wl_y (y_assign rfl) rfl ?_
          refine wl_nil ?_
          refine wq_then_norm (hK6 ?_)
          refine wc_ret ?_
          refine hret rfl ?_
          first | exact ⟨ret_yes (by unfold okLeaf; omega), E⟩ | exact ⟨ret_no fun h => by unfold okLeaf at h; omega, E⟩
      · skip
        refine wl_y (y_move rfl) rfl ?_
        refine wl_gno 23 rfl rfl rfl rfl ?_
        refine wl_gno 23 rfl rfl rfl rfl ?_
        refine wl_gno 23 rfl rfl rfl rfl ?_
        refine wl_gno 23 rfl rfl rfl rfl ?_
        refine wl_y (y_pickf rfl rfl) rfl ?_
        refine wl_y (y_move rfl) rfl ?_
        refine wl_gno 29 rfl rfl rfl rfl ?_
        refine wl_gno 29 rfl rfl rfl rfl ?_
        refine wl_gno 29 rfl rfl rfl rfl ?_
        refine wl_gno 29 rfl rfl rfl rfl ?_
        refine wl_y (y_pickf rfl rfl) rfl ?_
        refine wl_y (y_move rfl) rfl ?_
        refine wl_gno 35 rfl rfl rfl rfl ?_
        refine wl_gno 35 rfl rfl rfl rfl ?_
        refine wl_gno 35 rfl rfl rfl rfl ?_
        refine wl_gno 35 rfl rfl rfl rfl ?_
        refine wl_y (y_pickf rfl rfl) rfl ?_
        refine wl_y (y_move rfl) rfl ?_
        refine wl_gno 41 rfl rfl rfl rfl ?_
        refine wl_gno 41 rfl rfl rfl rfl ?_
        refine wl_gno 41 rfl rfl rfl rfl ?_
        refine wl_y (y_pickf rfl rfl) rfl ?_
        refine wl_y (y_move rfl) rfl ?_
        refine wl_gno 46 rfl rfl rfl rfl ?_
        refine wl_gno 46 rfl rfl rfl rfl ?_
        refine wl_gno 46 rfl rfl rfl rfl ?_
        refine wl_y (y_pickf rfl rfl) rfl ?_
        refine wl_y (y_move rfl) rfl ?_
        refine wl_gno 51 rfl rfl rfl rfl ?_
        refine wl_y (y_pickf rfl rfl) rfl ?_
        refine wl_y (y_move rfl) rfl ?_
        refine wl_gno 54 rfl rfl rfl rfl ?_
        refine wl_gno 54 rfl rfl rfl rfl ?_
        refine wl_gno 54 rfl rfl rfl rfl ?_
        refine wl_gno 54 rfl rfl rfl rfl ?_
        refine wl_y (y_pickf rfl rfl) rfl ?_
        refine wl_y (y_assign rfl) rfl ?_
        refine wl_nil ?_
        refine wq_then_norm (hK6 ?_)
        refine wc_ret ?_
        refine hret rfl ?_
        first | exact ⟨ret_yes (by unfold okLeaf; omega), E⟩ | exact ⟨ret_no fun h => by unfold okLeaf at h; omega, E⟩
end Go.Proofs.YtpgalbgonmclaaaGreat
