/- Infos and welcomes: which are small, which are the same; what the reference says of them. No conditions: contracts of the reference's functions. -/
import Derived.Test.YtpgalbgonmclaaaMuB
import Derived.Test.YtpgalbgonmclaaaMsE
namespace Go.Proofs.Ytpgalbgonmclaaa
open Go.RowKit
attribute [local irreducible] Y Ef WL WC WK WQ WM OpM WN WF OpN WJ OpJ WG OpG
open Wire Nd M20
section
variable {cs ds : Array Value} {i : Inf} {x : Wel}
theorem smallWel_any (w : World) (H : WelAt w cs x) :
    Calls Try.prog 52 #[.agg cs] w fun e w' => e = .returned (.bool (decide x.Small)) ∧ Ext w w' := by
  obtain ⟨h0, h1, rfl, a0, a1⟩ := H
  have l0 := a0.1; have l1 := a1.1
  have E := Ext.refl w
  refine vc_enter1 55 Try.func52 rfl rfl rfl rfl ?_
  intro Q hret
  refine wc_seq ?_; intro K1 hK1
  refine wc_region ?_
  refine wl_ef (ef_box rfl rfl) rfl ?_
  rintro _ wB1 ⟨gB1, rfl, B1, hgB1, ex⟩
  have lB1 := B1.lt; have zB1 := ex.size
  replace E := E.ext ex
  refine wl_y (y_assign rfl) rfl ?_
  refine wl_nil ?_
  refine wq_then_norm (hK1 ?_)
  refine wc_seq ?_; intro K2 hK2
  refine wc_seq ?_; intro K3 hK3
  refine wc_region ?_
  refine wl_y (y_assign rfl) rfl ?_
  refine wl_nil ?_
  refine wq_then_norm (hK3 ?_)
  refine wc_block ?_
  refine wc_loop (fun n' L wr => ∃ i : Nat, L = [(1, .pointer (some ⟨gB1, 0, none⟩)), (3, .int .i64 (i : Int))] ∧ n' = h0.n - i ∧ (i ≤ h0.n ∧ i ≤ 70 ∧ wr = wB1 ∧ ∀ y ∈ x.guests.take i, y.Small)) _ _ ⟨0, rfl, rfl, by omega, by omega, rfl, by simp⟩ ⟨rfl, (by first | rfl | exact congrArg some (int_val (by omega))), trivial⟩ ?_
  rintro KL1 n' L wr ⟨i, rfl, rfl, hi, hj, rfl, hall⟩ hL1
  refine wc_seq ?_; intro K4 hK4
  refine wc_seq ?_; intro K5 hK5
  refine wc_region ?_
  refine wl_y (y_move rfl) rfl ?_
  refine wl_y (y_fieldAddr (o := 0) (s := 1) (off := 0) (o' := 0) rfl Try.underlying80 rfl (by kernel_rfl) rfl rfl) rfl ?_
  refine wl_y (y_load1 rfl Try.underlying78 rfl (B1.get (i := 0) rfl)) rfl ?_
  refine wl_y (y_len_slice rfl Try.underlying78) rfl ?_
  refine wl_yask (y_lss rfl rfl) rfl (fun p0 => ?_) (fun p0 => ?_)
  · skip
    refine wl_y (y_move rfl) rfl ?_
    refine wl_gy 9 rfl rfl (y_move rfl) rfl ?_
    refine wl_gy 9 rfl rfl (y_lss rfl rfl) rfl ?_
    refine wl_y (y_pickt rfl rfl) rfl ?_
    refine wl_nil ?_
    refine wq_then_norm (hK5 ?_)
    refine wc_dec rfl (fun hc1 => ?_) (fun hc1 => ?_)
    · skip
      refine wc_skip ?_
      refine wq_then_norm (hK4 ?_)
      refine wc_seq ?_; intro K6 hK6
      refine wc_block ?_
      refine wc_seq ?_; intro K7 hK7
      obtain ⟨b1, o1, cs1, y, e1, _, hx, hcz, hR, hcx⟩ := a0.get2 (by omega) (i := i) (by omega)
      obtain ⟨f0, f1, f2, rfl, v0, v1, v2⟩ := hR
      have m0 := v0.1; have m1 := v1.1; have m2 := v2.1
      refine wc_region ?_
      refine wl_y (y_fieldAddr (o := 0) (s := 1) (off := 0) (o' := 0) rfl Try.underlying80 rfl (by kernel_rfl) rfl rfl) rfl ?_
      refine wl_y (y_load1 rfl Try.underlying78 rfl (B1.get (i := 0) rfl)) rfl ?_
      refine wl_y (y_move rfl) rfl ?_
      refine wl_y (y_ixsE (s := 3) (j := i) e1 rfl rfl Try.underlying78 (by kernel_rfl) rfl (by omega)) rfl ?_
      refine wl_y (y_fieldAddr (o := 0) (s := 1) rfl Try.underlying142 rfl (by kernel_rfl) rfl rfl) rfl ?_
      refine wl_y (y_load1 rfl Try.underlying22 rfl (E.cellE (hcx 0 _ rfl))) rfl ?_
      refine wl_y (y_len_slice rfl Try.underlying22) rfl ?_
      refine wl_yask (y_gtr rfl rfl) rfl (fun n0 => ?_) (fun n0 => ?_)
      · skip
        refine wl_y (y_move rfl) rfl ?_
        refine wl_gno 23 rfl rfl rfl rfl ?_
        refine wl_gno 23 rfl rfl rfl rfl ?_
        refine wl_gno 23 rfl rfl rfl rfl ?_
        refine wl_gno 23 rfl rfl rfl rfl ?_
        refine wl_gno 23 rfl rfl rfl rfl ?_
        refine wl_gno 23 rfl rfl rfl rfl ?_
        refine wl_gno 23 rfl rfl rfl rfl ?_
        refine wl_gno 23 rfl rfl rfl rfl ?_
        refine wl_gno 23 rfl rfl rfl rfl ?_
        refine wl_y (y_pickt rfl rfl) rfl ?_
        refine wl_y (y_move rfl) rfl ?_
        refine wl_gno 34 rfl rfl rfl rfl ?_
        refine wl_gno 34 rfl rfl rfl rfl ?_
        refine wl_gno 34 rfl rfl rfl rfl ?_
        refine wl_gno 34 rfl rfl rfl rfl ?_
        refine wl_gno 34 rfl rfl rfl rfl ?_
        refine wl_gno 34 rfl rfl rfl rfl ?_
        refine wl_gno 34 rfl rfl rfl rfl ?_
        refine wl_gno 34 rfl rfl rfl rfl ?_
        refine wl_gno 34 rfl rfl rfl rfl ?_
        refine wl_y (y_pickt rfl rfl) rfl ?_
        refine wl_nil ?_
        refine wq_then_norm (hK7 ?_)
        refine wc_true rfl rfl ?_
        refine wc_seq ?_; intro K8 hK8
        refine wc_region ?_
        refine wl_y (y_assign rfl) rfl ?_
        refine wl_nil ?_
        refine wq_then_norm (hK8 ?_)
        refine wc_ret ?_
        refine wq_blk_ret ?_
        refine wq_then_ret ?_
        refine wq_then_ret ?_
        refine wq_blk_ret ?_
        refine wq_then_ret ?_
        refine hret rfl ?_
        exact ⟨ret_no fun h => by have := (h.2.1 y (ix_mem hx)).1; omega, E⟩
      · skip
        refine wl_y (y_move rfl) rfl ?_
        refine wl_gy 23 rfl rfl (y_fieldAddr (o := 0) (s := 1) (off := 0) (o' := 0) rfl Try.underlying80 rfl (by kernel_rfl) rfl rfl) rfl ?_
        refine wl_gy 23 rfl rfl (y_load1 rfl Try.underlying78 rfl (B1.get (i := 0) rfl)) rfl ?_
        refine wl_gy 23 rfl rfl (y_move rfl) rfl ?_
        refine wl_gy 23 rfl rfl (y_ixsE (s := 3) (j := i) e1 rfl rfl Try.underlying78 (by kernel_rfl) rfl (by omega)) rfl ?_
        refine wl_gy 23 rfl rfl (y_fieldAddr (o := 1) (s := 2) rfl Try.underlying142 rfl (by kernel_rfl) rfl rfl) rfl ?_
        refine wl_gy 23 rfl rfl (y_fieldAddr (o := 0) (s := 1) rfl Try.underlying111 rfl (by kernel_rfl) rfl rfl) rfl ?_
        refine wl_gy 23 rfl rfl (y_load1 rfl Try.underlying22 rfl (E.cellE (hcx 1 _ rfl))) rfl ?_
        refine wl_gy 23 rfl rfl (y_len_slice rfl Try.underlying22) rfl ?_
        refine wl_gyask 23 rfl rfl (y_gtr rfl rfl) rfl (fun n1 => ?_) (fun n1 => ?_)
        · skip
          refine wl_y (y_pickf rfl rfl) rfl ?_
          refine wl_y (y_move rfl) rfl ?_
          refine wl_gno 34 rfl rfl rfl rfl ?_
          refine wl_gno 34 rfl rfl rfl rfl ?_
          refine wl_gno 34 rfl rfl rfl rfl ?_
          refine wl_gno 34 rfl rfl rfl rfl ?_
          refine wl_gno 34 rfl rfl rfl rfl ?_
          refine wl_gno 34 rfl rfl rfl rfl ?_
          refine wl_gno 34 rfl rfl rfl rfl ?_
          refine wl_gno 34 rfl rfl rfl rfl ?_
          refine wl_gno 34 rfl rfl rfl rfl ?_
          refine wl_y (y_pickt rfl rfl) rfl ?_
          refine wl_nil ?_
          refine wq_then_norm (hK7 ?_)
          refine wc_true rfl rfl ?_
          refine wc_seq ?_; intro K9 hK9
          refine wc_region ?_
          refine wl_y (y_assign rfl) rfl ?_
          refine wl_nil ?_
          refine wq_then_norm (hK9 ?_)
          refine wc_ret ?_
          refine wq_blk_ret ?_
          refine wq_then_ret ?_
          refine wq_then_ret ?_
          refine wq_blk_ret ?_
          refine wq_then_ret ?_
          refine hret rfl ?_
          exact ⟨ret_no fun h => by have := (h.2.1 y (ix_mem hx)).2.1; omega, E⟩
        · skip
          refine wl_y (y_pickf rfl rfl) rfl ?_
          refine wl_y (y_move rfl) rfl ?_
          refine wl_gy 34 rfl rfl (y_fieldAddr (o := 0) (s := 1) (off := 0) (o' := 0) rfl Try.underlying80 rfl (by kernel_rfl) rfl rfl) rfl ?_
          refine wl_gy 34 rfl rfl (y_load1 rfl Try.underlying78 rfl (B1.get (i := 0) rfl)) rfl ?_
          refine wl_gy 34 rfl rfl (y_move rfl) rfl ?_
          refine wl_gy 34 rfl rfl (y_ixsE (s := 3) (j := i) e1 rfl rfl Try.underlying78 (by kernel_rfl) rfl (by omega)) rfl ?_
          refine wl_gy 34 rfl rfl (y_fieldAddr (o := 1) (s := 2) rfl Try.underlying142 rfl (by kernel_rfl) rfl rfl) rfl ?_
          refine wl_gy 34 rfl rfl (y_fieldAddr (o := 1) (s := 1) rfl Try.underlying111 rfl (by kernel_rfl) rfl rfl) rfl ?_
          refine wl_gy 34 rfl rfl (y_load1 rfl Try.underlying22 rfl (E.cellE (hcx 2 _ rfl))) rfl ?_
          refine wl_gy 34 rfl rfl (y_len_slice rfl Try.underlying22) rfl ?_
          refine wl_gy 34 rfl rfl (y_gtr rfl rfl) rfl ?_
          refine wl_y (y_pickf rfl rfl) rfl ?_
          refine wl_nil ?_
          refine wq_then_norm (hK7 ?_)
          refine wc_dec rfl (fun hc2 => ?_) (fun hc2 => ?_)
          · skip
            refine wc_seq ?_; intro K10 hK10
            refine wc_region ?_
            refine wl_y (y_assign rfl) rfl ?_
            refine wl_nil ?_
            refine wq_then_norm (hK10 ?_)
            refine wc_ret ?_
            refine wq_blk_ret ?_
            refine wq_then_ret ?_
            refine wq_then_ret ?_
            refine wq_blk_ret ?_
            refine wq_then_ret ?_
            refine hret rfl ?_
            exact ⟨ret_no fun h => by have := (h.2.1 y (ix_mem hx)).2.2; omega, E⟩
          · skip
            refine wc_skip ?_
            refine wq_blk_norm ?_
            refine wq_then_norm (hK6 ?_)
            refine wc_region ?_
            refine wl_y (y_move rfl) rfl ?_
            refine wl_y (y_add rfl rfl (i64_ok (by omega) (by omega))) rfl ?_
            refine wl_y (y_assign rfl) rfl ?_
            refine wl_nil ?_
            refine wq_then_norm ?_
            refine hL1 _ _ ⟨i + 1, rfl, rfl, by omega, by omega, rfl, all_snoc hx hall ⟨by omega, by omega, by omega⟩⟩ (by omega) ⟨rfl, (by first | rfl | exact congrArg some (int_val (by omega))), trivial⟩
    · skip
      refine wc_exit ?_
      refine wq_then_exit ?_
      refine wq_then_exit ?_
      refine wq_blk_hit ?_
      refine wq_then_norm (hK2 ?_)
      refine wc_seq ?_; intro K11 hK11
      refine wc_region ?_
      refine wl_y (y_fieldAddr (o := 0) (s := 1) (off := 0) (o' := 0) rfl Try.underlying80 rfl (by kernel_rfl) rfl rfl) rfl ?_
      refine wl_y (y_load1 rfl Try.underlying78 rfl (B1.get (i := 0) rfl)) rfl ?_
      refine wl_y (y_len_slice rfl Try.underlying78) rfl ?_
      refine wl_yask (y_lss rfl rfl) rfl (fun z0 => ?_) (fun z0 => ?_)
      · skip
        refine wl_y (y_move rfl) rfl ?_
        refine wl_gy 49 rfl rfl (y_fieldAddr (o := 1) (s := 1) (off := 0) (o' := 1) rfl Try.underlying80 rfl (by kernel_rfl) rfl rfl) rfl ?_
        refine wl_gy 49 rfl rfl (y_load1 rfl Try.underlying22 rfl (B1.get (i := 1) rfl)) rfl ?_
        refine wl_gy 49 rfl rfl (y_len_slice rfl Try.underlying22) rfl ?_
        refine wl_gy 49 rfl rfl (y_leq rfl rfl) rfl ?_
        refine wl_y (y_pickt rfl rfl) rfl ?_
        refine wl_y (y_assign rfl) rfl ?_
        refine wl_nil ?_
        refine wq_then_norm (hK11 ?_)
        refine wc_ret ?_
        refine hret rfl ?_
        exact ⟨ret_bool ⟨fun h => ⟨by omega, all_full (by omega) hall, by omega⟩, fun h => by have := h.2.2; omega⟩, E⟩
      · skip
        refine wl_y (y_move rfl) rfl ?_
        refine wl_gno 49 rfl rfl rfl rfl ?_
        refine wl_gno 49 rfl rfl rfl rfl ?_
        refine wl_gno 49 rfl rfl rfl rfl ?_
        refine wl_gno 49 rfl rfl rfl rfl ?_
        refine wl_y (y_pickf rfl rfl) rfl ?_
        refine wl_y (y_assign rfl) rfl ?_
        refine wl_nil ?_
        refine wq_then_norm (hK11 ?_)
        refine wc_ret ?_
        refine hret rfl ?_
        exact ⟨ret_no fun h => by have := h.1; omega, E⟩
  · skip
    refine wl_y (y_move rfl) rfl ?_
    refine wl_gno 9 rfl rfl rfl rfl ?_
    refine wl_gno 9 rfl rfl rfl rfl ?_
    refine wl_y (y_pickf rfl rfl) rfl ?_
    refine wl_nil ?_
    refine wq_then_norm (hK5 ?_)
    refine wc_false rfl rfl ?_
    refine wc_exit ?_
    refine wq_then_exit ?_
    refine wq_then_exit ?_
    refine wq_blk_hit ?_
    refine wq_then_norm (hK2 ?_)
    refine wc_seq ?_; intro K12 hK12
    refine wc_region ?_
    refine wl_y (y_fieldAddr (o := 0) (s := 1) (off := 0) (o' := 0) rfl Try.underlying80 rfl (by kernel_rfl) rfl rfl) rfl ?_
    refine wl_y (y_load1 rfl Try.underlying78 rfl (B1.get (i := 0) rfl)) rfl ?_
    refine wl_y (y_len_slice rfl Try.underlying78) rfl ?_
    refine wl_yask (y_lss rfl rfl) rfl (fun z0 => ?_) (fun z0 => ?_)
    · skip
      refine wl_y (y_move rfl) rfl ?_
      refine wl_gy 49 rfl rfl (y_fieldAddr (o := 1) (s := 1) (off := 0) (o' := 1) rfl Try.underlying80 rfl (by kernel_rfl) rfl rfl) rfl ?_
      refine wl_gy 49 rfl rfl (y_load1 rfl Try.underlying22 rfl (B1.get (i := 1) rfl)) rfl ?_
      refine wl_gy 49 rfl rfl (y_len_slice rfl Try.underlying22) rfl ?_
      refine wl_gy 49 rfl rfl (y_leq rfl rfl) rfl ?_
      refine wl_y (y_pickt rfl rfl) rfl ?_
      refine wl_y (y_assign rfl) rfl ?_
      refine wl_nil ?_
      refine wq_then_norm (hK12 ?_)
      refine wc_ret ?_
      refine hret rfl ?_
      exact ⟨ret_bool ⟨fun h => ⟨by omega, all_full (by omega) hall, by omega⟩, fun h => by have := h.2.2; omega⟩, E⟩
    · skip
      refine wl_y (y_move rfl) rfl ?_
      refine wl_gno 49 rfl rfl rfl rfl ?_
      refine wl_gno 49 rfl rfl rfl rfl ?_
      refine wl_gno 49 rfl rfl rfl rfl ?_
      refine wl_gno 49 rfl rfl rfl rfl ?_
      refine wl_y (y_pickf rfl rfl) rfl ?_
      refine wl_y (y_assign rfl) rfl ?_
      refine wl_nil ?_
      refine wq_then_norm (hK12 ?_)
      refine wc_ret ?_
      refine hret rfl ?_
      exact ⟨ret_no fun h => by have := h.1; omega, E⟩
theorem sameWel_any {a b : Wel} (w : World) (H : WelAt w cs a) (K : WelAt w ds b) (hf : a.Fit) (hg : b.Fit) :
    Calls Try.prog 62 #[.agg cs, .agg ds] w fun e w' => e = .returned (.bool (decide (a = b))) ∧ Ext w w' := by
  obtain ⟨h0, h1, rfl, a0, a1⟩ := H
  obtain ⟨k0, k1, rfl, c0, c1⟩ := K
  have n1 := a0.1; have n2 := a1.1; have n3 := c0.1; have n4 := c1.1
  have f1 := hf.1; have f3 := hf.2.2; have f4 := hg.2.2
  have E := Ext.refl w
  refine vc_enter1 66 Try.func62 rfl rfl rfl rfl ?_
  intro Q hret
  refine wc_seq ?_; intro K1 hK1
  refine wc_region ?_
  refine wl_ef (ef_box rfl rfl) rfl ?_
  rintro _ wB2 ⟨gB2, rfl, B2, hgB2, ex⟩
  have lB2 := B2.lt; have zB2 := ex.size
  replace E := E.ext ex
  refine wl_ef (ef_box rfl rfl) rfl ?_
  rintro _ wB3 ⟨gB3, rfl, B3, hgB3, ex⟩
  have lB3 := B3.lt; have zB3 := ex.size
  replace E := E.ext ex
  replace B2 := B2.ext ex
  refine wl_y (y_assign rfl) rfl ?_
  refine wl_nil ?_
  refine wq_then_norm (hK1 ?_)
  refine wc_seq ?_; intro K2 hK2
  refine wc_seq ?_; intro K3 hK3
  refine wc_region ?_
  refine wl_y (y_fieldAddr (o := 0) (s := 1) (off := 0) (o' := 0) rfl Try.underlying80 rfl (by kernel_rfl) rfl rfl) rfl ?_
  refine wl_y (y_load1 rfl Try.underlying78 rfl (B2.get (i := 0) rfl)) rfl ?_
  refine wl_y (y_len_slice rfl Try.underlying78) rfl ?_
  refine wl_y (y_fieldAddr (o := 0) (s := 1) (off := 0) (o' := 0) rfl Try.underlying80 rfl (by kernel_rfl) rfl rfl) rfl ?_
  refine wl_y (y_load1 rfl Try.underlying78 rfl (B3.get (i := 0) rfl)) rfl ?_
  refine wl_y (y_len_slice rfl Try.underlying78) rfl ?_
  refine wl_yask (y_neq rfl rfl) rfl (fun p0 => ?_) (fun p0 => ?_)
  · skip
    refine wl_y (y_move rfl) rfl ?_
    refine wl_gno 15 rfl rfl rfl rfl ?_
    refine wl_gno 15 rfl rfl rfl rfl ?_
    refine wl_gno 15 rfl rfl rfl rfl ?_
    refine wl_gno 15 rfl rfl rfl rfl ?_
    refine wl_gno 15 rfl rfl rfl rfl ?_
    refine wl_gno 15 rfl rfl rfl rfl ?_
    refine wl_y (y_pickt rfl rfl) rfl ?_
    refine wl_nil ?_
    refine wq_then_norm (hK3 ?_)
    refine wc_true rfl rfl ?_
    refine wc_seq ?_; intro K4 hK4
    refine wc_region ?_
    refine wl_y (y_assign rfl) rfl ?_
    refine wl_nil ?_
    refine wq_then_norm (hK4 ?_)
    refine wc_ret ?_
    refine wq_then_ret ?_
    refine hret rfl ?_
    exact ⟨ret_no fun h => p0 (by rw [← n1, ← n3, h]), E⟩
  · skip
    refine wl_y (y_move rfl) rfl ?_
    refine wl_gy 15 rfl rfl (y_fieldAddr (o := 1) (s := 1) (off := 0) (o' := 1) rfl Try.underlying80 rfl (by kernel_rfl) rfl rfl) rfl ?_
    refine wl_gy 15 rfl rfl (y_load1 rfl Try.underlying22 rfl (B2.get (i := 1) rfl)) rfl ?_
    refine wl_gy 15 rfl rfl (y_fieldAddr (o := 1) (s := 1) (off := 0) (o' := 1) rfl Try.underlying80 rfl (by kernel_rfl) rfl rfl) rfl ?_
    refine wl_gy 15 rfl rfl (y_load1 rfl Try.underlying22 rfl (B3.get (i := 1) rfl)) rfl ?_
    refine wl_gcall 15 rfl rfl Try.func26 rfl rfl rfl (sm_any (Bs.ext a1 E) (Bs.ext c1 E) (by omega) (by omega)) rfl ?_
    rintro e w2 ⟨rfl, ex⟩
    refine ⟨_, rfl, ?_⟩
    replace E := E.ext ex
    replace B2 := B2.ext ex
    replace B3 := B3.ext ex
    skip
    refine wl_gy 15 rfl rfl (y_not rfl) rfl ?_
    refine wl_y (y_pickf rfl rfl) rfl ?_
    refine wl_nil ?_
    refine wq_then_norm (hK3 ?_)
    refine wc_cond rfl (fun hc1 => ?_) (fun hc1 => ?_)
    · skip
      refine wc_seq ?_; intro K5 hK5
      refine wc_region ?_
      refine wl_y (y_assign rfl) rfl ?_
      refine wl_nil ?_
      refine wq_then_norm (hK5 ?_)
      refine wc_ret ?_
      refine wq_then_ret ?_
      refine hret rfl ?_
      exact ⟨ret_no fun h => (by rw [decide_eq_true (wel_eq.1 h).2] at hc1; cases hc1), E⟩
    · skip
      refine wc_skip ?_
      refine wq_then_norm (hK2 ?_)
      refine wc_seq ?_; intro K6 hK6
      refine wc_seq ?_; intro K7 hK7
      have hin : a.info = b.info := by simpa using hc1
      have hlen : h0.n = k0.n := by omega
      have X := Ext.refl w2
      refine wc_region ?_
      refine wl_y (y_assign rfl) rfl ?_
      refine wl_nil ?_
      refine wq_then_norm (hK7 ?_)
      refine wc_block ?_
      refine wc_loop (fun n' L wr => ∃ (i : Nat), L = [(2, .pointer (some ⟨gB2, 0, none⟩)), (3, .pointer (some ⟨gB3, 0, none⟩)), (5, .int .i64 (i : Int))] ∧ n' = h0.n - i ∧ (i ≤ h0.n ∧ Ext w2 wr ∧ Ext w wr ∧ a.guests.take i = b.guests.take i)) _ _ ⟨0, rfl, rfl, by omega, X, E, by simp⟩ ⟨rfl, rfl, (by first | rfl | exact congrArg some (int_val (by omega))), trivial⟩ ?_
      rintro KL1 n' L wr ⟨i, rfl, rfl, hi, X, E, heq⟩ hL1
      have B2 := B2.ext X; have B3 := B3.ext X
      refine wc_seq ?_; intro K8 hK8
      refine wc_seq ?_; intro K9 hK9
      refine wc_region ?_
      refine wl_y (y_move rfl) rfl ?_
      refine wl_y (y_fieldAddr (o := 0) (s := 1) (off := 0) (o' := 0) rfl Try.underlying80 rfl (by kernel_rfl) rfl rfl) rfl ?_
      refine wl_y (y_load1 rfl Try.underlying78 rfl (B2.get (i := 0) rfl)) rfl ?_
      refine wl_y (y_len_slice rfl Try.underlying78) rfl ?_
      refine wl_y (y_lss rfl rfl) rfl ?_
      refine wl_nil ?_
      refine wq_then_norm (hK9 ?_)
      refine wc_dec rfl (fun hc2 => ?_) (fun hc2 => ?_)
      · skip
        obtain ⟨b1_, o1, cs1, x, e1, _, hx, hcz, hR, hcx⟩ := a0.get2 (by omega) (i := i) (by omega)
        obtain ⟨b2_, o2, cs2, y, e2, _, hy, hcw, hS, hcy⟩ := c0.get2 (by omega) (i := i) (by omega)
        obtain ⟨g0, g1, g2, rfl, u0, u1, u2⟩ := hR
        obtain ⟨d0, d1, d2, rfl, v0, v1, v2⟩ := hS
        have fx := hf.2.1 x (ix_mem hx); have fy := hg.2.1 y (ix_mem hy)
        have q0 := u0.1; have q1 := u1.1; have q2 := u2.1; have q3 := v0.1; have q4 := v1.1; have q5 := v2.1
        obtain ⟨r0, r1, r2⟩ := fx
        obtain ⟨r3, r4, r5⟩ := fy
        refine wc_skip ?_
        refine wq_then_norm (hK8 ?_)
        refine wc_seq ?_; intro K10 hK10
        refine wc_block ?_
        refine wc_seq ?_; intro K11 hK11
        refine wc_join (fun L wj6 => ∃ (p7 p8 : Nat), L = [(2, .pointer (some ⟨gB2, 0, none⟩)), (3, .pointer (some ⟨gB3, 0, none⟩)), (5, .int .i64 (i : Int)), (6, .pointer (some ⟨p7, 0, none⟩)), (7, .pointer (some ⟨p8, 0, none⟩))] ∧ (Ext w2 wj6 ∧ Ext w wj6 ∧ Blk wj6 p7 142 (thrV g0 g1 g2) ∧ Blk wj6 p8 142 (thrV d0 d1 d2))) ?_ ?_
        · skip
          refine wc_drawB (by kernel_rfl) 14 rfl ?_; intro wd6 ex hd6
          replace X := X.ext ex
          replace E := E.ext ex
          replace B2 := B2.ext ex
          replace B3 := B3.ext ex
          have X_0 := X
          have E_0 := E
          have B2_0 := B2
          have B3_0 := B3
          have X0 := Ext.refl wd6
          refine wn_y 0 rfl (by kernel_rfl) (y_fieldAddr (o := 0) (s := 1) (off := 0) (o' := 0) rfl Try.underlying80 rfl (by kernel_rfl) rfl rfl) rfl ?_
          refine wn_y 1 rfl (by kernel_rfl) (y_load1 rfl Try.underlying78 rfl (B2_0.get (i := 0) rfl)) rfl ?_
          refine wn_y 2 rfl (by kernel_rfl) (y_move rfl) rfl ?_
          refine wn_y 3 rfl (by kernel_rfl) (y_ixsE (s := 3) (j := i) e1 rfl rfl Try.underlying78 (by kernel_rfl) rfl (by omega)) rfl ?_
          refine wn_y 4 rfl (by kernel_rfl) (y_loadp (cs := thrV g0 g1 g2) rfl Try.underlying142 rfl (by kernel_rfl) fun j v hv => by rw [Addr.add_plain]; exact E_0.cellE (hcx j v hv)) rfl ?_
          refine wn_y 5 rfl (by kernel_rfl) (y_fieldAddr (o := 0) (s := 1) (off := 0) (o' := 0) rfl Try.underlying80 rfl (by kernel_rfl) rfl rfl) rfl ?_
          refine wn_y 6 rfl (by kernel_rfl) (y_load1 rfl Try.underlying78 rfl (B3_0.get (i := 0) rfl)) rfl ?_
          refine wn_y 7 rfl (by kernel_rfl) (y_move rfl) rfl ?_
          refine wn_y 8 rfl (by kernel_rfl) (y_ixsE (s := 3) (j := i) e2 rfl rfl Try.underlying78 (by kernel_rfl) rfl (by omega)) rfl ?_
          refine wn_y 9 rfl (by kernel_rfl) (y_loadp (cs := thrV d0 d1 d2) rfl Try.underlying142 rfl (by kernel_rfl) fun j v hv => by rw [Addr.add_plain]; exact E_0.cellE (hcy j v hv)) rfl ?_
          refine wf_start (fl := [flA 10 6 142 (thrV nilH nilH nilH), flA 11 7 142 (thrV nilH nilH nilH)]) rfl ?_
          refine wf_land2 ⟨(fall (flA_runs rfl (by kernel_rfl)) (fall (flA_runs rfl (by kernel_rfl)) fall_nil)), by decide, by decide, (fall (⟨rfl, by decide⟩) (fall (⟨rfl, by decide⟩) fall_nil)), (fall (mem_of_has (by kernel_rfl)) (fall (mem_of_has (by kernel_rfl)) fall_nil))⟩ (by kernel_rfl) ?_
          rintro _ _ wl6 ex ⟨⟨g7, rfl, Bg7⟩, hg7⟩ ⟨⟨g8, rfl, Bg8⟩, hg8⟩ farg7_g8
          replace hg7 := hg7 g7 rfl
          replace hg8 := hg8 g8 rfl
          have neg7_g8 : g7 ≠ g8 := fun e => farg7_g8 g7 rfl (by rw [e]; rfl)
          replace X := X.ext ex
          replace E := E.ext ex
          replace B2 := B2.ext ex
          replace B3 := B3.ext ex
          replace X0 := X0.ext ex
          refine wn_one 12 (by kernel_rfl) ?_
          refine on_ef rfl (ef_storeW rfl rfl (by kernel_rfl) Bg7 rfl (all_ones rfl)) rfl ?_
          rintro _ wn6_12 ⟨rfl, Bg7, cg⟩
          replace X0 := X0.chg cg hg7
          refine ⟨X0, ?_⟩
          replace X := X_0.ext X0
          replace E := E_0.ext X0
          replace B2 := B2_0.ext X0
          replace B3 := B3_0.ext X0
          replace Bg8 := Bg8.chg cg (by omega)
          refine wn_one 13 (by kernel_rfl) ?_
          refine on_ef rfl (ef_storeW rfl rfl (by kernel_rfl) Bg8 rfl (all_ones rfl)) rfl ?_
          rintro _ wn6_13 ⟨rfl, Bg8, cg⟩
          replace X0 := X0.chg cg hg8
          refine ⟨X0, ?_⟩
          replace X := X_0.ext X0
          replace E := E_0.ext X0
          replace B2 := B2_0.ext X0
          replace B3 := B3_0.ext X0
          replace Bg7 := Bg7.chg cg (by omega)
          refine wn_done (by kernel_rfl) ?_
          refine wq_nop ?_
          exact wq_join _ ⟨g7, g8, rfl, X, E, Bg7, Bg8⟩ ⟨rfl, rfl, (by first | rfl | exact congrArg some (int_val (by omega))), rfl, rfl, trivial⟩
        rintro L wj6 ⟨p7, p8, rfl, X, E, C7, C8⟩
        refine wq_then_norm (hK11 ?_)
        refine wc_seq ?_; intro K12 hK12
        refine wc_region ?_
        refine wl_y (y_fieldAddr (o := 0) (s := 1) (off := 0) (o' := 0) rfl Try.underlying142 rfl (by kernel_rfl) rfl rfl) rfl ?_
        refine wl_y (y_load1 rfl Try.underlying22 rfl (C7.get (i := 0) rfl)) rfl ?_
        refine wl_y (y_fieldAddr (o := 0) (s := 1) (off := 0) (o' := 0) rfl Try.underlying142 rfl (by kernel_rfl) rfl rfl) rfl ?_
        refine wl_y (y_load1 rfl Try.underlying22 rfl (C8.get (i := 0) rfl)) rfl ?_
        refine wl_call Try.func26 rfl rfl rfl (sm_any (Bs.ext u0 E) (Bs.ext v0 E) (by omega) (by omega)) rfl ?_
        rintro e w3 ⟨rfl, ex⟩
        refine ⟨_, rfl, ?_⟩
        replace X := X.ext ex
        replace E := E.ext ex
        replace C7 := C7.ext ex
        replace C8 := C8.ext ex
        skip
        refine wl_y (y_not rfl) rfl ?_
        refine wl_yaskb (y_move rfl) rfl (fun z0 => ?_) (fun z0 => ?_)
        · skip
          refine wl_gno 46 rfl rfl rfl rfl ?_
          refine wl_gno 46 rfl rfl rfl rfl ?_
          refine wl_gno 46 rfl rfl rfl rfl ?_
          refine wl_gno 46 rfl rfl rfl rfl ?_
          refine wl_gno 46 rfl rfl rfl rfl ?_
          refine wl_gno 46 rfl rfl rfl rfl ?_
          refine wl_gno 46 rfl rfl rfl rfl ?_
          refine wl_gno 46 rfl rfl rfl rfl ?_
          refine wl_y (y_pickt rfl rfl) rfl ?_
          refine wl_y (y_move rfl) rfl ?_
          refine wl_gno 56 rfl rfl rfl rfl ?_
          refine wl_gno 56 rfl rfl rfl rfl ?_
          refine wl_gno 56 rfl rfl rfl rfl ?_
          refine wl_gno 56 rfl rfl rfl rfl ?_
          refine wl_gno 56 rfl rfl rfl rfl ?_
          refine wl_gno 56 rfl rfl rfl rfl ?_
          refine wl_gno 56 rfl rfl rfl rfl ?_
          refine wl_gno 56 rfl rfl rfl rfl ?_
          refine wl_y (y_pickt rfl rfl) rfl ?_
          refine wl_nil ?_
          refine wq_then_norm (hK12 ?_)
          refine wc_true rfl rfl ?_
          refine wc_seq ?_; intro K13 hK13
          refine wc_region ?_
          refine wl_y (y_assign rfl) rfl ?_
          refine wl_nil ?_
          refine wq_then_norm (hK13 ?_)
          refine wc_ret ?_
          refine wq_blk_ret ?_
          refine wq_then_ret ?_
          refine wq_then_ret ?_
          refine wq_blk_ret ?_
          refine wq_then_ret ?_
          refine hret rfl ?_
          exact ⟨ret_no fun h => (by rw [decide_eq_true (gst_eq.1 (at_eq hx hy (wel_eq.1 h).1)).1] at z0; cases z0), E⟩
        · skip
          refine wl_gy 46 rfl rfl (y_fieldAddr (o := 1) (s := 2) (off := 0) (o' := 1) rfl Try.underlying142 rfl (by kernel_rfl) rfl rfl) rfl ?_
          refine wl_gy 46 rfl rfl (y_fieldAddr (o := 0) (s := 1) rfl Try.underlying111 rfl (by kernel_rfl) rfl rfl) rfl ?_
          refine wl_gy 46 rfl rfl (y_load1 rfl Try.underlying22 rfl (C7.get (i := 1) rfl)) rfl ?_
          refine wl_gy 46 rfl rfl (y_fieldAddr (o := 1) (s := 2) (off := 0) (o' := 1) rfl Try.underlying142 rfl (by kernel_rfl) rfl rfl) rfl ?_
          refine wl_gy 46 rfl rfl (y_fieldAddr (o := 0) (s := 1) rfl Try.underlying111 rfl (by kernel_rfl) rfl rfl) rfl ?_
          refine wl_gy 46 rfl rfl (y_load1 rfl Try.underlying22 rfl (C8.get (i := 1) rfl)) rfl ?_
          refine wl_gcall 46 rfl rfl Try.func26 rfl rfl rfl (sm_any (Bs.ext u1 E) (Bs.ext v1 E) (by omega) (by omega)) rfl ?_
          rintro e w4 ⟨rfl, ex⟩
          refine ⟨_, rfl, ?_⟩
          replace X := X.ext ex
          replace E := E.ext ex
          replace C7 := C7.ext ex
          replace C8 := C8.ext ex
          skip
          refine wl_gy 46 rfl rfl (y_not rfl) rfl ?_
          refine wl_y (y_pickf rfl rfl) rfl ?_
          refine wl_yaskb (y_move rfl) rfl (fun z1 => ?_) (fun z1 => ?_)
          · skip
            refine wl_gno 56 rfl rfl rfl rfl ?_
            refine wl_gno 56 rfl rfl rfl rfl ?_
            refine wl_gno 56 rfl rfl rfl rfl ?_
            refine wl_gno 56 rfl rfl rfl rfl ?_
            refine wl_gno 56 rfl rfl rfl rfl ?_
            refine wl_gno 56 rfl rfl rfl rfl ?_
            refine wl_gno 56 rfl rfl rfl rfl ?_
            refine wl_gno 56 rfl rfl rfl rfl ?_
            refine wl_y (y_pickt rfl rfl) rfl ?_
            refine wl_nil ?_
            refine wq_then_norm (hK12 ?_)
            refine wc_true rfl rfl ?_
            refine wc_seq ?_; intro K14 hK14
            refine wc_region ?_
            refine wl_y (y_assign rfl) rfl ?_
            refine wl_nil ?_
            refine wq_then_norm (hK14 ?_)
            refine wc_ret ?_
            refine wq_blk_ret ?_
            refine wq_then_ret ?_
            refine wq_then_ret ?_
            refine wq_blk_ret ?_
            refine wq_then_ret ?_
            refine hret rfl ?_
            exact ⟨ret_no fun h => (by rw [decide_eq_true (gst_eq.1 (at_eq hx hy (wel_eq.1 h).1)).2.1] at z1; cases z1), E⟩
          · skip
            refine wl_gy 56 rfl rfl (y_fieldAddr (o := 1) (s := 2) (off := 0) (o' := 1) rfl Try.underlying142 rfl (by kernel_rfl) rfl rfl) rfl ?_
            refine wl_gy 56 rfl rfl (y_fieldAddr (o := 1) (s := 1) rfl Try.underlying111 rfl (by kernel_rfl) rfl rfl) rfl ?_
            refine wl_gy 56 rfl rfl (y_load1 rfl Try.underlying22 rfl (C7.get (i := 2) rfl)) rfl ?_
            refine wl_gy 56 rfl rfl (y_fieldAddr (o := 1) (s := 2) (off := 0) (o' := 1) rfl Try.underlying142 rfl (by kernel_rfl) rfl rfl) rfl ?_
            refine wl_gy 56 rfl rfl (y_fieldAddr (o := 1) (s := 1) rfl Try.underlying111 rfl (by kernel_rfl) rfl rfl) rfl ?_
            refine wl_gy 56 rfl rfl (y_load1 rfl Try.underlying22 rfl (C8.get (i := 2) rfl)) rfl ?_
            refine wl_gcall 56 rfl rfl Try.func26 rfl rfl rfl (sm_any (Bs.ext u2 E) (Bs.ext v2 E) (by omega) (by omega)) rfl ?_
            rintro e w5 ⟨rfl, ex⟩
            refine ⟨_, rfl, ?_⟩
            replace X := X.ext ex
            replace E := E.ext ex
            replace C7 := C7.ext ex
            replace C8 := C8.ext ex
            skip
            refine wl_gy 56 rfl rfl (y_not rfl) rfl ?_
            refine wl_y (y_pickf rfl rfl) rfl ?_
            refine wl_nil ?_
            refine wq_then_norm (hK12 ?_)
            refine wc_cond rfl (fun hc3 => ?_) (fun hc3 => ?_)
            · skip
              refine wc_seq ?_; intro K15 hK15
              refine wc_region ?_
              refine wl_y (y_assign rfl) rfl ?_
              refine wl_nil ?_
              refine wq_then_norm (hK15 ?_)
              refine wc_ret ?_
              refine wq_blk_ret ?_
              refine wq_then_ret ?_
              refine wq_then_ret ?_
              refine wq_blk_ret ?_
              refine wq_then_ret ?_
              refine hret rfl ?_
              exact ⟨ret_no fun h => (by rw [decide_eq_true (gst_eq.1 (at_eq hx hy (wel_eq.1 h).1)).2.2] at hc3; cases hc3), E⟩
            · skip
              refine wc_skip ?_
              refine wq_blk_norm ?_
              refine wq_then_norm (hK10 ?_)
              refine wc_region ?_
              refine wl_y (y_move rfl) rfl ?_
              refine wl_y (y_add rfl rfl (i64_ok (by omega) (by omega))) rfl ?_
              refine wl_y (y_assign rfl) rfl ?_
              refine wl_nil ?_
              refine wq_then_norm ?_
              refine hL1 _ _ ⟨i + 1, rfl, rfl, by omega, X, E, take_eq_snoc hx hy heq (gst_eq.2 ⟨by simpa using z0, by simpa using z1, by simpa using hc3⟩)⟩ (by omega) ⟨rfl, rfl, (by first | rfl | exact congrArg some (int_val (by omega))), trivial⟩
      · skip
        refine wc_exit ?_
        refine wq_then_exit ?_
        refine wq_then_exit ?_
        refine wq_blk_hit ?_
        refine wq_then_norm (hK6 ?_)
        refine wc_seq ?_; intro K16 hK16
        refine wc_region ?_
        refine wl_y (y_assign rfl) rfl ?_
        refine wl_nil ?_
        refine wq_then_norm (hK16 ?_)
        refine wc_ret ?_
        refine hret rfl ?_
        exact ⟨ret_yes (wel_eq.2 ⟨eq_of_take heq (by omega) (by omega), hin⟩), E⟩
theorem rWelcome_any (w : World) (H : WelAt w cs x) (hf : x.guests.length ≤ 1000000) :
    Calls Try.prog 55 #[.agg cs] w fun e w' => e = .returned (.bool (decide (okWel x))) ∧ Ext w w' := by
  obtain ⟨h0, h1, rfl, a0, a1⟩ := H
  have l0 := a0.1
  have E := Ext.refl w
  refine vc_enter1 34 Try.func55 rfl rfl rfl rfl ?_
  intro Q hret
  refine wc_seq ?_; intro K1 hK1
  refine wc_region ?_
  refine wl_ef (ef_box rfl rfl) rfl ?_
  rintro _ wB1 ⟨gB1, rfl, B1, hgB1, ex⟩
  have lB1 := B1.lt; have zB1 := ex.size
  replace E := E.ext ex
  refine wl_y (y_assign rfl) rfl ?_
  refine wl_nil ?_
  refine wq_then_norm (hK1 ?_)
  refine wc_seq ?_; intro K2 hK2
  refine wc_seq ?_; intro K3 hK3
  refine wc_region ?_
  refine wl_y (y_assign rfl) rfl ?_
  refine wl_nil ?_
  refine wq_then_norm (hK3 ?_)
  refine wc_block ?_
  refine wc_loop (fun n' L wr => ∃ i : Nat, L = [(1, .pointer (some ⟨gB1, 0, none⟩)), (3, .int .i64 (i : Int))] ∧ n' = h0.n - i ∧ (i ≤ h0.n ∧ wr = wB1 ∧ ∀ y ∈ x.guests.take i, okGst y)) _ _ ⟨0, rfl, rfl, by omega, rfl, by simp⟩ ⟨rfl, (by first | rfl | exact congrArg some (int_val (by omega))), trivial⟩ ?_
  rintro KL1 n' L wr ⟨i, rfl, rfl, hi, rfl, hall⟩ hL1
  refine wc_seq ?_; intro K4 hK4
  refine wc_seq ?_; intro K5 hK5
  refine wc_region ?_
  refine wl_y (y_move rfl) rfl ?_
  refine wl_y (y_fieldAddr (o := 0) (s := 1) (off := 0) (o' := 0) rfl Try.underlying80 rfl (by kernel_rfl) rfl rfl) rfl ?_
  refine wl_y (y_load1 rfl Try.underlying78 rfl (B1.get (i := 0) rfl)) rfl ?_
  refine wl_y (y_len_slice rfl Try.underlying78) rfl ?_
  refine wl_y (y_lss rfl rfl) rfl ?_
  refine wl_nil ?_
  refine wq_then_norm (hK5 ?_)
  refine wc_dec rfl (fun hc1 => ?_) (fun hc1 => ?_)
  · skip
    refine wc_skip ?_
    refine wq_then_norm (hK4 ?_)
    refine wc_seq ?_; intro K6 hK6
    refine wc_block ?_
    refine wc_seq ?_; intro K7 hK7
    obtain ⟨b1, o1, cs1, y, e1, _, hx, hcz, hR, hcx⟩ := a0.get2 (by omega) (i := i) (by omega)
    obtain ⟨f0, f1, f2, rfl, v0, v1, v2⟩ := hR
    have m0 := v0.1; have m1 := v1.1; have m2 := v2.1
    refine wc_region ?_
    refine wl_y (y_fieldAddr (o := 0) (s := 1) (off := 0) (o' := 0) rfl Try.underlying80 rfl (by kernel_rfl) rfl rfl) rfl ?_
    refine wl_y (y_load1 rfl Try.underlying78 rfl (B1.get (i := 0) rfl)) rfl ?_
    refine wl_y (y_move rfl) rfl ?_
    refine wl_y (y_ixsE (s := 3) (j := i) e1 rfl rfl Try.underlying78 (by kernel_rfl) rfl (by omega)) rfl ?_
    refine wl_y (y_fieldAddr (o := 0) (s := 1) rfl Try.underlying142 rfl (by kernel_rfl) rfl rfl) rfl ?_
    refine wl_y (y_load1 rfl Try.underlying22 rfl (E.cellE (hcx 0 _ rfl))) rfl ?_
    refine wl_y (y_len_slice rfl Try.underlying22) rfl ?_
    refine wl_yask (y_neq rfl rfl) rfl (fun n0 => ?_) (fun n0 => ?_)
    · skip
      refine wl_y (y_move rfl) rfl ?_
      refine wl_gno 19 rfl rfl rfl rfl ?_
      refine wl_gno 19 rfl rfl rfl rfl ?_
      refine wl_gno 19 rfl rfl rfl rfl ?_
      refine wl_gno 19 rfl rfl rfl rfl ?_
      refine wl_gno 19 rfl rfl rfl rfl ?_
      refine wl_gno 19 rfl rfl rfl rfl ?_
      refine wl_gno 19 rfl rfl rfl rfl ?_
      refine wl_gno 19 rfl rfl rfl rfl ?_
      refine wl_gno 19 rfl rfl rfl rfl ?_
      refine wl_y (y_pickt rfl rfl) rfl ?_
      refine wl_nil ?_
      refine wq_then_norm (hK7 ?_)
      refine wc_true rfl rfl ?_
      refine wc_seq ?_; intro K8 hK8
      refine wc_region ?_
      refine wl_y (y_assign rfl) rfl ?_
      refine wl_nil ?_
      refine wq_then_norm (hK8 ?_)
      refine wc_ret ?_
      refine wq_blk_ret ?_
      refine wq_then_ret ?_
      refine wq_then_ret ?_
      refine wq_blk_ret ?_
      refine wq_then_ret ?_
      refine hret rfl ?_
      exact ⟨ret_no fun h => by have := (h.2 y (ix_mem hx)).1; omega, E⟩
    · skip
      refine wl_y (y_move rfl) rfl ?_
      refine wl_gy 19 rfl rfl (y_fieldAddr (o := 0) (s := 1) (off := 0) (o' := 0) rfl Try.underlying80 rfl (by kernel_rfl) rfl rfl) rfl ?_
      refine wl_gy 19 rfl rfl (y_load1 rfl Try.underlying78 rfl (B1.get (i := 0) rfl)) rfl ?_
      refine wl_gy 19 rfl rfl (y_move rfl) rfl ?_
      refine wl_gy 19 rfl rfl (y_ixsE (s := 3) (j := i) e1 rfl rfl Try.underlying78 (by kernel_rfl) rfl (by omega)) rfl ?_
      refine wl_gy 19 rfl rfl (y_fieldAddr (o := 1) (s := 2) rfl Try.underlying142 rfl (by kernel_rfl) rfl rfl) rfl ?_
      refine wl_gy 19 rfl rfl (y_fieldAddr (o := 0) (s := 1) rfl Try.underlying111 rfl (by kernel_rfl) rfl rfl) rfl ?_
      refine wl_gy 19 rfl rfl (y_load1 rfl Try.underlying22 rfl (E.cellE (hcx 1 _ rfl))) rfl ?_
      refine wl_gy 19 rfl rfl (y_len_slice rfl Try.underlying22) rfl ?_
      refine wl_gy 19 rfl rfl (y_neq rfl rfl) rfl ?_
      refine wl_y (y_pickf rfl rfl) rfl ?_
      refine wl_nil ?_
      refine wq_then_norm (hK7 ?_)
      refine wc_dec rfl (fun hc2 => ?_) (fun hc2 => ?_)
      · skip
        refine wc_seq ?_; intro K9 hK9
        refine wc_region ?_
        refine wl_y (y_assign rfl) rfl ?_
        refine wl_nil ?_
        refine wq_then_norm (hK9 ?_)
        refine wc_ret ?_
        refine wq_blk_ret ?_
        refine wq_then_ret ?_
        refine wq_then_ret ?_
        refine wq_blk_ret ?_
        refine wq_then_ret ?_
        refine hret rfl ?_
        exact ⟨ret_no fun h => by have := (h.2 y (ix_mem hx)).2; omega, E⟩
      · skip
        refine wc_skip ?_
        refine wq_blk_norm ?_
        refine wq_then_norm (hK6 ?_)
        refine wc_region ?_
        refine wl_y (y_move rfl) rfl ?_
        refine wl_y (y_add rfl rfl (i64_ok (by omega) (by omega))) rfl ?_
        refine wl_y (y_assign rfl) rfl ?_
        refine wl_nil ?_
        refine wq_then_norm ?_
        refine hL1 _ _ ⟨i + 1, rfl, rfl, by omega, rfl, all_snoc hx hall ⟨by omega, by omega⟩⟩ (by omega) ⟨rfl, (by first | rfl | exact congrArg some (int_val (by omega))), trivial⟩
  · skip
    refine wc_exit ?_
    refine wq_then_exit ?_
    refine wq_then_exit ?_
    refine wq_blk_hit ?_
    refine wq_then_norm (hK2 ?_)
    refine wc_seq ?_; intro K10 hK10
    refine wc_region ?_
    refine wl_y (y_fieldAddr (o := 0) (s := 1) (off := 0) (o' := 0) rfl Try.underlying80 rfl (by kernel_rfl) rfl rfl) rfl ?_
    refine wl_y (y_load1 rfl Try.underlying78 rfl (B1.get (i := 0) rfl)) rfl ?_
    refine wl_y (y_len_slice rfl Try.underlying78) rfl ?_
    refine wl_y (y_leq rfl rfl) rfl ?_
    refine wl_y (y_assign rfl) rfl ?_
    refine wl_nil ?_
    refine wq_then_norm (hK10 ?_)
    refine wc_ret ?_
    refine hret rfl ?_
    exact ⟨ret_bool ⟨fun h => ⟨by omega, all_full (by omega) hall⟩, fun h => by have := h.1; omega⟩, E⟩
end
end Go.Proofs.Ytpgalbgonmclaaa
