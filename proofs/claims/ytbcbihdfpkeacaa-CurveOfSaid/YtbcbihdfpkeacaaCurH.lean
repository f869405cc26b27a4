/- The law CurveLaws: it answers true whatever it is given. -/
import Derived.Test.YtbcbihdfpkeacaaCurG
namespace Go.Proofs.Ytbcbihdfpkeacaa
open Go.RowKit
attribute [local irreducible] Y Ef WL WC WK WQ WM OpM WN WF OpN
theorem encB : Ed.enc Ed.B = (88 : UInt8) :: List.replicate 31 (102 : UInt8) := by decide +kernel
theorem alive9_any (w : World) : Calls Try.prog 63 #[] w fun e w' => e = .returned (.bool true) ∧ Ext w w' := by
  have E := Ext.refl w
  refine vc_enter1 36 Try.func63 rfl rfl rfl rfl ?_
  intro Q hret
  refine wc_seq ?_; intro K1 hK1
  refine wc_region ?_
  refine wl_y (y_assign rfl) rfl ?_
  refine wl_nil ?_
  refine wq_then_norm (hK1 ?_)
  refine wc_seq ?_; intro K2 hK2
  refine wc_region ?_
  refine wl_call Try.func77 rfl rfl rfl (pbase_any _) rfl ?_
  rintro e w1 ⟨c1, rfl, P1, ex⟩
  refine ⟨_, rfl, ?_⟩
  replace E := E.ext ex
  skip
  refine wl_call Try.func69 rfl rfl rfl (Pbytes_any P1.pp _) rfl ?_
  rintro e w2 ⟨g2, rfl, hg2, B2, ex⟩
  refine ⟨_, rfl, ?_⟩
  replace E := E.ext ex
  rw [encB] at B2; have H2 : Bs w2 (some ⟨g2, 0, none⟩) 32 ((88 : UInt8) :: List.replicate 31 (102 : UInt8)) := bs_blk' B2 rfl
  refine wl_y (y_assign rfl) rfl ?_
  refine wl_nil ?_
  refine wq_then_norm (hK2 ?_)
  refine wc_seq ?_; intro K3 hK3
  refine wc_seq ?_; intro K4 hK4
  refine wc_region ?_
  obtain ⟨x0, hx0, hc0⟩ := H2.byteAt (k := 0) (by omega)
  have hb0 : x0 = 88 := hx0.out
  refine wl_y (y_move rfl) rfl ?_
  refine wl_y (y_len_slice rfl Try.underlying22) rfl ?_
  refine wl_y (y_neq rfl rfl) rfl ?_
  refine wl_y (Y.as (y_move rfl) (congrArg Value.bool (decide_eq_false (by omega)))) rfl ?_
  refine wl_gy 10 rfl rfl (y_move rfl) rfl ?_
  refine wl_gy 10 rfl rfl (y_ixs1 rfl rfl Try.underlying22 (by kernel_rfl) (j := 0) rfl (by omega)) rfl ?_
  refine wl_gy 10 rfl rfl (y_load1 rfl Try.underlying5 rfl hc0) rfl ?_
  refine wl_gy 10 rfl rfl (y_neq rfl rfl) rfl ?_
  refine wl_y (y_pickf rfl rfl) rfl ?_
  refine wl_nil ?_
  refine wq_then_norm (hK4 ?_)
  refine wc_no rfl (by subst hb0; decide) ?_
  refine wc_skip ?_
  refine wq_then_norm (hK3 ?_)
  refine wc_seq ?_; intro K5 hK5
  refine wc_seq ?_; intro K6 hK6
  refine wc_region ?_
  refine wl_y (y_assign rfl) rfl ?_
  refine wl_nil ?_
  refine wq_then_norm (hK6 ?_)
  refine wc_block ?_
  refine wc_loop (fun n' L wr => ∃ (i : Nat), L = [(1, .slice (some ⟨g2, 0, none⟩) 32 32), (2, .int .i64 (i : Int))] ∧ n' = 32 - i ∧ (1 ≤ i ∧ i ≤ 32 ∧ Ext w wr ∧ Bs wr (some ⟨g2, 0, none⟩) 32 ((88 : UInt8) :: List.replicate 31 (102 : UInt8)))) _ _ ⟨1, rfl, rfl, by omega, by omega, E, H2⟩ ⟨rfl, (by first | rfl | exact congrArg some (int_val (by omega))), trivial⟩ ?_
  rintro KL1 n' L wr ⟨i, rfl, rfl, hi1, hi, E, H2⟩ hL1
  refine wc_seq ?_; intro K7 hK7
  refine wc_seq ?_; intro K8 hK8
  refine wc_region ?_
  refine wl_y (y_move rfl) rfl ?_
  refine wl_y (y_lss rfl rfl) rfl ?_
  refine wl_nil ?_
  refine wq_then_norm (hK8 ?_)
  refine wc_dec rfl (fun hc2 => ?_) (fun hc2 => ?_)
  · skip
    refine wc_skip ?_
    refine wq_then_norm (hK7 ?_)
    refine wc_seq ?_; intro K9 hK9
    refine wc_block ?_
    refine wc_seq ?_; intro K10 hK10
    refine wc_region ?_
    obtain ⟨xi, hxi, hci⟩ := H2.byteAt (k := i) (by omega)
    have hbi : xi = 102 := hxi.out.trans (by obtain ⟨k, rfl⟩ : ∃ k, i = k + 1 := ⟨i - 1, by omega⟩; rw [List.getD_cons_succ, List.getD_eq_getElem?_getD, List.getElem?_replicate_of_lt (by omega)]; rfl)
    refine wl_y (y_move rfl) rfl ?_
    refine wl_y (y_move rfl) rfl ?_
    refine wl_y (y_ixs1 rfl rfl Try.underlying22 (by kernel_rfl) rfl (by omega)) rfl ?_
    refine wl_y (y_load1 rfl Try.underlying5 rfl hci) rfl ?_
    refine wl_y (y_neq rfl rfl) rfl ?_
    refine wl_nil ?_
    refine wq_then_norm (hK10 ?_)
    refine wc_no rfl (by subst hbi; decide) ?_
    refine wc_skip ?_
    refine wq_blk_norm ?_
    refine wq_then_norm (hK9 ?_)
    refine wc_region ?_
    refine wl_y (y_move rfl) rfl ?_
    refine wl_y (y_add rfl rfl (i64_ok (by omega) (by omega))) rfl ?_
    refine wl_y (y_assign rfl) rfl ?_
    refine wl_nil ?_
    refine wq_then_norm ?_
    refine hL1 _ _ ⟨i + 1, rfl, rfl, by omega, by omega, E, H2⟩ (by omega) ⟨rfl, (by first | rfl | exact congrArg some (int_val (by omega))), trivial⟩
  · skip
    refine wc_exit ?_
    refine wq_then_exit ?_
    refine wq_then_exit ?_
    refine wq_blk_hit ?_
    refine wq_then_norm (hK5 ?_)
    refine wc_seq ?_; intro K11 hK11
    refine wc_region ?_
    refine wl_call Try.func64 rfl rfl rfl (Pof_any none 0 0 [] _ (Bs.nil _ _)) rfl ?_
    rintro e w3 ⟨c3, rfl, P3, ex⟩
    refine ⟨_, rfl, ?_⟩
    replace E := E.ext ex
    replace H2 := H2.ext ex
    skip
    refine wl_y (y_move rfl) rfl ?_
    refine wl_y (y_extract rfl rfl) rfl ?_
    refine wl_y (y_extract rfl rfl) rfl ?_
    have hz := E.size
    refine wl_ef (ef_alloc (Z := pc zf zf zf zf false) (by kernel_rfl)) rfl ?_
    rintro _ w4 ⟨g4, rfl, B4, hg4, ex⟩
    replace E := E.ext ex
    replace H2 := H2.ext ex
    skip
    refine wl_ef (ef_storeW rfl rfl (by rw [P3.size]; kernel_rfl) B4 (by rw [pc_size, P3.size]) P3.one) rfl ?_
    rintro _ w5 ⟨rfl, D4, cg⟩
    replace E := E.chg cg (by omega)
    refine wl_y (y_assign rfl) rfl ?_
    refine wl_nil ?_
    refine wq_then_norm (hK11 ?_)
    refine wc_seq ?_; intro K12 hK12
    refine wc_region ?_
    refine wl_y (y_move rfl) rfl ?_
    refine wl_y (y_not rfl) rfl ?_
    refine wl_y (y_move rfl) rfl ?_
    refine wl_gy 31 rfl rfl (y_build rfl (cells := pc zf zf zf zf false) (by kernel_rfl)) rfl ?_
    refine wl_gcall 31 rfl rfl Try.func66 rfl rfl rfl (pnothing_any _) rfl ?_
    rintro e w6 ⟨c6, rfl, P6, ex⟩
    refine ⟨_, rfl, ?_⟩
    replace E := E.ext ex
    skip
    refine wl_gcall 31 rfl rfl Try.func65 rfl rfl rfl (Psame_any PP.zero P6.pp _) rfl ?_
    rintro e w7 ⟨rfl, ex⟩
    refine ⟨_, rfl, ?_⟩
    replace E := E.ext ex
    skip
    refine wl_y (y_pickt rfl rfl) rfl ?_
    refine wl_y (y_assign rfl) rfl ?_
    refine wl_nil ?_
    refine wq_then_norm (hK12 ?_)
    refine wc_ret ?_
    refine hret rfl ?_
    exact ⟨rfl, E⟩
end Go.Proofs.Ytbcbihdfpkeacaa
