/- Points of the curve as the program holds them: the base, sums, turned about, told apart. -/
import Derived.Test.YtbcbihdfpkeacaaCurC
namespace Go.Proofs.Ytbcbihdfpkeacaa
open Go.RowKit
attribute [local irreducible] Y Ef WL WC WK WQ WM OpM WN WF OpN
theorem PP.pc {cs : Array Value} {P : Fp.F × Fp.F} (h : PP cs P) : ∃ f1 f2 f3 f4 b, cs = Go.Proofs.Ytbcbihdfpkeacaa.pc f1 f2 f3 f4 b ∧ PP (Go.Proofs.Ytbcbihdfpkeacaa.pc f1 f2 f3 f4 b) P := by
  have h0 := h
  rcases h with ⟨f1, f2, f3, f4, q, rfl, h⟩ | ⟨f1, f2, f3, f4, rfl, h⟩
  · exact ⟨f1, f2, f3, f4, true, rfl, h0⟩
  · exact ⟨f1, f2, f3, f4, false, rfl, h0⟩
theorem flat_base : (if Fp.Sqr (Ed.sq (Fp.of 4 * Fp.inv (Fp.of 5))) then Fp.root (Ed.sq (Fp.of 4 * Fp.inv (Fp.of 5))) else 0) = Ed.B.1 ∧ Fp.of 4 * Fp.inv (Fp.of 5) = Ed.B.2 := by
  have h1 : Fp.of 4 * Fp.inv (Fp.of 5) = Ed.B.2 := (Ed.eq_div (by decide +kernel) (by decide +kernel)).symm
  refine ⟨?_, h1⟩
  rw [h1]
  have h2 : Ed.B.1 * Ed.B.1 = Ed.sq Ed.B.2 := Ed.on_iff.1 Ed.on_B
  have h3 := Fp.sqr_of h2
  rw [if_pos h3]
  have h4 := Fp.root_sq h3
  have h5 := Fp.root_even (Ed.sq Ed.B.2)
  rcases Fp.roots_two (h4.trans h2.symm) with e | e
  · exact e
  · exfalso
    rw [e] at h5
    have : (-Ed.B.1).val % 2 = 1 := by decide +kernel
    omega
theorem pbase_any (w : World) : Calls Try.prog 77 #[] w fun e w' => ∃ cs, e = .returned (.agg cs) ∧ PT cs Ed.B ∧ Ext w w' := by
  have E := Ext.refl w
  refine vc_enterc1 (s := 21) 16 Try.func77 rfl rfl rfl Try.underlying67 rfl (by kernel_rfl) rfl ?_
  intro Q hret
  refine wc_seq ?_; intro K1 hK1
  refine wc_region ?_
  refine wl_ef (ef_alloc (Z := pc zf zf zf zf false) (by kernel_rfl)) rfl ?_
  rintro _ w1 ⟨g0, rfl, B0, hg0, ex⟩
  replace E := E.ext ex
  skip
  refine wl_nil ?_
  refine wq_then_norm (hK1 ?_)
  refine wc_seq ?_; intro K2 hK2
  refine wc_region ?_
  refine wl_call Try.func23 rfl rfl rfl (Fnum_any 4 _ (by omega)) rfl ?_
  rintro e w2 ⟨c2, rfl, F2, ex⟩
  refine ⟨_, rfl, ?_⟩
  replace E := E.ext ex
  replace B0 := B0.ext ex
  skip
  refine wl_call Try.func23 rfl rfl rfl (Fnum_any 5 _ (by omega)) rfl ?_
  rintro e w3 ⟨c3, rfl, F3, ex⟩
  refine ⟨_, rfl, ?_⟩
  replace E := E.ext ex
  replace B0 := B0.ext ex
  skip
  refine wl_call Try.func45 rfl rfl rfl (Finv_any F3 _) rfl ?_
  rintro e w4 ⟨c4, rfl, F4, ex⟩
  refine ⟨_, rfl, ?_⟩
  replace E := E.ext ex
  replace B0 := B0.ext ex
  skip
  refine wl_call Try.func30 rfl rfl rfl (Fmul_any F2 F4 _) rfl ?_
  rintro e w5 ⟨c5, rfl, F5, ex⟩
  refine ⟨_, rfl, ?_⟩
  replace E := E.ext ex
  replace B0 := B0.ext ex
  obtain ⟨f5, rfl, F5⟩ := F5.fe
  have hz := E.size; have hl0 := B0.lt
  refine wl_ef (ef_alloc (Z := fe zf) (by kernel_rfl)) rfl ?_
  rintro _ w6 ⟨g6, rfl, B6, hg6, ex⟩
  replace E := E.ext ex
  replace B0 := B0.ext ex
  skip
  refine wl_ef (ef_storeW rfl rfl (by rw [fe_size]; kernel_rfl) B6 (by rw [fe_size, fe_size]) (fe_one _)) rfl ?_
  rintro _ w7 ⟨rfl, D6, cg⟩
  replace E := E.chg cg (by omega); replace B0 := B0.chg cg (by omega)
  refine wl_nil ?_
  refine wq_then_norm (hK2 ?_)
  refine wc_seq ?_; intro K3 hK3
  refine wc_region ?_
  refine wl_y (y_lE rfl D6) rfl ?_
  refine wl_call Try.func125 rfl rfl rfl (pflat_any F5 _) rfl ?_
  rintro e w8 ⟨f8, rfl, F8, ex⟩
  refine ⟨_, rfl, ?_⟩
  replace E := E.ext ex
  replace B0 := B0.ext ex
  replace D6 := D6.ext ex
  skip
  refine wl_y (y_move rfl) rfl ?_
  refine wl_y (y_extract rfl rfl) rfl ?_
  refine wl_y (y_extract rfl rfl) rfl ?_
  have hz2 := E.size; have hl0 := B0.lt; have hl6 := D6.lt
  refine wl_ef (ef_alloc (Z := fe zf) (by kernel_rfl)) rfl ?_
  rintro _ w9 ⟨g9, rfl, B9, hg9, ex⟩
  replace E := E.ext ex
  replace B0 := B0.ext ex
  replace D6 := D6.ext ex
  skip
  refine wl_ef (ef_storeW rfl rfl (by rw [fe_size]; kernel_rfl) B9 (by rw [fe_size, fe_size]) (fe_one _)) rfl ?_
  rintro _ w10 ⟨rfl, D9, cg⟩
  replace E := E.chg cg (by omega); replace B0 := B0.chg cg (by omega); replace D6 := D6.chg cg (by omega)
  refine wl_y (y_assign rfl) rfl ?_
  refine wl_nil ?_
  refine wq_then_norm (hK3 ?_)
  refine wc_seq ?_; intro K4 hK4
  refine wc_region ?_
  refine wl_y (y_lE rfl D9) rfl ?_
  refine wl_y (y_lE rfl D6) rfl ?_
  refine wl_call Try.func126 rfl rfl rfl (pof_any F8 F5 _) rfl ?_
  rintro e w11 ⟨c11, rfl, P11, ex⟩
  refine ⟨_, rfl, ?_⟩
  replace E := E.ext ex
  replace B0 := B0.ext ex
  replace D6 := D6.ext ex
  replace D9 := D9.ext ex
  skip
  refine wl_ef (ef_storeW rfl rfl (by rw [P11.size]; kernel_rfl) B0 (by rw [pc_size, P11.size]) P11.one) rfl ?_
  rintro _ w12 ⟨rfl, D0, cg⟩
  replace E := E.chg cg (by omega)
  refine wl_nil ?_
  refine wq_then_norm (hK4 ?_)
  refine wc_ret ?_
  refine hret rfl D0 P11.size ?_
  exact ⟨c11, rfl, P11.congr (by rw [flat_base.1, flat_base.2]), E⟩
theorem PT.get {cs : Array Value} {P : Fp.F × Fp.F} (h : PT cs P) : ∃ f1 f2 f3 f4, cs = pc f1 f2 f3 f4 true ∧ ∃ q : Ed.Q4, FE (fe f1) q.x ∧ FE (fe f2) q.y ∧ FE (fe f3) q.z ∧ FE (fe f4) q.t ∧ Ed.Rep q P := by
  obtain ⟨f1, f2, f3, f4, q, rfl, h⟩ := h; exact ⟨f1, f2, f3, f4, rfl, q, h⟩
theorem Padd_any {cs ds : Array Value} {P Q : Fp.F × Fp.F} (hP : PP cs P) (hQ : PP ds Q) (oP : Ed.On P) (oQ : Ed.On Q) (w : World) :
    Calls Try.prog 71 #[.agg cs, .agg ds] w fun e w' => ∃ es, e = .returned (.agg es) ∧ PT es (Ed.add P Q) ∧ Ext w w' := by
  obtain ⟨p1, p2, p3, p4, b, rfl, hP⟩ := hP.pc
  obtain ⟨q1, q2, q3, q4, c, rfl, hQ⟩ := hQ.pc
  have E := Ext.refl w
  refine vc_enterc1 (s := 21) 13 Try.func71 rfl rfl rfl Try.underlying67 rfl (by kernel_rfl) rfl ?_
  intro Q hret
  refine wc_seq ?_; intro K1 hK1
  refine wc_region ?_
  refine wl_ef (ef_box (cs := pc p1 p2 p3 p4 b) rfl rfl) rfl ?_
  rintro _ w1 ⟨g2, rfl, B2, hg2, ex⟩
  replace E := E.ext ex
  skip
  refine wl_ef (ef_box (cs := pc q1 q2 q3 q4 c) rfl rfl) rfl ?_
  rintro _ w2 ⟨g3, rfl, B3, hg3, ex⟩
  replace E := E.ext ex
  replace B2 := B2.ext ex
  skip
  have hz := E.size
  refine wl_ef (ef_alloc (Z := pc zf zf zf zf false) (by kernel_rfl)) rfl ?_
  rintro _ w3 ⟨g4, rfl, B4, hg4, ex⟩
  replace E := E.ext ex
  replace B2 := B2.ext ex
  replace B3 := B3.ext ex
  have hw4 : w.heap.size ≤ g4 := by omega
  refine wl_nil ?_
  refine wq_then_norm (hK1 ?_)
  refine wc_seq ?_; intro K2 hK2
  refine wc_draw (by kernel_rfl) 9 rfl ?_; intro wd1 ex hd1
  replace E := E.ext ex
  replace B2 := B2.ext ex
  replace B3 := B3.ext ex
  replace B4 := B4.ext ex
  refine wm_y 0 rfl (by kernel_rfl) (y_q rfl B2) rfl ?_
  refine wm_y 2 rfl (by kernel_rfl) (y_q rfl B3) rfl ?_
  refine wm_one 1 (by kernel_rfl) ?_; refine om_call rfl Try.func127 rfl rfl rfl (preal_any hP _) rfl ?_
  rintro e w5 ⟨c5, rfl, P5, ex⟩
  refine ⟨_, rfl, .inr ex, ?_⟩
  replace E := E.ext ex
  replace B2 := B2.ext ex
  replace B3 := B3.ext ex
  replace B4 := B4.ext ex
  obtain ⟨r1, r2, r3, r4, rfl, q5, R1, R2, R3, R4, R5⟩ := P5.get
  refine wm_one 3 (by kernel_rfl) ?_; refine om_call rfl Try.func127 rfl rfl rfl (preal_any hQ _) rfl ?_
  rintro e w6 ⟨c6, rfl, P6, ex⟩
  refine ⟨_, rfl, .inr ex, ?_⟩
  replace E := E.ext ex
  replace B2 := B2.ext ex
  replace B3 := B3.ext ex
  replace B4 := B4.ext ex
  obtain ⟨s1, s2, s3, s4, rfl, q6, S1, S2, S3, S4, S5⟩ := P6.get
  refine wm_one 4 (by kernel_rfl) ?_; refine om_call rfl Try.func129 rfl rfl rfl (pd_any _) rfl ?_
  rintro e w7 ⟨f7, rfl, F7, ex⟩
  refine ⟨_, rfl, .inr ex, ?_⟩
  replace E := E.ext ex
  replace B2 := B2.ext ex
  replace B3 := B3.ext ex
  replace B4 := B4.ext ex
  skip
  refine wm_one 5 (by kernel_rfl) ?_; refine om_call rfl Try.func129 rfl rfl rfl (pd_any _) rfl ?_
  rintro e w8 ⟨f8, rfl, F8, ex⟩
  refine ⟨_, rfl, .inr ex, ?_⟩
  replace E := E.ext ex
  replace B2 := B2.ext ex
  replace B3 := B3.ext ex
  replace B4 := B4.ext ex
  skip
  refine wm_one 6 (by kernel_rfl) ?_; refine om_call rfl Try.func25 rfl rfl rfl (Fadd_any F7 F8 _) rfl ?_
  rintro e w9 ⟨c9, rfl, F9, ex⟩
  refine ⟨_, rfl, .inr ex, ?_⟩
  replace E := E.ext ex
  replace B2 := B2.ext ex
  replace B3 := B3.ext ex
  replace B4 := B4.ext ex
  obtain ⟨f9, rfl, F9⟩ := F9.fe
  refine wm_one 7 (by kernel_rfl) ?_; refine om_call rfl Try.func130 rfl rfl rfl (padd_any R1 R2 R3 R4 S1 S2 S3 S4 F9 R5 S5 oP oQ _ _ _) rfl ?_
  rintro e w10 ⟨c10, rfl, P10, ex⟩
  refine ⟨_, rfl, .inr ex, ?_⟩
  replace E := E.ext ex
  replace B2 := B2.ext ex
  replace B3 := B3.ext ex
  replace B4 := B4.ext ex
  skip
  refine wm_one 8 (by kernel_rfl) ?_; refine om_ef rfl (ef_storeW rfl rfl (by rw [P10.size]; kernel_rfl) B4 (by rw [pc_size, P10.size]) P10.one) rfl ?_
  rintro _ w11 ⟨rfl, D4, cg⟩
  refine ⟨.inl rfl, ?_⟩
  have E4 := E.chg cg hw4
  refine wm_done (by kernel_rfl) ?_
  refine wq_nop ?_
  refine wq_then_norm (hK2 ?_)
  refine wc_ret ?_
  refine hret rfl D4 P10.size ?_
  exact ⟨c10, rfl, P10, E4⟩
end Go.Proofs.Ytbcbihdfpkeacaa
