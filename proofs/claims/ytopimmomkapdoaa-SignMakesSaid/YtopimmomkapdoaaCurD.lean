/- Points of the curve as the program holds them: the base, sums, turned about, told apart, bytes, whether right. -/
import Derived.Test.YtopimmomkapdoaaCurA
namespace Go.Proofs.Ytopimmomkapdoaa
open Go.RowKit
section
attribute [local irreducible] Y Ef WL WC WK WQ WM OpM WN WF OpN
theorem PP.pc {cs : Array Value} {P : Fp.F × Fp.F} (h : PP cs P) : ∃ f1 f2 f3 f4 b, cs = Go.Proofs.Ytopimmomkapdoaa.pc f1 f2 f3 f4 b ∧ PP (Go.Proofs.Ytopimmomkapdoaa.pc f1 f2 f3 f4 b) P := by
  have h0 := h
  rcases h with ⟨f1, f2, f3, f4, q, rfl, h⟩ | ⟨f1, f2, f3, f4, rfl, h⟩
  · exact ⟨f1, f2, f3, f4, true, rfl, h0⟩
  · exact ⟨f1, f2, f3, f4, false, rfl, h0⟩
theorem flat_base : (if Fp.Sqr (Ed.sq (Fp.of 4 * Fp.inv (Fp.of 5))) then Fp.root (Ed.sq (Fp.of 4 * Fp.inv (Fp.of 5))) else 0) = Ed.B.1 ∧ Fp.of 4 * Fp.inv (Fp.of 5) = Ed.B.2 := by
  have h1 : Fp.of 4 * Fp.inv (Fp.of 5) = Ed.B.2 := (Ed.eq_div (by decide +kernel) (by decide +kernel)).symm
  refine ⟨?_, h1⟩
  rw [h1]
  have h2 : Ed.B.1 * Ed.B.1 = Ed.sq Ed.B.2 := Ed.on_iff.1 Ed.on_B
  have h3 := Fp.sqr_of h2
  rw [if_pos h3]
  have h4 := Fp.root_sq h3
  have h5 := Fp.root_even (Ed.sq Ed.B.2)
  rcases Fp.roots_two (h4.trans h2.symm) with e | e
  · exact e
  · exfalso
    rw [e] at h5
    have : (-Ed.B.1).val % 2 = 1 := by decide +kernel
    omega
theorem pbase_any (w : World) : Calls Try.prog 38 #[] w fun e w' => ∃ cs, e = .returned (.agg cs) ∧ PT cs Ed.B ∧ Ext w w' := by
  have E := Ext.refl w
  refine vc_enterc1 (s := 21) 16 Try.func38 rfl rfl rfl Try.underlying64 rfl (by kernel_rfl) rfl ?_
  intro Q hret
  refine wc_seq ?_; intro K1 hK1
  refine wc_region ?_
  refine wl_ef (ef_alloc (Z := pc zf zf zf zf false) (by kernel_rfl)) rfl ?_
  rintro _ w1 ⟨g0, rfl, B0, hg0, ex⟩
  replace E := E.ext ex
  skip
  refine wl_nil ?_
  refine wq_then_norm (hK1 ?_)
  refine wc_seq ?_; intro K2 hK2
  refine wc_region ?_
  refine wl_call Try.func92 rfl rfl rfl (Fnum_any 4 _ (by omega)) rfl ?_
  rintro e w2 ⟨c2, rfl, F2, ex⟩
  refine ⟨_, rfl, ?_⟩
  replace E := E.ext ex
  replace B0 := B0.ext ex
  skip
  refine wl_call Try.func92 rfl rfl rfl (Fnum_any 5 _ (by omega)) rfl ?_
  rintro e w3 ⟨c3, rfl, F3, ex⟩
  refine ⟨_, rfl, ?_⟩
  replace E := E.ext ex
  replace B0 := B0.ext ex
  skip
  refine wl_call Try.func94 rfl rfl rfl (Finv_any F3 _) rfl ?_
  rintro e w4 ⟨c4, rfl, F4, ex⟩
  refine ⟨_, rfl, ?_⟩
  replace E := E.ext ex
  replace B0 := B0.ext ex
  skip
  refine wl_call Try.func93 rfl rfl rfl (Fmul_any F2 F4 _) rfl ?_
  rintro e w5 ⟨c5, rfl, F5, ex⟩
  refine ⟨_, rfl, ?_⟩
  replace E := E.ext ex
  replace B0 := B0.ext ex
  obtain ⟨f5, rfl, F5⟩ := F5.fe
  have hz := E.size; have hl0 := B0.lt
  refine wl_ef (ef_alloc (Z := fe zf) (by kernel_rfl)) rfl ?_
  rintro _ w6 ⟨g6, rfl, B6, hg6, ex⟩
  replace E := E.ext ex
  replace B0 := B0.ext ex
  skip
  refine wl_ef (ef_storeW rfl rfl (by rw [fe_size]; kernel_rfl) B6 (by rw [fe_size, fe_size]) (fe_one _)) rfl ?_
  rintro _ w7 ⟨rfl, D6, cg⟩
  replace E := E.chg cg (by omega); replace B0 := B0.chg cg (by omega)
  refine wl_nil ?_
  refine wq_then_norm (hK2 ?_)
  refine wc_seq ?_; intro K3 hK3
  refine wc_region ?_
  refine wl_y (y_lE rfl D6) rfl ?_
  refine wl_call Try.func84 rfl rfl rfl (pflat_any F5 _) rfl ?_
  rintro e w8 ⟨f8, rfl, F8, ex⟩
  refine ⟨_, rfl, ?_⟩
  replace E := E.ext ex
  replace B0 := B0.ext ex
  replace D6 := D6.ext ex
  skip
  refine wl_y (y_move rfl) rfl ?_
  refine wl_y (y_extract rfl rfl) rfl ?_
  refine wl_y (y_extract rfl rfl) rfl ?_
  have hz2 := E.size; have hl0 := B0.lt; have hl6 := D6.lt
  refine wl_ef (ef_alloc (Z := fe zf) (by kernel_rfl)) rfl ?_
  rintro _ w9 ⟨g9, rfl, B9, hg9, ex⟩
  replace E := E.ext ex
  replace B0 := B0.ext ex
  replace D6 := D6.ext ex
  skip
  refine wl_ef (ef_storeW rfl rfl (by rw [fe_size]; kernel_rfl) B9 (by rw [fe_size, fe_size]) (fe_one _)) rfl ?_
  rintro _ w10 ⟨rfl, D9, cg⟩
  replace E := E.chg cg (by omega); replace B0 := B0.chg cg (by omega); replace D6 := D6.chg cg (by omega)
  refine wl_y (y_assign rfl) rfl ?_
  refine wl_nil ?_
  refine wq_then_norm (hK3 ?_)
  refine wc_seq ?_; intro K4 hK4
  refine wc_region ?_
  refine wl_y (y_lE rfl D9) rfl ?_
  refine wl_y (y_lE rfl D6) rfl ?_
  refine wl_call Try.func87 rfl rfl rfl (pof_any F8 F5 _) rfl ?_
  rintro e w11 ⟨c11, rfl, P11, ex⟩
  refine ⟨_, rfl, ?_⟩
  replace E := E.ext ex
  replace B0 := B0.ext ex
  replace D6 := D6.ext ex
  replace D9 := D9.ext ex
  skip
  refine wl_ef (ef_storeW rfl rfl (by rw [P11.size]; kernel_rfl) B0 (by rw [pc_size, P11.size]) P11.one) rfl ?_
  rintro _ w12 ⟨rfl, D0, cg⟩
  replace E := E.chg cg (by omega)
  refine wl_nil ?_
  refine wq_then_norm (hK4 ?_)
  refine wc_ret ?_
  refine hret rfl D0 P11.size ?_
  exact ⟨c11, rfl, P11.congr (by rw [flat_base.1, flat_base.2]), E⟩
theorem PT.get {cs : Array Value} {P : Fp.F × Fp.F} (h : PT cs P) : ∃ f1 f2 f3 f4, cs = pc f1 f2 f3 f4 true ∧ ∃ q : Ed.Q4, FE (fe f1) q.x ∧ FE (fe f2) q.y ∧ FE (fe f3) q.z ∧ FE (fe f4) q.t ∧ Ed.Rep q P := by
  obtain ⟨f1, f2, f3, f4, q, rfl, h⟩ := h; exact ⟨f1, f2, f3, f4, rfl, q, h⟩
theorem Padd_any {cs ds : Array Value} {P Q : Fp.F × Fp.F} (hP : PP cs P) (hQ : PP ds Q) (oP : Ed.On P) (oQ : Ed.On Q) (w : World) :
    Calls Try.prog 41 #[.agg cs, .agg ds] w fun e w' => ∃ es, e = .returned (.agg es) ∧ PT es (Ed.add P Q) ∧ Ext w w' := by
  obtain ⟨p1, p2, p3, p4, b, rfl, hP⟩ := hP.pc
  obtain ⟨q1, q2, q3, q4, c, rfl, hQ⟩ := hQ.pc
  have E := Ext.refl w
  refine vc_enterc1 (s := 21) 13 Try.func41 rfl rfl rfl Try.underlying64 rfl (by kernel_rfl) rfl ?_
  intro Q hret
  refine wc_seq ?_; intro K1 hK1
  refine wc_region ?_
  refine wl_ef (ef_box (cs := pc p1 p2 p3 p4 b) rfl rfl) rfl ?_
  rintro _ w1 ⟨g2, rfl, B2, hg2, ex⟩
  replace E := E.ext ex
  skip
  refine wl_ef (ef_box (cs := pc q1 q2 q3 q4 c) rfl rfl) rfl ?_
  rintro _ w2 ⟨g3, rfl, B3, hg3, ex⟩
  replace E := E.ext ex
  replace B2 := B2.ext ex
  skip
  have hz := E.size
  refine wl_ef (ef_alloc (Z := pc zf zf zf zf false) (by kernel_rfl)) rfl ?_
  rintro _ w3 ⟨g4, rfl, B4, hg4, ex⟩
  replace E := E.ext ex
  replace B2 := B2.ext ex
  replace B3 := B3.ext ex
  have hw4 : w.heap.size ≤ g4 := by omega
  refine wl_nil ?_
  refine wq_then_norm (hK1 ?_)
  refine wc_seq ?_; intro K2 hK2
  refine wc_draw (by kernel_rfl) 9 rfl ?_; intro wd1 ex hd1
  replace E := E.ext ex
  replace B2 := B2.ext ex
  replace B3 := B3.ext ex
  replace B4 := B4.ext ex
  refine wm_y 0 rfl (by kernel_rfl) (y_q rfl B2) rfl ?_
  refine wm_y 2 rfl (by kernel_rfl) (y_q rfl B3) rfl ?_
  refine wm_one 1 (by kernel_rfl) ?_; refine om_call rfl Try.func95 rfl rfl rfl (preal_any hP _) rfl ?_
  rintro e w5 ⟨c5, rfl, P5, ex⟩
  refine ⟨_, rfl, .inr ex, ?_⟩
  replace E := E.ext ex
  replace B2 := B2.ext ex
  replace B3 := B3.ext ex
  replace B4 := B4.ext ex
  obtain ⟨r1, r2, r3, r4, rfl, q5, R1, R2, R3, R4, R5⟩ := P5.get
  refine wm_one 3 (by kernel_rfl) ?_; refine om_call rfl Try.func95 rfl rfl rfl (preal_any hQ _) rfl ?_
  rintro e w6 ⟨c6, rfl, P6, ex⟩
  refine ⟨_, rfl, .inr ex, ?_⟩
  replace E := E.ext ex
  replace B2 := B2.ext ex
  replace B3 := B3.ext ex
  replace B4 := B4.ext ex
  obtain ⟨s1, s2, s3, s4, rfl, q6, S1, S2, S3, S4, S5⟩ := P6.get
  refine wm_one 4 (by kernel_rfl) ?_; refine om_call rfl Try.func97 rfl rfl rfl (pd_any _) rfl ?_
  rintro e w7 ⟨f7, rfl, F7, ex⟩
  refine ⟨_, rfl, .inr ex, ?_⟩
  replace E := E.ext ex
  replace B2 := B2.ext ex
  replace B3 := B3.ext ex
  replace B4 := B4.ext ex
  skip
  refine wm_one 5 (by kernel_rfl) ?_; refine om_call rfl Try.func97 rfl rfl rfl (pd_any _) rfl ?_
  rintro e w8 ⟨f8, rfl, F8, ex⟩
  refine ⟨_, rfl, .inr ex, ?_⟩
  replace E := E.ext ex
  replace B2 := B2.ext ex
  replace B3 := B3.ext ex
  replace B4 := B4.ext ex
  skip
  refine wm_one 6 (by kernel_rfl) ?_; refine om_call rfl Try.func98 rfl rfl rfl (Fadd_any F7 F8 _) rfl ?_
  rintro e w9 ⟨c9, rfl, F9, ex⟩
  refine ⟨_, rfl, .inr ex, ?_⟩
  replace E := E.ext ex
  replace B2 := B2.ext ex
  replace B3 := B3.ext ex
  replace B4 := B4.ext ex
  obtain ⟨f9, rfl, F9⟩ := F9.fe
  refine wm_one 7 (by kernel_rfl) ?_; refine om_call rfl Try.func99 rfl rfl rfl (padd_any R1 R2 R3 R4 S1 S2 S3 S4 F9 R5 S5 oP oQ _ _ _) rfl ?_
  rintro e w10 ⟨c10, rfl, P10, ex⟩
  refine ⟨_, rfl, .inr ex, ?_⟩
  replace E := E.ext ex
  replace B2 := B2.ext ex
  replace B3 := B3.ext ex
  replace B4 := B4.ext ex
  skip
  refine wm_one 8 (by kernel_rfl) ?_; refine om_ef rfl (ef_storeW rfl rfl (by rw [P10.size]; kernel_rfl) B4 (by rw [pc_size, P10.size]) P10.one) rfl ?_
  rintro _ w11 ⟨rfl, D4, cg⟩
  refine ⟨.inl rfl, ?_⟩
  have E4 := E.chg cg hw4
  refine wm_done (by kernel_rfl) ?_
  refine wq_nop ?_
  refine wq_then_norm (hK2 ?_)
  refine wc_ret ?_
  refine hret rfl D4 P10.size ?_
  exact ⟨c10, rfl, P10, E4⟩
end
section
attribute [local irreducible] Y Ef WL WC WK WQ WM OpM WN WF OpN
theorem fe_len (f : Nat → Nat) : (fe f).toList.length = 5 := by rw [Array.length_toList, fe_size]
theorem pc_put0 (f1 f2 f3 f4 n : Nat → Nat) (b : Bool) : ((pc f1 f2 f3 f4 b).toList.take 0 ++ (fe n).toList ++ (pc f1 f2 f3 f4 b).toList.drop (0 + (fe n).size)).toArray = pc n f2 f3 f4 b := by
  have h : (pc f1 f2 f3 f4 b).toList = (fe f1).toList ++ ((fe f2).toList ++ ((fe f3).toList ++ ((fe f4).toList ++ [.bool b]))) := by unfold pc; simp only [Array.toList_append, List.append_assoc]
  rw [h, fe_size, List.take_zero, List.drop_left' (by rw [fe_len])]
  apply Array.ext'
  unfold pc
  simp only [Array.toList_append, List.append_assoc, List.nil_append]
theorem pc_put3 (f1 f2 f3 f4 n : Nat → Nat) (b : Bool) : ((pc f1 f2 f3 f4 b).toList.take 15 ++ (fe n).toList ++ (pc f1 f2 f3 f4 b).toList.drop (15 + (fe n).size)).toArray = pc f1 f2 f3 n b := by
  have h : (pc f1 f2 f3 f4 b).toList = ((fe f1).toList ++ (fe f2).toList ++ (fe f3).toList) ++ ((fe f4).toList ++ [.bool b]) := by unfold pc; simp only [Array.toList_append, List.append_assoc]
  have h' : (pc f1 f2 f3 f4 b).toList = ((fe f1).toList ++ (fe f2).toList ++ (fe f3).toList ++ (fe f4).toList) ++ [.bool b] := by unfold pc; simp only [Array.toList_append]
  have e1 : (pc f1 f2 f3 f4 b).toList.take 15 = (fe f1).toList ++ (fe f2).toList ++ (fe f3).toList := by rw [h]; exact List.take_left' (by simp only [List.length_append, fe_len])
  have e2 : (pc f1 f2 f3 f4 b).toList.drop (15 + (fe n).size) = [.bool b] := by rw [h', fe_size]; exact List.drop_left' (by simp only [List.length_append, fe_len])
  rw [e1, e2]
  apply Array.ext'
  unfold pc
  simp only [Array.toList_append]
theorem rep_neg {q : Ed.Q4} {P : Fp.F × Fp.F} (h : Ed.Rep q P) : Ed.Rep ⟨-q.x, q.y, q.z, -q.t⟩ (Ed.neg P) := by
  obtain ⟨h1, h2, h3, h4⟩ := h
  refine ⟨h1, ?_, h3, ?_⟩
  · show -q.x = -P.1 * q.z
    rw [h2]; clear h1 h2 h3 h4; grind
  · show -q.t * q.z = -q.x * q.y
    clear h1 h2 h3; grind
theorem Psame_any {cs ds : Array Value} {P Q : Fp.F × Fp.F} (hP : PP cs P) (hQ : PP ds Q) (w : World) :
    Calls Try.prog 43 #[.agg cs, .agg ds] w fun e w' => e = .returned (.bool (decide (P = Q))) ∧ Ext w w' := by
  obtain ⟨p1, p2, p3, p4, b, rfl, hP⟩ := hP.pc
  obtain ⟨q1, q2, q3, q4, c, rfl, hQ⟩ := hQ.pc
  have E := Ext.refl w
  refine vc_enter1 33 Try.func43 rfl rfl rfl rfl ?_
  intro Q hret
  refine wc_seq ?_; intro K1 hK1
  refine wc_region ?_
  refine wl_ef (ef_box (cs := pc p1 p2 p3 p4 b) rfl rfl) rfl ?_
  rintro _ w1 ⟨g2, rfl, B2, hg2, ex⟩
  replace E := E.ext ex
  have hl2 := B2.lt; have hz := E.size
  refine wl_ef (ef_box (cs := pc q1 q2 q3 q4 c) rfl rfl) rfl ?_
  rintro _ w2 ⟨g3, rfl, B3, hg3, ex⟩
  replace E := E.ext ex
  replace B2 := B2.ext ex
  have hg23 : g2 ≠ g3 := (by omega); have hw2 : w.heap.size ≤ g2 := (by omega); have hw3 : w.heap.size ≤ g3 := (by omega)
  refine wl_y (y_assign rfl) rfl ?_
  refine wl_nil ?_
  refine wq_then_norm (hK1 ?_)
  refine wc_seq ?_; intro K2 hK2
  refine wc_draw (by kernel_rfl) 6 rfl ?_; intro wd1 ex hd1
  replace E := E.ext ex
  replace B2 := B2.ext ex
  replace B3 := B3.ext ex
  refine wm_y 0 rfl (by kernel_rfl) (y_q rfl B2) rfl ?_
  refine wm_y 2 rfl (by kernel_rfl) (y_q rfl B3) rfl ?_
  refine wm_one 1 (by kernel_rfl) ?_; refine om_call rfl Try.func95 rfl rfl rfl (preal_any hP _) rfl ?_
  rintro e w5 ⟨c5, rfl, P5, ex⟩
  refine ⟨_, rfl, .inr ex, ?_⟩
  replace E := E.ext ex
  replace B2 := B2.ext ex
  replace B3 := B3.ext ex
  obtain ⟨r1, r2, r3, r4, rfl, q5, R1, R2, R3, R4, R5⟩ := P5.get
  refine wm_one 3 (by kernel_rfl) ?_; refine om_call rfl Try.func95 rfl rfl rfl (preal_any hQ _) rfl ?_
  rintro e w6 ⟨c6, rfl, P6, ex⟩
  refine ⟨_, rfl, .inr ex, ?_⟩
  replace E := E.ext ex
  replace B2 := B2.ext ex
  replace B3 := B3.ext ex
  obtain ⟨s1, s2, s3, s4, rfl, q6, S1, S2, S3, S4, S5⟩ := P6.get
  refine wm_one 4 (by kernel_rfl) ?_; refine om_ef rfl (ef_storeW rfl rfl (by rw [pc_size]; kernel_rfl) B2 (by rw [pc_size, pc_size]) (pc_one _ _ _ _ _)) rfl ?_
  rintro _ w7 ⟨rfl, D2, cg⟩
  refine ⟨.inl rfl, ?_⟩
  replace E := E.chg cg hw2; replace B3 := B3.chg cg (by omega); replace B2 := D2
  refine wm_one 5 (by kernel_rfl) ?_; refine om_ef rfl (ef_storeW rfl rfl (by rw [pc_size]; kernel_rfl) B3 (by rw [pc_size, pc_size]) (pc_one _ _ _ _ _)) rfl ?_
  rintro _ w8 ⟨rfl, D3, cg⟩
  refine ⟨.inl rfl, ?_⟩
  replace E := E.chg cg hw3; replace B2 := B2.chg cg (by omega); replace B3 := D3
  refine wm_done (by kernel_rfl) ?_
  refine wq_nop ?_
  refine wq_then_norm (hK2 ?_)
  refine wc_seq ?_; intro K3 hK3
  refine wc_draw (by kernel_rfl) 25 rfl ?_; intro wd2 ex hd2
  replace E := E.ext ex
  replace B2 := B2.ext ex
  replace B3 := B3.ext ex
  refine wm_y 0 rfl (by kernel_rfl) (y_fieldAddr (o := 0) (s := 5) (off := 0) (o' := 0) rfl Try.underlying64 rfl (by kernel_rfl) rfl rfl) rfl ?_
  refine wm_y 1 rfl (by kernel_rfl) (y_q0 rfl B2) rfl ?_
  refine wm_y 2 rfl (by kernel_rfl) (y_fieldAddr (o := 10) (s := 5) (off := 0) (o' := 10) rfl Try.underlying64 rfl (by kernel_rfl) rfl rfl) rfl ?_
  refine wm_y 3 rfl (by kernel_rfl) (y_q2 rfl B3) rfl ?_
  refine wm_y 5 rfl (by kernel_rfl) (y_fieldAddr (o := 0) (s := 5) (off := 0) (o' := 0) rfl Try.underlying64 rfl (by kernel_rfl) rfl rfl) rfl ?_
  refine wm_y 6 rfl (by kernel_rfl) (y_q0 rfl B3) rfl ?_
  refine wm_y 7 rfl (by kernel_rfl) (y_fieldAddr (o := 10) (s := 5) (off := 0) (o' := 10) rfl Try.underlying64 rfl (by kernel_rfl) rfl rfl) rfl ?_
  refine wm_y 8 rfl (by kernel_rfl) (y_q2 rfl B2) rfl ?_
  refine wm_one 4 (by kernel_rfl) ?_; refine om_call rfl Try.func93 rfl rfl rfl (Fmul_any R1 S3 _) rfl ?_
  rintro e w9 ⟨c9, rfl, F9, ex⟩
  refine ⟨_, rfl, .inr ex, ?_⟩
  replace E := E.ext ex
  replace B2 := B2.ext ex
  replace B3 := B3.ext ex
  skip
  refine wm_one 9 (by kernel_rfl) ?_; refine om_call rfl Try.func93 rfl rfl rfl (Fmul_any S1 R3 _) rfl ?_
  rintro e w10 ⟨c10, rfl, F10, ex⟩
  refine ⟨_, rfl, .inr ex, ?_⟩
  replace E := E.ext ex
  replace B2 := B2.ext ex
  replace B3 := B3.ext ex
  skip
  refine wm_one 10 (by kernel_rfl) ?_; refine om_call rfl Try.func105 rfl rfl rfl (Fsame_any F9 F10 _) rfl ?_
  rintro e w11 ⟨rfl, ex⟩
  refine ⟨_, rfl, .inr ex, ?_⟩
  replace E := E.ext ex
  replace B2 := B2.ext ex
  replace B3 := B3.ext ex
  have hs := Ed.rep_same R5 S5
  refine wm_yask 11 rfl (by kernel_rfl) (y_move rfl) rfl (fun h1 => ?_) (fun h1 => ?_)
  · skip
    refine wm_gy 12 rfl (by kernel_rfl) 20 rfl rfl (y_fieldAddr (o := 5) (s := 5) (off := 0) (o' := 5) rfl Try.underlying64 rfl (by kernel_rfl) rfl rfl) rfl ?_
    refine wm_gy 13 rfl (by kernel_rfl) 20 rfl rfl (y_q1 rfl B2) rfl ?_
    refine wm_gy 14 rfl (by kernel_rfl) 20 rfl rfl (y_fieldAddr (o := 10) (s := 5) (off := 0) (o' := 10) rfl Try.underlying64 rfl (by kernel_rfl) rfl rfl) rfl ?_
    refine wm_gy 15 rfl (by kernel_rfl) 20 rfl rfl (y_q2 rfl B3) rfl ?_
    refine wm_gy 17 rfl (by kernel_rfl) 20 rfl rfl (y_fieldAddr (o := 5) (s := 5) (off := 0) (o' := 5) rfl Try.underlying64 rfl (by kernel_rfl) rfl rfl) rfl ?_
    refine wm_gy 18 rfl (by kernel_rfl) 20 rfl rfl (y_q1 rfl B3) rfl ?_
    refine wm_gy 19 rfl (by kernel_rfl) 20 rfl rfl (y_fieldAddr (o := 10) (s := 5) (off := 0) (o' := 10) rfl Try.underlying64 rfl (by kernel_rfl) rfl rfl) rfl ?_
    refine wm_gy 20 rfl (by kernel_rfl) 20 rfl rfl (y_q2 rfl B2) rfl ?_
    refine wm_one 16 (by kernel_rfl) ?_; refine om_gcall rfl 20 rfl rfl Try.func93 rfl rfl rfl (Fmul_any R2 S3 _) rfl ?_
    rintro e w12 ⟨c12, rfl, F12, ex⟩
    refine ⟨_, rfl, .inr ex, ?_⟩
    replace E := E.ext ex
    replace B2 := B2.ext ex
    replace B3 := B3.ext ex
    skip
    refine wm_one 21 (by kernel_rfl) ?_; refine om_gcall rfl 20 rfl rfl Try.func93 rfl rfl rfl (Fmul_any S2 R3 _) rfl ?_
    rintro e w13 ⟨c13, rfl, F13, ex⟩
    refine ⟨_, rfl, .inr ex, ?_⟩
    replace E := E.ext ex
    replace B2 := B2.ext ex
    replace B3 := B3.ext ex
    skip
    refine wm_one 22 (by kernel_rfl) ?_; refine om_gcall rfl 20 rfl rfl Try.func105 rfl rfl rfl (Fsame_any F12 F13 _) rfl ?_
    rintro e w14 ⟨rfl, ex⟩
    refine ⟨_, rfl, .inr ex, ?_⟩
    replace E := E.ext ex
    replace B2 := B2.ext ex
    replace B3 := B3.ext ex
    skip
    refine wm_y 23 rfl (by kernel_rfl) (y_pickt rfl rfl) rfl ?_
    refine wm_y 24 rfl (by kernel_rfl) (y_assign rfl) rfl ?_
    refine wm_done (by kernel_rfl) ?_
    refine wq_nop ?_
    refine wq_then_norm (hK3 ?_)
    refine wc_ret ?_
    refine hret rfl ?_
    exact ⟨by congr 3; exact propext ⟨fun h2 => hs.1 ⟨h1, h2⟩, fun h2 => (hs.2 h2).2⟩, E⟩
  · skip
    refine wm_gno 12 rfl (by kernel_rfl) 20 rfl rfl rfl rfl ?_
    refine wm_gno 13 rfl (by kernel_rfl) 20 rfl rfl rfl rfl ?_
    refine wm_gno 14 rfl (by kernel_rfl) 20 rfl rfl rfl rfl ?_
    refine wm_gno 15 rfl (by kernel_rfl) 20 rfl rfl rfl rfl ?_
    refine wm_gno 16 rfl (by kernel_rfl) 20 rfl rfl rfl rfl ?_
    refine wm_gno 17 rfl (by kernel_rfl) 20 rfl rfl rfl rfl ?_
    refine wm_gno 18 rfl (by kernel_rfl) 20 rfl rfl rfl rfl ?_
    refine wm_gno 19 rfl (by kernel_rfl) 20 rfl rfl rfl rfl ?_
    refine wm_gno 20 rfl (by kernel_rfl) 20 rfl rfl rfl rfl ?_
    refine wm_gno 21 rfl (by kernel_rfl) 20 rfl rfl rfl rfl ?_
    refine wm_gno 22 rfl (by kernel_rfl) 20 rfl rfl rfl rfl ?_
    refine wm_y 23 rfl (by kernel_rfl) (y_pickf rfl rfl) rfl ?_
    refine wm_y 24 rfl (by kernel_rfl) (y_assign rfl) rfl ?_
    refine wm_done (by kernel_rfl) ?_
    refine wq_nop ?_
    refine wq_then_norm (hK3 ?_)
    refine wc_ret ?_
    refine hret rfl ?_
    exact ⟨by congr 2; rw [decide_eq_false fun h2 => h1 (hs.2 h2).1], E⟩
end
section
attribute [local irreducible] Y Ef WL WC WK WQ WM OpM WN WF OpN
namespace Ed
open Fp
theorem num_set31 {l : List UInt8} (h : l.length = 32) (x : UInt8) : num (l.set 31 x) = num l % 256 ^ 31 + 256 ^ 31 * x.toNat := by
  have e : l.set 31 x = l.take 31 ++ [x] := by
    rw [List.set_eq_take_append_cons_drop, if_pos (by omega), List.drop_of_length_le (by omega)]
  have hl : (l.take 31).length = 31 := by rw [List.length_take]; omega
  rw [e, num_append, num_take _ _ (by omega), hl]
  simp only [num]
  omega
theorem top31 : top = 256 ^ 31 * 128 := by decide +kernel
theorem last_lt {x : Nat} (h : x < top) : ((le 32 x).getD 31 0).toNat < 128 ∧ x / 256 ^ 31 = ((le 32 x).getD 31 0).toNat := by
  have hl : (le 32 x).length = 32 := le_length 32 x
  have hn : num (le 32 x) = x := le_num 32 x (by rw [← top2]; omega)
  have h1 := num_drop (le 32 x) 31 (by omega)
  have e : (le 32 x).drop 31 = [(le 32 x).getD 31 0] := by
    rw [List.drop_eq_getElem_cons (by omega), List.drop_of_length_le (by omega), List.getD_eq_getElem?_getD, List.getElem?_eq_getElem (by omega)]; rfl
  rw [e, hn] at h1
  have h2 : ((le 32 x).getD 31 0).toNat = x / 256 ^ 31 := by rw [← h1]; simp [num]
  exact ⟨by rw [h2]; exact Nat.div_lt_of_lt_mul (by rw [← top31]; exact h), h2.symm⟩
theorem enc_even {P : F × F} (h : ¬ P.1.val % 2 = 1) : le 32 P.2.val = enc P := by
  unfold enc
  rw [show P.1.val % 2 = 0 by omega]; rfl
theorem enc_odd {P : F × F} (h : P.1.val % 2 = 1) {x : Nat} (hx : x = ((le 32 P.2.val).getD 31 0).toNat) : (le 32 P.2.val).set 31 (UInt8.ofNat (x + 128)) = enc P := by
  have hy := P.2.isLt
  have hpt := p_top
  obtain ⟨h1, h2⟩ := last_lt (x := P.2.val) (by omega)
  have hl : (le 32 P.2.val).length = 32 := le_length 32 _
  have hn : num (le 32 P.2.val) = P.2.val := le_num 32 _ (by rw [← top2]; omega)
  refine num_inj (by rw [List.length_set, hl, enc_length]) ?_
  rw [num_set31 hl, num_enc, hn, h, UInt8.toNat_ofNat', top31, Nat.mod_eq_of_lt (show x + 128 < 2 ^ 8 by omega)]
  have := Nat.mod_add_div P.2.val (256 ^ 31)
  rw [h2, ← hx] at this
  omega
end Ed
theorem rep_x {q : Ed.Q4} {P : Fp.F × Fp.F} (h : Ed.Rep q P) : q.x * Fp.inv q.z = P.1 := (Ed.eq_div h.1 h.2.1).symm
theorem rep_y {q : Ed.Q4} {P : Fp.F × Fp.F} (h : Ed.Rep q P) : q.y * Fp.inv q.z = P.2 := (Ed.eq_div h.1 h.2.2.1).symm
theorem u8_val {n : Nat} (h : n < 256) : ((UInt8.ofNat n).toNat : Int) = (n : Int) := by rw [UInt8.toNat_ofNat']; omega
theorem or128 : ∀ x : Fin 128, bits .or .u8 ((x.val : Nat) : Int) 128 = ((x.val + 128 : Nat) : Int) := by decide +kernel
theorem and127 : ∀ x : Fin 256, bits .and .u8 ((x.val : Nat) : Int) 127 = ((x.val % 128 : Nat) : Int) := by decide +kernel
theorem Pbytes_any {cs : Array Value} {P : Fp.F × Fp.F} (hP : PP cs P) (w : World) :
    Calls Try.prog 51 #[.agg cs] w fun e w' => ∃ g, e = .returned (.slice (some ⟨g, 0, none⟩) 32 32) ∧ w.heap.size ≤ g ∧ Blk w' g 5 (bys (Ed.enc P)) ∧ Ext w w' := by
  obtain ⟨p1, p2, p3, p4, b, rfl, hP⟩ := hP.pc
  have hpt := Ed.p_top
  have hy := P.2.isLt
  obtain ⟨x, hx⟩ : ∃ x, x = ((Fp.le 32 P.2.val).getD 31 0).toNat := ⟨_, rfl⟩
  have hx8 : x < 128 := hx ▸ (Ed.last_lt (x := P.2.val) (by omega)).1
  have hle : (Fp.le 32 P.2.val).length = 32 := Fp.le_length 32 _
  have E := Ext.refl w
  refine vc_enter1 26 Try.func51 rfl rfl rfl rfl ?_
  intro Q hret
  refine wc_seq ?_; intro K1 hK1
  refine wc_region ?_
  refine wl_ef (ef_box (cs := pc p1 p2 p3 p4 b) rfl rfl) rfl ?_
  rintro _ w1 ⟨g1, rfl, B1, hg1, ex⟩
  replace E := E.ext ex
  skip
  refine wl_y (y_assign rfl) rfl ?_
  refine wl_nil ?_
  refine wq_then_norm (hK1 ?_)
  refine wc_seq ?_; intro K2 hK2
  refine wc_region ?_
  refine wl_y (y_q rfl B1) rfl ?_
  refine wl_call Try.func95 rfl rfl rfl (preal_any hP _) rfl ?_
  rintro e w3 ⟨c3, rfl, P3, ex⟩
  refine ⟨_, rfl, ?_⟩
  replace E := E.ext ex
  replace B1 := B1.ext ex
  obtain ⟨f1, f2, f3, f4, rfl, q, F1, F2, F3, F4, R⟩ := P3.get
  refine wl_ef (ef_storeW rfl rfl (by rw [pc_size]; kernel_rfl) B1 (by rw [pc_size, pc_size]) (pc_one _ _ _ _ _)) rfl ?_
  rintro _ w4 ⟨rfl, D1, cg⟩
  replace E := E.chg cg (by omega)
  refine wl_nil ?_
  refine wq_then_norm (hK2 ?_)
  refine wc_seq ?_; intro K3 hK3
  refine wc_region ?_
  refine wl_y (y_fieldAddr (o := 10) (s := 5) (off := 0) (o' := 10) rfl Try.underlying64 rfl (by kernel_rfl) rfl rfl) rfl ?_
  refine wl_y (y_q2 rfl D1) rfl ?_
  refine wl_call Try.func94 rfl rfl rfl (Finv_any F3 _) rfl ?_
  rintro e w5 ⟨c5, rfl, FI, ex⟩
  refine ⟨_, rfl, ?_⟩
  replace E := E.ext ex
  replace D1 := D1.ext ex
  obtain ⟨fi, rfl, FI⟩ := FI.fe
  have hz := E.size; have hl := D1.lt
  refine wl_ef (ef_alloc (Z := fe zf) (by kernel_rfl)) rfl ?_
  rintro _ w6 ⟨g3, rfl, B3, hg3, ex⟩
  replace E := E.ext ex
  replace D1 := D1.ext ex
  skip
  refine wl_ef (ef_storeW rfl rfl (by rw [fe_size]; kernel_rfl) B3 (by rw [fe_size, fe_size]) (fe_one _)) rfl ?_
  rintro _ w7 ⟨rfl, D3, cg⟩
  replace E := E.chg cg (by omega); replace D1 := D1.chg cg (by omega)
  refine wl_nil ?_
  refine wq_then_norm (hK3 ?_)
  refine wc_seq ?_; intro K4 hK4
  refine wc_region ?_
  refine wl_y (y_fieldAddr (o := 5) (s := 5) (off := 0) (o' := 5) rfl Try.underlying64 rfl (by kernel_rfl) rfl rfl) rfl ?_
  refine wl_y (y_q1 rfl D1) rfl ?_
  refine wl_y (y_lE rfl D3) rfl ?_
  refine wl_call Try.func93 rfl rfl rfl (Fmul_any F2 FI _) rfl ?_
  rintro e w8 ⟨c8, rfl, FY, ex⟩
  refine ⟨_, rfl, ?_⟩
  replace E := E.ext ex
  replace D1 := D1.ext ex
  replace D3 := D3.ext ex
  rw [rep_y R] at FY
  have hz3 := E.size
  refine wl_call Try.func83 rfl rfl rfl (fbytes_any FY _) rfl ?_
  rintro e w9 ⟨g9, rfl, hg9, B9, ex⟩
  refine ⟨_, rfl, ?_⟩
  replace E := E.ext ex
  replace D1 := D1.ext ex
  replace D3 := D3.ext ex
  skip
  refine wl_y (y_assign rfl) rfl ?_
  refine wl_nil ?_
  refine wq_then_norm (hK4 ?_)
  refine wc_seq ?_; intro K5 hK5
  refine wc_seq ?_; intro K6 hK6
  refine wc_region ?_
  refine wl_y (y_fieldAddr (o := 0) (s := 5) (off := 0) (o' := 0) rfl Try.underlying64 rfl (by kernel_rfl) rfl rfl) rfl ?_
  refine wl_y (y_q0 rfl D1) rfl ?_
  refine wl_y (y_lE rfl D3) rfl ?_
  refine wl_call Try.func93 rfl rfl rfl (Fmul_any F1 FI _) rfl ?_
  rintro e w10 ⟨c10, rfl, FX, ex⟩
  refine ⟨_, rfl, ?_⟩
  replace E := E.ext ex
  replace D1 := D1.ext ex
  replace D3 := D3.ext ex
  replace B9 := B9.ext ex
  rw [rep_x R] at FX
  refine wl_call Try.func110 rfl rfl rfl (Fodd_any FX _) rfl ?_
  rintro e w11 ⟨rfl, ex⟩
  refine ⟨_, rfl, ?_⟩
  replace E := E.ext ex
  replace D1 := D1.ext ex
  replace D3 := D3.ext ex
  replace B9 := B9.ext ex
  skip
  refine wl_nil ?_
  refine wq_then_norm (hK6 ?_)
  refine wc_dec rfl (fun hc1 => ?_) (fun hc1 => ?_)
  · skip
    refine wc_region ?_
    refine wl_y (y_move rfl) rfl ?_
    refine wl_y (y_ixs1 rfl rfl Try.underlying22 (by kernel_rfl) (j := 31) rfl (by omega)) rfl ?_
    refine wl_y (y_load1 rfl Try.underlying5 rfl (B9.get (bys_get (i := 31) (by omega)))) rfl ?_
    refine wl_y (y_or rfl rfl (show bits .or .u8 _ 128 = ((x + 128 : Nat) : Int) by rw [← hx]; exact or128 ⟨x, hx8⟩)) rfl ?_
    refine wl_y (y_ixs1 rfl rfl Try.underlying22 (by kernel_rfl) (j := 31) rfl (by omega)) rfl ?_
    rw [← u8_val (n := x + 128) (by omega)]
    refine wl_ef (ef_storeB rfl rfl rfl (by kernel_rfl) B9 (by rw [bys_size]; omega)) rfl ?_
    rintro _ w12 ⟨rfl, D9, cg⟩
    replace E := E.chg cg (by omega); rw [bys_set, Ed.enc_odd hc1 hx] at D9
    refine wl_nil ?_
    refine wq_then_norm (hK5 ?_)
    refine wc_seq ?_; intro K7 hK7
    refine wc_region ?_
    refine wl_y (y_move rfl) rfl ?_
    refine wl_y (y_assign rfl) rfl ?_
    refine wl_nil ?_
    refine wq_then_norm (hK7 ?_)
    refine wc_ret ?_
    refine hret rfl ?_
    exact ⟨g9, rfl, by omega, D9, E⟩
  · skip
    refine wc_skip ?_
    refine wq_then_norm (hK5 ?_)
    refine wc_seq ?_; intro K8 hK8
    refine wc_region ?_
    refine wl_y (y_move rfl) rfl ?_
    refine wl_y (y_assign rfl) rfl ?_
    refine wl_nil ?_
    refine wq_then_norm (hK8 ?_)
    refine wc_ret ?_
    refine hret rfl ?_
    exact ⟨g9, rfl, by omega, B9.congr (by rw [Ed.enc_even hc1]), E⟩
theorem on_way {P : Fp.F × Fp.F} (h : Ed.On P) : P.2 * P.2 - P.1 * P.1 = Fp.of 1 + Ed.d * (P.1 * P.1) * (P.2 * P.2) := by
  have e : Fp.of 1 = 1 := rfl
  unfold Ed.On at h
  rw [e]
  generalize Ed.d = D at *
  grind
theorem Fnz_any {cs : Array Value} {a : Fp.F} (ha : FE cs a) (h : a ≠ 0) (w : World) : Calls Try.prog 85 #[.agg cs] w fun e w' => e = .returned (.bool false) ∧ Ext w w' :=
  (Fzero_any ha w).mono fun _ _ ⟨h1, h2⟩ => ⟨by rw [h1, decide_eq_false h], h2⟩
end
end Go.Proofs.Ytopimmomkapdoaa
