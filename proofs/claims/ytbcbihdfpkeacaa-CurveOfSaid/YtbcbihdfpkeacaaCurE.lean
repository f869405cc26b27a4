/- Points of the curve as the program holds them: turned about, told apart. -/
import Derived.Test.YtbcbihdfpkeacaaCurD
namespace Go.Proofs.Ytbcbihdfpkeacaa
open Go.RowKit
attribute [local irreducible] Y Ef WL WC WK WQ WM OpM WN WF OpN
theorem fe_len (f : Nat → Nat) : (fe f).toList.length = 5 := by rw [Array.length_toList, fe_size]
theorem pc_put0 (f1 f2 f3 f4 n : Nat → Nat) (b : Bool) : ((pc f1 f2 f3 f4 b).toList.take 0 ++ (fe n).toList ++ (pc f1 f2 f3 f4 b).toList.drop (0 + (fe n).size)).toArray = pc n f2 f3 f4 b := by
  have h : (pc f1 f2 f3 f4 b).toList = (fe f1).toList ++ ((fe f2).toList ++ ((fe f3).toList ++ ((fe f4).toList ++ [.bool b]))) := by unfold pc; simp only [Array.toList_append, List.append_assoc]
  rw [h, fe_size, List.take_zero, List.drop_left' (by rw [fe_len])]
  apply Array.ext'
  unfold pc
  simp only [Array.toList_append, List.append_assoc, List.nil_append]
theorem pc_put3 (f1 f2 f3 f4 n : Nat → Nat) (b : Bool) : ((pc f1 f2 f3 f4 b).toList.take 15 ++ (fe n).toList ++ (pc f1 f2 f3 f4 b).toList.drop (15 + (fe n).size)).toArray = pc f1 f2 f3 n b := by
  have h : (pc f1 f2 f3 f4 b).toList = ((fe f1).toList ++ (fe f2).toList ++ (fe f3).toList) ++ ((fe f4).toList ++ [.bool b]) := by unfold pc; simp only [Array.toList_append, List.append_assoc]
  have h' : (pc f1 f2 f3 f4 b).toList = ((fe f1).toList ++ (fe f2).toList ++ (fe f3).toList ++ (fe f4).toList) ++ [.bool b] := by unfold pc; simp only [Array.toList_append]
  have e1 : (pc f1 f2 f3 f4 b).toList.take 15 = (fe f1).toList ++ (fe f2).toList ++ (fe f3).toList := by rw [h]; exact List.take_left' (by simp only [List.length_append, fe_len])
  have e2 : (pc f1 f2 f3 f4 b).toList.drop (15 + (fe n).size) = [.bool b] := by rw [h', fe_size]; exact List.drop_left' (by simp only [List.length_append, fe_len])
  rw [e1, e2]
  apply Array.ext'
  unfold pc
  simp only [Array.toList_append]
theorem rep_neg {q : Ed.Q4} {P : Fp.F × Fp.F} (h : Ed.Rep q P) : Ed.Rep ⟨-q.x, q.y, q.z, -q.t⟩ (Ed.neg P) := by
  obtain ⟨h1, h2, h3, h4⟩ := h
  refine ⟨h1, ?_, h3, ?_⟩
  · show -q.x = -P.1 * q.z
    rw [h2]; clear h1 h2 h3 h4; grind
  · show -q.t * q.z = -q.x * q.y
    clear h1 h2 h3; grind
theorem Pneg_any {cs : Array Value} {P : Fp.F × Fp.F} (hP : PP cs P) (w : World) :
    Calls Try.prog 76 #[.agg cs] w fun e w' => ∃ es, e = .returned (.agg es) ∧ PT es (Ed.neg P) ∧ Ext w w' := by
  obtain ⟨p1, p2, p3, p4, b, rfl, hP⟩ := hP.pc
  have E := Ext.refl w
  refine vc_enterc1 (s := 21) 14 Try.func76 rfl rfl rfl Try.underlying67 rfl (by kernel_rfl) rfl ?_
  intro Q hret
  refine wc_seq ?_; intro K1 hK1
  refine wc_region ?_
  refine wl_ef (ef_box (cs := pc p1 p2 p3 p4 b) rfl rfl) rfl ?_
  rintro _ w1 ⟨g1, rfl, B1, hg1, ex⟩
  replace E := E.ext ex
  skip
  have hz := E.size; have hl := B1.lt
  refine wl_ef (ef_alloc (Z := pc zf zf zf zf false) (by kernel_rfl)) rfl ?_
  rintro _ w2 ⟨g2, rfl, B2, hg2, ex⟩
  replace E := E.ext ex
  replace B1 := B1.ext ex
  skip
  refine wl_nil ?_
  refine wq_then_norm (hK1 ?_)
  refine wc_seq ?_; intro K2 hK2
  refine wc_region ?_
  refine wl_y (y_q rfl B1) rfl ?_
  refine wl_call Try.func127 rfl rfl rfl (preal_any hP _) rfl ?_
  rintro e w3 ⟨c3, rfl, P3, ex⟩
  refine ⟨_, rfl, ?_⟩
  replace E := E.ext ex
  replace B1 := B1.ext ex
  replace B2 := B2.ext ex
  obtain ⟨f1, f2, f3, f4, rfl, q, F1, F2, F3, F4, R⟩ := P3.get
  refine wl_ef (ef_storeW rfl rfl (by rw [pc_size]; kernel_rfl) B1 (by rw [pc_size, pc_size]) (pc_one _ _ _ _ _)) rfl ?_
  rintro _ w4 ⟨rfl, D1, cg⟩
  replace E := E.chg cg (by omega); replace B2 := B2.chg cg (by omega)
  refine wl_nil ?_
  refine wq_then_norm (hK2 ?_)
  refine wc_seq ?_; intro K3 hK3
  refine wc_draw (by kernel_rfl) 10 rfl ?_; intro wd2 ex hd2
  replace E := E.ext ex
  replace B2 := B2.ext ex
  replace D1 := D1.ext ex
  refine wm_z 0 rfl (by kernel_rfl) (fun _ => y_fieldAddr (o := 0) (s := 5) (off := 0) (o' := 0) rfl Try.underlying67 rfl (by kernel_rfl) rfl rfl) rfl ?_
  refine wm_y 1 rfl (by kernel_rfl) (y_q0 rfl D1) rfl ?_
  refine wm_z 3 rfl (by kernel_rfl) (fun _ => y_fieldAddr (o := 15) (s := 5) (off := 0) (o' := 15) rfl Try.underlying67 rfl (by kernel_rfl) rfl rfl) rfl ?_
  refine wm_y 4 rfl (by kernel_rfl) (y_q3 rfl D1) rfl ?_
  refine wm_one 2 (by kernel_rfl) ?_; refine om_call rfl Try.func29 rfl rfl rfl (Fneg_any F1 _) rfl ?_
  rintro e w5 ⟨c5, rfl, N1, ex⟩
  refine ⟨_, rfl, .inr ex, ?_⟩
  replace E := E.ext ex
  replace B2 := B2.ext ex
  replace D1 := D1.ext ex
  obtain ⟨n1, rfl, N1⟩ := N1.fe
  refine wm_z 6 rfl (by kernel_rfl) (fun _ => y_fieldAddr (o := 0) (s := 5) (off := 0) (o' := 0) rfl Try.underlying67 rfl (by kernel_rfl) rfl rfl) rfl ?_
  refine wm_one 5 (by kernel_rfl) ?_; refine om_call rfl Try.func29 rfl rfl rfl (Fneg_any F4 _) rfl ?_
  rintro e w6 ⟨c6, rfl, N4, ex⟩
  refine ⟨_, rfl, .inr ex, ?_⟩
  replace E := E.ext ex
  replace B2 := B2.ext ex
  replace D1 := D1.ext ex
  obtain ⟨n4, rfl, N4⟩ := N4.fe
  refine wm_one 7 (by kernel_rfl) ?_; refine om_ef rfl (ef_storeP (o := 0) rfl rfl (by rw [fe_size]; kernel_rfl) D1 (by rw [fe_size, pc_size]; omega) (fe_one _)) rfl ?_
  rintro _ w7 ⟨rfl, D, cg⟩
  refine ⟨.inl rfl, ?_⟩
  replace E := E.chg cg (by omega); replace B2 := B2.chg cg (by omega); replace D1 := D.congr (pc_put0 ..)
  refine wm_z 8 rfl (by kernel_rfl) (fun _ => y_fieldAddr (o := 15) (s := 5) (off := 0) (o' := 15) rfl Try.underlying67 rfl (by kernel_rfl) rfl rfl) rfl ?_
  refine wm_one 9 (by kernel_rfl) ?_; refine om_ef rfl (ef_storeP (o := 15) rfl rfl (by rw [fe_size]; kernel_rfl) D1 (by rw [fe_size, pc_size]; omega) (fe_one _)) rfl ?_
  rintro _ w8 ⟨rfl, D, cg⟩
  refine ⟨.inl rfl, ?_⟩
  replace E := E.chg cg (by omega); replace B2 := B2.chg cg (by omega); replace D1 := D.congr (pc_put3 ..)
  refine wm_done (by kernel_rfl) ?_
  refine wq_nop ?_
  refine wq_then_norm (hK3 ?_)
  refine wc_seq ?_; intro K4 hK4
  refine wc_region ?_
  refine wl_y (y_q rfl D1) rfl ?_
  refine wl_ef (ef_storeW rfl rfl (by rw [pc_size]; kernel_rfl) B2 (by rw [pc_size, pc_size]) (pc_one _ _ _ _ _)) rfl ?_
  rintro _ w9 ⟨rfl, D2, cg⟩
  replace E := E.chg cg (by omega)
  refine wl_nil ?_
  refine wq_then_norm (hK4 ?_)
  refine wc_ret ?_
  refine hret rfl D2 (pc_size _ _ _ _ _) ?_
  exact ⟨_, rfl, ⟨n1, f2, f3, n4, ⟨-q.x, q.y, q.z, -q.t⟩, rfl, N1, F2, F3, N4, rep_neg R⟩, E⟩
theorem Psame_any {cs ds : Array Value} {P Q : Fp.F × Fp.F} (hP : PP cs P) (hQ : PP ds Q) (w : World) :
    Calls Try.prog 65 #[.agg cs, .agg ds] w fun e w' => e = .returned (.bool (decide (P = Q))) ∧ Ext w w' := by
  obtain ⟨p1, p2, p3, p4, b, rfl, hP⟩ := hP.pc
  obtain ⟨q1, q2, q3, q4, c, rfl, hQ⟩ := hQ.pc
  have E := Ext.refl w
  refine vc_enter1 33 Try.func65 rfl rfl rfl rfl ?_
  intro Q hret
  refine wc_seq ?_; intro K1 hK1
  refine wc_region ?_
  refine wl_ef (ef_box (cs := pc p1 p2 p3 p4 b) rfl rfl) rfl ?_
  rintro _ w1 ⟨g2, rfl, B2, hg2, ex⟩
  replace E := E.ext ex
  have hl2 := B2.lt; have hz := E.size
  refine wl_ef (ef_box (cs := pc q1 q2 q3 q4 c) rfl rfl) rfl ?_
  rintro _ w2 ⟨g3, rfl, B3, hg3, ex⟩
  replace E := E.ext ex
  replace B2 := B2.ext ex
  have hg23 : g2 ≠ g3 := (by omega); have hw2 : w.heap.size ≤ g2 := (by omega); have hw3 : w.heap.size ≤ g3 := (by omega)
  refine wl_y (y_assign rfl) rfl ?_
  refine wl_nil ?_
  refine wq_then_norm (hK1 ?_)
  refine wc_seq ?_; intro K2 hK2
  refine wc_draw (by kernel_rfl) 6 rfl ?_; intro wd1 ex hd1
  replace E := E.ext ex
  replace B2 := B2.ext ex
  replace B3 := B3.ext ex
  refine wm_y 0 rfl (by kernel_rfl) (y_q rfl B2) rfl ?_
  refine wm_y 2 rfl (by kernel_rfl) (y_q rfl B3) rfl ?_
  refine wm_one 1 (by kernel_rfl) ?_; refine om_call rfl Try.func127 rfl rfl rfl (preal_any hP _) rfl ?_
  rintro e w5 ⟨c5, rfl, P5, ex⟩
  refine ⟨_, rfl, .inr ex, ?_⟩
  replace E := E.ext ex
  replace B2 := B2.ext ex
  replace B3 := B3.ext ex
  obtain ⟨r1, r2, r3, r4, rfl, q5, R1, R2, R3, R4, R5⟩ := P5.get
  refine wm_one 3 (by kernel_rfl) ?_; refine om_call rfl Try.func127 rfl rfl rfl (preal_any hQ _) rfl ?_
  rintro e w6 ⟨c6, rfl, P6, ex⟩
  refine ⟨_, rfl, .inr ex, ?_⟩
  replace E := E.ext ex
  replace B2 := B2.ext ex
  replace B3 := B3.ext ex
  obtain ⟨s1, s2, s3, s4, rfl, q6, S1, S2, S3, S4, S5⟩ := P6.get
  refine wm_one 4 (by kernel_rfl) ?_; refine om_ef rfl (ef_storeW rfl rfl (by rw [pc_size]; kernel_rfl) B2 (by rw [pc_size, pc_size]) (pc_one _ _ _ _ _)) rfl ?_
  rintro _ w7 ⟨rfl, D2, cg⟩
  refine ⟨.inl rfl, ?_⟩
  replace E := E.chg cg hw2; replace B3 := B3.chg cg (by omega); replace B2 := D2
  refine wm_one 5 (by kernel_rfl) ?_; refine om_ef rfl (ef_storeW rfl rfl (by rw [pc_size]; kernel_rfl) B3 (by rw [pc_size, pc_size]) (pc_one _ _ _ _ _)) rfl ?_
  rintro _ w8 ⟨rfl, D3, cg⟩
  refine ⟨.inl rfl, ?_⟩
  replace E := E.chg cg hw3; replace B2 := B2.chg cg (by omega); replace B3 := D3
  refine wm_done (by kernel_rfl) ?_
  refine wq_nop ?_
  refine wq_then_norm (hK2 ?_)
  refine wc_seq ?_; intro K3 hK3
  refine wc_draw (by kernel_rfl) 25 rfl ?_; intro wd2 ex hd2
  replace E := E.ext ex
  replace B2 := B2.ext ex
  replace B3 := B3.ext ex
  refine wm_y 0 rfl (by kernel_rfl) (y_fieldAddr (o := 0) (s := 5) (off := 0) (o' := 0) rfl Try.underlying67 rfl (by kernel_rfl) rfl rfl) rfl ?_
  refine wm_y 1 rfl (by kernel_rfl) (y_q0 rfl B2) rfl ?_
  refine wm_y 2 rfl (by kernel_rfl) (y_fieldAddr (o := 10) (s := 5) (off := 0) (o' := 10) rfl Try.underlying67 rfl (by kernel_rfl) rfl rfl) rfl ?_
  refine wm_y 3 rfl (by kernel_rfl) (y_q2 rfl B3) rfl ?_
  refine wm_y 5 rfl (by kernel_rfl) (y_fieldAddr (o := 0) (s := 5) (off := 0) (o' := 0) rfl Try.underlying67 rfl (by kernel_rfl) rfl rfl) rfl ?_
  refine wm_y 6 rfl (by kernel_rfl) (y_q0 rfl B3) rfl ?_
  refine wm_y 7 rfl (by kernel_rfl) (y_fieldAddr (o := 10) (s := 5) (off := 0) (o' := 10) rfl Try.underlying67 rfl (by kernel_rfl) rfl rfl) rfl ?_
  refine wm_y 8 rfl (by kernel_rfl) (y_q2 rfl B2) rfl ?_
  refine wm_one 4 (by kernel_rfl) ?_; refine om_call rfl Try.func30 rfl rfl rfl (Fmul_any R1 S3 _) rfl ?_
  rintro e w9 ⟨c9, rfl, F9, ex⟩
  refine ⟨_, rfl, .inr ex, ?_⟩
  replace E := E.ext ex
  replace B2 := B2.ext ex
  replace B3 := B3.ext ex
  skip
  refine wm_one 9 (by kernel_rfl) ?_; refine om_call rfl Try.func30 rfl rfl rfl (Fmul_any S1 R3 _) rfl ?_
  rintro e w10 ⟨c10, rfl, F10, ex⟩
  refine ⟨_, rfl, .inr ex, ?_⟩
  replace E := E.ext ex
  replace B2 := B2.ext ex
  replace B3 := B3.ext ex
  skip
  refine wm_one 10 (by kernel_rfl) ?_; refine om_call rfl Try.func33 rfl rfl rfl (Fsame_any F9 F10 _) rfl ?_
  rintro e w11 ⟨rfl, ex⟩
  refine ⟨_, rfl, .inr ex, ?_⟩
  replace E := E.ext ex
  replace B2 := B2.ext ex
  replace B3 := B3.ext ex
  have hs := Ed.rep_same R5 S5
  refine wm_yask 11 rfl (by kernel_rfl) (y_move rfl) rfl (fun h1 => ?_) (fun h1 => ?_)
  · skip
    refine wm_gy 12 rfl (by kernel_rfl) 20 rfl rfl (y_fieldAddr (o := 5) (s := 5) (off := 0) (o' := 5) rfl Try.underlying67 rfl (by kernel_rfl) rfl rfl) rfl ?_
    refine wm_gy 13 rfl (by kernel_rfl) 20 rfl rfl (y_q1 rfl B2) rfl ?_
    refine wm_gy 14 rfl (by kernel_rfl) 20 rfl rfl (y_fieldAddr (o := 10) (s := 5) (off := 0) (o' := 10) rfl Try.underlying67 rfl (by kernel_rfl) rfl rfl) rfl ?_
    refine wm_gy 15 rfl (by kernel_rfl) 20 rfl rfl (y_q2 rfl B3) rfl ?_
    refine wm_gy 17 rfl (by kernel_rfl) 20 rfl rfl (y_fieldAddr (o := 5) (s := 5) (off := 0) (o' := 5) rfl Try.underlying67 rfl (by kernel_rfl) rfl rfl) rfl ?_
    refine wm_gy 18 rfl (by kernel_rfl) 20 rfl rfl (y_q1 rfl B3) rfl ?_
    refine wm_gy 19 rfl (by kernel_rfl) 20 rfl rfl (y_fieldAddr (o := 10) (s := 5) (off := 0) (o' := 10) rfl Try.underlying67 rfl (by kernel_rfl) rfl rfl) rfl ?_
    refine wm_gy 20 rfl (by kernel_rfl) 20 rfl rfl (y_q2 rfl B2) rfl ?_
    refine wm_one 16 (by kernel_rfl) ?_; refine om_gcall rfl 20 rfl rfl Try.func30 rfl rfl rfl (Fmul_any R2 S3 _) rfl ?_
    rintro e w12 ⟨c12, rfl, F12, ex⟩
    refine ⟨_, rfl, .inr ex, ?_⟩
    replace E := E.ext ex
    replace B2 := B2.ext ex
    replace B3 := B3.ext ex
    skip
    refine wm_one 21 (by kernel_rfl) ?_; refine om_gcall rfl 20 rfl rfl Try.func30 rfl rfl rfl (Fmul_any S2 R3 _) rfl ?_
    rintro e w13 ⟨c13, rfl, F13, ex⟩
    refine ⟨_, rfl, .inr ex, ?_⟩
    replace E := E.ext ex
    replace B2 := B2.ext ex
    replace B3 := B3.ext ex
    skip
    refine wm_one 22 (by kernel_rfl) ?_; refine om_gcall rfl 20 rfl rfl Try.func33 rfl rfl rfl (Fsame_any F12 F13 _) rfl ?_
    rintro e w14 ⟨rfl, ex⟩
    refine ⟨_, rfl, .inr ex, ?_⟩
    replace E := E.ext ex
    replace B2 := B2.ext ex
    replace B3 := B3.ext ex
    skip
    refine wm_y 23 rfl (by kernel_rfl) (y_pickt rfl rfl) rfl ?_
    refine wm_y 24 rfl (by kernel_rfl) (y_assign rfl) rfl ?_
    refine wm_done (by kernel_rfl) ?_
    refine wq_nop ?_
    refine wq_then_norm (hK3 ?_)
    refine wc_ret ?_
    refine hret rfl ?_
    exact ⟨by congr 3; exact propext ⟨fun h2 => hs.1 ⟨h1, h2⟩, fun h2 => (hs.2 h2).2⟩, E⟩
  · skip
    refine wm_gno 12 rfl (by kernel_rfl) 20 rfl rfl rfl rfl ?_
    refine wm_gno 13 rfl (by kernel_rfl) 20 rfl rfl rfl rfl ?_
    refine wm_gno 14 rfl (by kernel_rfl) 20 rfl rfl rfl rfl ?_
    refine wm_gno 15 rfl (by kernel_rfl) 20 rfl rfl rfl rfl ?_
    refine wm_gno 16 rfl (by kernel_rfl) 20 rfl rfl rfl rfl ?_
    refine wm_gno 17 rfl (by kernel_rfl) 20 rfl rfl rfl rfl ?_
    refine wm_gno 18 rfl (by kernel_rfl) 20 rfl rfl rfl rfl ?_
    refine wm_gno 19 rfl (by kernel_rfl) 20 rfl rfl rfl rfl ?_
    refine wm_gno 20 rfl (by kernel_rfl) 20 rfl rfl rfl rfl ?_
    refine wm_gno 21 rfl (by kernel_rfl) 20 rfl rfl rfl rfl ?_
    refine wm_gno 22 rfl (by kernel_rfl) 20 rfl rfl rfl rfl ?_
    refine wm_y 23 rfl (by kernel_rfl) (y_pickf rfl rfl) rfl ?_
    refine wm_y 24 rfl (by kernel_rfl) (y_assign rfl) rfl ?_
    refine wm_done (by kernel_rfl) ?_
    refine wq_nop ?_
    refine wq_then_norm (hK3 ?_)
    refine wc_ret ?_
    refine hret rfl ?_
    exact ⟨by congr 2; rw [decide_eq_false fun h2 => h1 (hs.2 h2).1], E⟩
end Go.Proofs.Ytbcbihdfpkeacaa
