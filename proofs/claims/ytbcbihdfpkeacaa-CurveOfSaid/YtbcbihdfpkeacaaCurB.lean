/- Points of the curve as the program holds them: nothing, the base, points of bytes, bytes of points. -/
import Derived.Test.YtbcbihdfpkeacaaCurA
namespace Go.Proofs.Ytbcbihdfpkeacaa
open Go.RowKit
attribute [local irreducible] Y Ef WL WC WK WQ WM OpM WN WF OpN
theorem PT.congr {cs : Array Value} {P Q : Fp.F × Fp.F} (h : PT cs P) (e : P = Q) : PT cs Q := e ▸ h
theorem PT.pp {cs : Array Value} {P : Fp.F × Fp.F} (h : PT cs P) : PP cs P := .inl h
theorem pnothing_any (w : World) : Calls Try.prog 66 #[] w fun e w' => ∃ cs, e = .returned (.agg cs) ∧ PT cs Ed.O ∧ Ext w w' := by
  have E := Ext.refl w
  refine vc_enterc1 (s := 21) 4 Try.func66 rfl rfl rfl Try.underlying67 rfl (by kernel_rfl) rfl ?_
  intro Q hret
  refine wc_seq ?_; intro K1 hK1
  refine wc_region ?_
  refine wl_ef (ef_alloc (Z := pc zf zf zf zf false) (by kernel_rfl)) rfl ?_
  rintro _ w1 ⟨g0, rfl, B0, hg0, ex⟩
  replace E := E.ext ex
  skip
  refine wl_nil ?_
  refine wq_then_norm (hK1 ?_)
  refine wc_seq ?_; intro K2 hK2
  refine wc_region ?_
  refine wl_y (y_build rfl (cells := fe zf) (by kernel_rfl)) rfl ?_
  refine wl_call Try.func23 rfl rfl rfl (Fnum_any 1 _ (by omega)) rfl ?_
  rintro e w2 ⟨c2, rfl, F2, ex⟩
  refine ⟨_, rfl, ?_⟩
  replace E := E.ext ex
  replace B0 := B0.ext ex
  obtain ⟨f2, rfl, F2⟩ := F2.fe
  refine wl_call Try.func126 rfl rfl rfl (pof_any FE.zero F2 _) rfl ?_
  rintro e w3 ⟨c3, rfl, P3, ex⟩
  refine ⟨_, rfl, ?_⟩
  replace E := E.ext ex
  replace B0 := B0.ext ex
  skip
  refine wl_ef (ef_storeW rfl rfl (by rw [P3.size]; kernel_rfl) B0 (by rw [pc_size, P3.size]) P3.one) rfl ?_
  rintro _ w4 ⟨rfl, B4, cg⟩
  replace E := E.chg cg hg0
  refine wl_nil ?_
  refine wq_then_norm (hK2 ?_)
  refine wc_ret ?_
  refine hret rfl B4 P3.size ?_
  exact ⟨c3, rfl, P3.congr rfl, E⟩
theorem preal_t (f1 f2 f3 f4 : Nat → Nat) (w : World) : Calls Try.prog 127 #[.agg (pc f1 f2 f3 f4 true)] w fun e w' => e = .returned (.agg (pc f1 f2 f3 f4 true)) ∧ Ext w w' := by
  have E := Ext.refl w
  refine vc_enterc1 (s := 21) 8 Try.func127 rfl rfl rfl Try.underlying67 rfl (by kernel_rfl) rfl ?_
  intro Q hret
  refine wc_seq ?_; intro K1 hK1
  refine wc_region ?_
  refine wl_ef (ef_box (cs := pc f1 f2 f3 f4 true) rfl rfl) rfl ?_
  rintro _ w1 ⟨g1, rfl, B1, hg1, ex⟩
  replace E := E.ext ex
  skip
  have hz := E.size
  refine wl_ef (ef_alloc (Z := pc zf zf zf zf false) (by kernel_rfl)) rfl ?_
  rintro _ w2 ⟨g2, rfl, B2, hg2, ex⟩
  replace E := E.ext ex
  replace B1 := B1.ext ex
  skip
  refine wl_nil ?_
  refine wq_then_norm (hK1 ?_)
  refine wc_seq ?_; intro K2 hK2
  refine wc_seq ?_; intro K3 hK3
  refine wc_region ?_
  refine wl_y (y_fieldAddr (o := 20) (s := 1) (off := 0) (o' := 20) rfl Try.underlying67 rfl (by kernel_rfl) rfl rfl) rfl ?_
  refine wl_y (y_load1 rfl Try.underlying4 rfl (B1.get (pc_4 _ _ _ _ _))) rfl ?_
  refine wl_y (y_not rfl) rfl ?_
  refine wl_nil ?_
  refine wq_then_norm (hK3 ?_)
  refine wc_false rfl rfl ?_
  refine wc_skip ?_
  refine wq_then_norm (hK2 ?_)
  refine wc_seq ?_; intro K4 hK4
  refine wc_region ?_
  refine wl_y (y_q rfl B1) rfl ?_
  refine wl_ef (ef_storeW rfl rfl (by rw [pc_size]; kernel_rfl) B2 (by rw [pc_size, pc_size]) (pc_one _ _ _ _ _)) rfl ?_
  rintro _ w4 ⟨rfl, B4, cg⟩
  replace E := E.chg cg (by omega)
  refine wl_nil ?_
  refine wq_then_norm (hK4 ?_)
  refine wc_ret ?_
  refine hret rfl B4 (pc_size _ _ _ _ _) ?_
  exact ⟨rfl, E⟩
theorem preal_f (f1 f2 f3 f4 : Nat → Nat) (w : World) : Calls Try.prog 127 #[.agg (pc f1 f2 f3 f4 false)] w fun e w' => ∃ cs, e = .returned (.agg cs) ∧ PT cs Ed.O ∧ Ext w w' := by
  have E := Ext.refl w
  refine vc_enterc1 (s := 21) 8 Try.func127 rfl rfl rfl Try.underlying67 rfl (by kernel_rfl) rfl ?_
  intro Q hret
  refine wc_seq ?_; intro K1 hK1
  refine wc_region ?_
  refine wl_ef (ef_box (cs := pc f1 f2 f3 f4 false) rfl rfl) rfl ?_
  rintro _ w1 ⟨g1, rfl, B1, hg1, ex⟩
  replace E := E.ext ex
  skip
  have hz := E.size
  refine wl_ef (ef_alloc (Z := pc zf zf zf zf false) (by kernel_rfl)) rfl ?_
  rintro _ w2 ⟨g2, rfl, B2, hg2, ex⟩
  replace E := E.ext ex
  replace B1 := B1.ext ex
  skip
  refine wl_nil ?_
  refine wq_then_norm (hK1 ?_)
  refine wc_seq ?_; intro K2 hK2
  refine wc_seq ?_; intro K3 hK3
  refine wc_region ?_
  refine wl_y (y_fieldAddr (o := 20) (s := 1) (off := 0) (o' := 20) rfl Try.underlying67 rfl (by kernel_rfl) rfl rfl) rfl ?_
  refine wl_y (y_load1 rfl Try.underlying4 rfl (B1.get (pc_4 _ _ _ _ _))) rfl ?_
  refine wl_y (y_not rfl) rfl ?_
  refine wl_nil ?_
  refine wq_then_norm (hK3 ?_)
  refine wc_true rfl rfl ?_
  refine wc_seq ?_; intro K4 hK4
  refine wc_region ?_
  refine wl_call Try.func66 rfl rfl rfl (pnothing_any _) rfl ?_
  rintro e w3 ⟨c3, rfl, P3, ex⟩
  refine ⟨_, rfl, ?_⟩
  replace E := E.ext ex
  replace B1 := B1.ext ex
  replace B2 := B2.ext ex
  skip
  refine wl_ef (ef_storeW rfl rfl (by rw [P3.size]; kernel_rfl) B2 (by rw [pc_size, P3.size]) P3.one) rfl ?_
  rintro _ w4 ⟨rfl, B4, cg⟩
  replace E := E.chg cg (by omega)
  refine wl_nil ?_
  refine wq_then_norm (hK4 ?_)
  refine wc_ret ?_
  refine wq_then_ret ?_
  refine hret rfl B4 P3.size ?_
  exact ⟨c3, rfl, P3, E⟩
theorem preal_any {cs : Array Value} {P : Fp.F × Fp.F} (h : PP cs P) (w : World) : Calls Try.prog 127 #[.agg cs] w fun e w' => ∃ ds, e = .returned (.agg ds) ∧ PT ds P ∧ Ext w w' := by
  rcases h with ⟨f1, f2, f3, f4, q, rfl, h⟩ | ⟨f1, f2, f3, f4, rfl, rfl⟩
  · exact (preal_t f1 f2 f3 f4 w).mono fun e w' ⟨h1, h2⟩ => ⟨_, h1, ⟨f1, f2, f3, f4, q, rfl, h⟩, h2⟩
  · exact preal_f f1 f2 f3 f4 w
theorem pflat_any {f : Nat → Nat} {y : Fp.F} (Yy : FE (fe f) y) (w : World) :
    Calls Try.prog 125 #[.agg (fe f)] w fun e w' => ∃ g, e = .returned (.tuple #[.agg (fe g), .bool (decide (Fp.Sqr (Ed.sq y)))]) ∧ FE (fe g) (if Fp.Sqr (Ed.sq y) then Fp.root (Ed.sq y) else 0) ∧ Ext w w' := by
  have E := Ext.refl w
  refine vc_enterct (s := 5) 20 Try.func125 rfl rfl rfl Try.underlying27 rfl (by kernel_rfl) rfl ?_
  intro Q hret
  refine wc_seq ?_; intro K1 hK1
  refine wc_region ?_
  refine wl_ef (ef_box (cs := fe f) rfl rfl) rfl ?_
  rintro _ w1 ⟨g1, rfl, B1, hg1, ex⟩
  replace E := E.ext ex
  skip
  have hz := E.size
  refine wl_ef (ef_alloc (Z := fe zf) (by kernel_rfl)) rfl ?_
  rintro _ w2 ⟨g2, rfl, B2, hg2, ex⟩
  replace E := E.ext ex
  replace B1 := B1.ext ex
  have hl2 := B2.lt
  refine wl_y (y_assign rfl) rfl ?_
  refine wl_nil ?_
  refine wq_then_norm (hK1 ?_)
  refine wc_seq ?_; intro K2 hK2
  refine wc_region ?_
  refine wl_y (y_lE rfl B1) rfl ?_
  refine wl_call Try.func32 rfl rfl rfl (Fsquare_any Yy _) rfl ?_
  rintro e w3 ⟨c3, rfl, F3, ex⟩
  refine ⟨_, rfl, ?_⟩
  replace E := E.ext ex
  replace B1 := B1.ext ex
  replace B2 := B2.ext ex
  obtain ⟨f3, rfl, F3⟩ := F3.fe
  have hz3 := E.size; have hl3 := B2.lt
  refine wl_ef (ef_alloc (Z := fe zf) (by kernel_rfl)) rfl ?_
  rintro _ w4 ⟨g4, rfl, B4, hg4, ex⟩
  replace E := E.ext ex
  replace B1 := B1.ext ex
  replace B2 := B2.ext ex
  skip
  refine wl_ef (ef_storeW rfl rfl (by rw [fe_size]; kernel_rfl) B4 (by rw [fe_size, fe_size]) (fe_one _)) rfl ?_
  rintro _ w5 ⟨rfl, D4, cg⟩
  replace E := E.chg cg (by omega); replace B2 := B2.chg cg (by omega)
  refine wl_nil ?_
  refine wq_then_norm (hK2 ?_)
  refine wc_seq ?_; intro K3 hK3
  refine wc_draw (by kernel_rfl) 15 rfl ?_; intro wd2 ex hd2
  replace E := E.ext ex
  replace B2 := B2.ext ex
  replace D4 := D4.ext ex
  refine wm_y 0 rfl (by kernel_rfl) (y_lE rfl D4) rfl ?_
  refine wm_y 4 rfl (by kernel_rfl) (y_lE rfl D4) rfl ?_
  refine wm_one 1 (by kernel_rfl) ?_; refine om_call rfl Try.func23 rfl rfl rfl (Fnum_any 1 _ (by omega)) rfl ?_
  rintro e w6 ⟨c6, rfl, F6, ex⟩
  refine ⟨_, rfl, .inr ex, ?_⟩
  replace E := E.ext ex
  replace B2 := B2.ext ex
  replace D4 := D4.ext ex
  skip
  refine wm_one 2 (by kernel_rfl) ?_; refine om_call rfl Try.func27 rfl rfl rfl (Fsub_any F3 F6 _) rfl ?_
  rintro e w7 ⟨c7, rfl, F7, ex⟩
  refine ⟨_, rfl, .inr ex, ?_⟩
  replace E := E.ext ex
  replace B2 := B2.ext ex
  replace D4 := D4.ext ex
  skip
  refine wm_one 3 (by kernel_rfl) ?_; refine om_call rfl Try.func129 rfl rfl rfl (pd_any _) rfl ?_
  rintro e w8 ⟨f8, rfl, F8, ex⟩
  refine ⟨_, rfl, .inr ex, ?_⟩
  replace E := E.ext ex
  replace B2 := B2.ext ex
  replace D4 := D4.ext ex
  skip
  refine wm_one 5 (by kernel_rfl) ?_; refine om_call rfl Try.func30 rfl rfl rfl (Fmul_any F8 F3 _) rfl ?_
  rintro e w9 ⟨c9, rfl, F9, ex⟩
  refine ⟨_, rfl, .inr ex, ?_⟩
  replace E := E.ext ex
  replace B2 := B2.ext ex
  replace D4 := D4.ext ex
  skip
  refine wm_one 6 (by kernel_rfl) ?_; refine om_call rfl Try.func23 rfl rfl rfl (Fnum_any 1 _ (by omega)) rfl ?_
  rintro e w10 ⟨c10, rfl, F10, ex⟩
  refine ⟨_, rfl, .inr ex, ?_⟩
  replace E := E.ext ex
  replace B2 := B2.ext ex
  replace D4 := D4.ext ex
  skip
  refine wm_one 7 (by kernel_rfl) ?_; refine om_call rfl Try.func25 rfl rfl rfl (Fadd_any F9 F10 _) rfl ?_
  rintro e w11 ⟨c11, rfl, F11, ex⟩
  refine ⟨_, rfl, .inr ex, ?_⟩
  replace E := E.ext ex
  replace B2 := B2.ext ex
  replace D4 := D4.ext ex
  skip
  refine wm_one 8 (by kernel_rfl) ?_; refine om_call rfl Try.func45 rfl rfl rfl (Finv_any F11 _) rfl ?_
  rintro e w12 ⟨c12, rfl, F12, ex⟩
  refine ⟨_, rfl, .inr ex, ?_⟩
  replace E := E.ext ex
  replace B2 := B2.ext ex
  replace D4 := D4.ext ex
  skip
  refine wm_one 9 (by kernel_rfl) ?_; refine om_call rfl Try.func30 rfl rfl rfl (Fmul_any F7 F12 _) rfl ?_
  rintro e w13 ⟨c13, rfl, F13, ex⟩
  refine ⟨_, rfl, .inr ex, ?_⟩
  replace E := E.ext ex
  replace B2 := B2.ext ex
  replace D4 := D4.ext ex
  skip
  refine wm_one 10 (by kernel_rfl) ?_; refine om_call rfl Try.func47 rfl rfl rfl (Froot_any F13 _) rfl ?_
  rintro e w14 ⟨c14, rfl, F14, ex⟩
  refine ⟨_, rfl, .inr ex, ?_⟩
  replace E := E.ext ex
  replace B2 := B2.ext ex
  replace D4 := D4.ext ex
  obtain ⟨f14, rfl, F14⟩ := F14.fe
  refine wm_z 11 rfl (by kernel_rfl) (fun _ => y_extract rfl rfl) rfl ?_
  refine wm_z 12 rfl (by kernel_rfl) (fun _ => y_extract rfl rfl) rfl ?_
  refine wm_one 13 (by kernel_rfl) ?_; refine om_ef rfl (ef_storeW rfl rfl (by rw [fe_size]; kernel_rfl) B2 (by rw [fe_size, fe_size]) (fe_one _)) rfl ?_
  rintro _ w15 ⟨rfl, B15, cg⟩
  refine ⟨.inl rfl, ?_⟩
  replace E := E.chg cg (by omega)
  refine wm_y 14 rfl (by kernel_rfl) (y_assign rfl) rfl ?_
  refine wm_done (by kernel_rfl) ?_
  refine wq_nop ?_
  refine wq_then_norm (hK3 ?_)
  refine wc_ret ?_
  refine hret rfl rfl B15 (fe_size _) ?_
  exact ⟨f14, rfl, F14, E⟩
end Go.Proofs.Ytbcbihdfpkeacaa
