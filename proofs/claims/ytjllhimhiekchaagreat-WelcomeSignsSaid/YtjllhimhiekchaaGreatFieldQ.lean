/- The field's Inv and Root, the reference's Pow and Inv: what each hands back. -/
import Derived.Test.YtjllhimhiekchaaGreatFieldL
import Derived.Test.YtjllhimhiekchaaGreatFieldI
namespace Go.Proofs.YtjllhimhiekchaaGreat
open Go.RowKit
attribute [local irreducible] Y Ef WL WC WK WQ WM OpM
theorem Finv_any {cs : Array Value} {a : Fp.F} (ha : FE cs a) (w : World) :
  Calls Tryz.prog 153 #[.agg cs] w fun e w' => ∃ ds, e = .returned (.agg ds) ∧ FE ds (Fp.inv a) ∧ Ext w w' := by
 have hnum : Fp.num (pwr 235 127) = Fp.p - 2 := by decide +kernel
 refine vc_enterc1 (s := 5) 6 Tryz.func153 rfl rfl rfl Tryz.underlying135 rfl (by kernel_rfl) rfl ?_
 intro Q hret
 refine wc_seq ?_; intro K1 hK1
 refine wc_region ?_
 refine wl_ef (ef_box (cs := cs) rfl rfl) rfl ?_
 rintro _ w1 ⟨g1, rfl, B1, hg1, ex⟩
 have E1 := ex
 refine wl_ef (ef_alloc (Z := fe (fun _ => 0)) (by kernel_rfl)) rfl ?_
 rintro _ w2 ⟨g2, rfl, B2, hg2, ex⟩
 have E2 := E1.ext ex; replace B1 := B1.ext ex; have hg2' : w.heap.size ≤ g2 := Nat.le_trans E1.size hg2
 refine wl_nil ?_
 refine wq_then_norm (hK1 ?_)
 refine wc_seq ?_; intro K2 hK2
 refine wc_draw (by kernel_rfl) 4 rfl ?_; intro wd1 ex hd1
 replace B1 := B1.ext ex
 replace B2 := B2.ext ex
 replace E2 := E2.ext ex
 refine wm_y 0 rfl (by kernel_rfl) ((y_loadw rfl Tryz.underlying135 rfl (by rw [ha.size]; kernel_rfl) B1)) rfl ?_
 refine wm_one 1 (by kernel_rfl) ?_; refine om_call rfl Tryz.func221 rfl rfl rfl (power_any 235 127 _) rfl ?_
 rintro e w3 ⟨g3, rfl, H3, ex⟩
 refine ⟨_, rfl, .inr ex, ?_⟩
 replace B1 := B1.ext ex
 replace B2 := B2.ext ex
 replace E2 := E2.ext ex
 skip
 refine wm_one 2 (by kernel_rfl) ?_; refine om_call rfl Tryz.func220 rfl rfl rfl (Fpow_any ha _ 32 32 _ _ H3 (by omega)) rfl ?_
 rintro e w4 ⟨ds, rfl, D, ex⟩
 refine ⟨_, rfl, .inr ex, ?_⟩
 replace B1 := B1.ext ex
 replace B2 := B2.ext ex
 replace E2 := E2.ext ex
 rw [hnum] at D
 refine wm_one 3 (by kernel_rfl) ?_; refine om_ef rfl (ef_storeW rfl rfl (by rw [D.size]; kernel_rfl) B2 (by rw [fe_size, D.size]) D.one) rfl ?_
 rintro _ w5 ⟨rfl, B5, cg⟩
 refine ⟨.inl rfl, ?_⟩
 have E5 := E2.chg cg hg2'
 refine wm_done (by kernel_rfl) ?_
 refine wq_nop ?_
 refine wq_then_norm (hK2 ?_)
 refine wc_ret ?_
 refine hret rfl B5 D.size ?_
 exact ⟨_, rfl, D, E5⟩
theorem Froot_any {cs : Array Value} {a : Fp.F} (ha : FE cs a) (w : World) :
  Calls Tryz.prog 224 #[.agg cs] w fun e w' => ∃ ds, e = .returned (.tuple #[.agg ds, .bool (decide (Fp.Sqr a))]) ∧ FE ds (if Fp.Sqr a then Fp.root a else 0) ∧ Ext w w' := by
 have hn1 : Fp.num (pwr 254 15) = Fp.e8 := by decide +kernel
 have hn2 : Fp.num (pwr 251 31) = Fp.quart := by decide +kernel
 have hso := Fp.guess_or (a := a)
 refine vc_enterct (s := 5) 29 Tryz.func224 rfl rfl rfl Tryz.underlying135 rfl (by kernel_rfl) rfl ?_
 intro Q hret
 refine wc_seq ?_; intro K1 hK1
 refine wc_region ?_
 refine wl_ef (ef_box (cs := cs) rfl rfl) rfl ?_
 rintro _ w1 ⟨g1, rfl, B1, hg1, ex⟩
 have E1 := ex; have hl1 := B1.lt
 refine wl_ef (ef_alloc (Z := fe (fun _ => 0)) (by kernel_rfl)) rfl ?_
 rintro _ w2 ⟨g2, rfl, B2, hg2, ex⟩
 have E2 := E1.ext ex; replace B1 := B1.ext ex; have hg2' : w.heap.size ≤ g2 := Nat.le_trans E1.size hg2; have hl2 := B2.lt
 refine wl_y (y_assign rfl) rfl ?_
 refine wl_nil ?_
 refine wq_then_norm (hK1 ?_)
 refine wc_seq ?_; intro K2 hK2
 refine wc_draw (by kernel_rfl) 5 rfl ?_; intro wd1 ex hd1
 replace B1 := B1.ext ex
 replace B2 := B2.ext ex
 replace E2 := E2.ext ex
 refine wm_y 0 rfl (by kernel_rfl) ((y_loadw rfl Tryz.underlying135 rfl (by rw [ha.size]; kernel_rfl) B1)) rfl ?_
 refine wm_two 1 3 (by kernel_rfl) ?_ ?_
 ·skip
  refine om_call rfl Tryz.func221 rfl rfl rfl (power_any 254 15 _) rfl ?_
  rintro e w3 ⟨g3, rfl, H3, ex⟩
  refine ⟨_, rfl, .inr ex, ?_⟩
  replace B1 := B1.ext ex
  replace B2 := B2.ext ex
  replace E2 := E2.ext ex
  skip
  refine wm_two 2 3 (by kernel_rfl) ?_ ?_
  ·skip
   refine om_call rfl Tryz.func220 rfl rfl rfl (Fpow_any ha _ 32 32 _ _ H3 (by omega)) rfl ?_
   rintro e w4 ⟨ds, rfl, D, ex⟩
   refine ⟨_, rfl, .inr ex, ?_⟩
   replace B1 := B1.ext ex
   replace B2 := B2.ext ex
   replace E2 := E2.ext ex
   replace H3 := H3.ext ex
   rw [hn1] at D; replace D : FE ds (Fp.guess a) := D
   have hs0 := E2; have hb2 := B2.lt
   refine wm_one 3 (by kernel_rfl) ?_; refine om_ef rfl (ef_alloc (Z := fe (fun _ => 0)) (by kernel_rfl)) rfl ?_
   rintro _ w5 ⟨g5, rfl, B5, hg5, ex⟩
   refine ⟨.inr ex, ?_⟩
   replace B1 := B1.ext ex
   replace B2 := B2.ext ex
   replace E2 := E2.ext ex
   replace H3 := H3.ext ex
   have hg5' : w.heap.size ≤ g5 := by have := hs0.size; omega
   refine wm_one 4 (by kernel_rfl) ?_; refine om_ef rfl (ef_storeW rfl rfl (by rw [D.size]; kernel_rfl) B5 (by rw [fe_size, D.size]) D.one) rfl ?_
   rintro _ w6 ⟨rfl, B6, cg⟩
   refine ⟨.inl rfl, ?_⟩
   replace B1 := B1.chg cg (by omega); replace B2 := B2.chg cg (by omega); have E6 := E2.chg cg hg5'
   refine wm_done (by kernel_rfl) ?_
   refine wq_nop ?_
   refine wq_then_norm (hK2 ?_)
   refine wc_seq ?_; intro K3 hK3
   refine wc_seq ?_; intro K4 hK4
   refine wc_draw (by kernel_rfl) 5 rfl ?_; intro wd2 ex hd2
   replace B1 := B1.ext ex
   replace B2 := B2.ext ex
   replace E6 := E6.ext ex
   replace B6 := B6.ext ex
   refine wm_y 0 rfl (by kernel_rfl) ((y_loadw rfl Tryz.underlying135 rfl (by rw [D.size]; kernel_rfl) B6)) rfl ?_
   refine wm_y 2 rfl (by kernel_rfl) ((y_loadw rfl Tryz.underlying135 rfl (by rw [ha.size]; kernel_rfl) B1)) rfl ?_
   refine wm_one 1 (by kernel_rfl) ?_; refine om_call rfl Tryz.func222 rfl rfl rfl (Fsquare_any D _) rfl ?_
   rintro e w7 ⟨d7, rfl, D7, ex⟩
   refine ⟨_, rfl, .inr ex, ?_⟩
   replace B1 := B1.ext ex
   replace B2 := B2.ext ex
   replace E6 := E6.ext ex
   replace B6 := B6.ext ex
   skip
   refine wm_one 3 (by kernel_rfl) ?_; refine om_call rfl Tryz.func211 rfl rfl rfl (Fsame_any D7 ha _) rfl ?_
   rintro e w8 ⟨rfl, ex⟩
   refine ⟨_, rfl, .inr ex, ?_⟩
   replace B1 := B1.ext ex
   replace B2 := B2.ext ex
   replace E6 := E6.ext ex
   replace B6 := B6.ext ex
   skip
   refine wm_y 4 rfl (by kernel_rfl) (y_not rfl) rfl ?_
   refine wm_done (by kernel_rfl) ?_
   refine wq_nop ?_
   refine wq_then_norm (hK4 ?_)
   refine wc_cond rfl (fun hc1 => ?_) (fun hc1 => ?_)
   ·skip
    have hq : ¬ Fp.guess a * Fp.guess a = a := by simpa using hc1
    refine wc_draw (by kernel_rfl) 6 rfl ?_; intro wd3 ex hd3
    replace B1 := B1.ext ex
    replace B2 := B2.ext ex
    replace E6 := E6.ext ex
    replace B6 := B6.ext ex
    refine wm_y 0 rfl (by kernel_rfl) ((y_loadw rfl Tryz.underlying135 rfl (by rw [D.size]; kernel_rfl) B6)) rfl ?_
    refine wm_one 1 (by kernel_rfl) ?_; refine om_call rfl Tryz.func151 rfl rfl rfl (Fnum_any 2 _ (by omega)) rfl ?_
    rintro e w9 ⟨d9, rfl, D9, ex⟩
    refine ⟨_, rfl, .inr ex, ?_⟩
    replace B1 := B1.ext ex
    replace B2 := B2.ext ex
    replace E6 := E6.ext ex
    replace B6 := B6.ext ex
    skip
    refine wm_one 2 (by kernel_rfl) ?_; refine om_call rfl Tryz.func221 rfl rfl rfl (power_any 251 31 _) rfl ?_
    rintro e w10 ⟨g10, rfl, H10, ex⟩
    refine ⟨_, rfl, .inr ex, ?_⟩
    replace B1 := B1.ext ex
    replace B2 := B2.ext ex
    replace E6 := E6.ext ex
    replace B6 := B6.ext ex
    skip
    refine wm_one 3 (by kernel_rfl) ?_; refine om_call rfl Tryz.func220 rfl rfl rfl (Fpow_any D9 _ 32 32 _ _ H10 (by omega)) rfl ?_
    rintro e w11 ⟨d11, rfl, D11, ex⟩
    refine ⟨_, rfl, .inr ex, ?_⟩
    replace B1 := B1.ext ex
    replace B2 := B2.ext ex
    replace E6 := E6.ext ex
    replace B6 := B6.ext ex
    rw [hn2, Fp.im_pow] at D11
    refine wm_one 4 (by kernel_rfl) ?_; refine om_call rfl Tryz.func152 rfl rfl rfl (Fmul_any D D11 _) rfl ?_
    rintro e w12 ⟨d12, rfl, D12, ex⟩
    refine ⟨_, rfl, .inr ex, ?_⟩
    replace B1 := B1.ext ex
    replace B2 := B2.ext ex
    replace E6 := E6.ext ex
    replace B6 := B6.ext ex
    skip
    refine wm_one 5 (by kernel_rfl) ?_; refine om_ef rfl (ef_storeW rfl rfl (by rw [D12.size]; kernel_rfl) B6 (by rw [D.size, D12.size]) D12.one) rfl ?_
    rintro _ w13 ⟨rfl, B13, cg⟩
    refine ⟨.inl rfl, ?_⟩
    replace B1 := B1.chg cg (by omega); replace B2 := B2.chg cg (by omega); replace E6 := E6.chg cg hg5'; replace B6 := B13
    refine wm_done (by kernel_rfl) ?_
    refine wq_nop ?_
    refine wq_then_norm (hK3 ?_)
    refine wc_seq ?_; intro K5 hK5
    refine wc_seq ?_; intro K6 hK6
    refine wc_draw (by kernel_rfl) 5 rfl ?_; intro wd4 ex hd4
    replace B1 := B1.ext ex
    replace B2 := B2.ext ex
    replace E6 := E6.ext ex
    replace B6 := B6.ext ex
    refine wm_y 0 rfl (by kernel_rfl) ((y_loadw rfl Tryz.underlying135 rfl (by rw [D12.size]; kernel_rfl) B6)) rfl ?_
    refine wm_y 2 rfl (by kernel_rfl) ((y_loadw rfl Tryz.underlying135 rfl (by rw [ha.size]; kernel_rfl) B1)) rfl ?_
    refine wm_one 1 (by kernel_rfl) ?_; refine om_call rfl Tryz.func222 rfl rfl rfl (Fsquare_any D12 _) rfl ?_
    rintro e w14 ⟨d14, rfl, D14, ex⟩
    refine ⟨_, rfl, .inr ex, ?_⟩
    replace B1 := B1.ext ex
    replace B2 := B2.ext ex
    replace E6 := E6.ext ex
    replace B6 := B6.ext ex
    skip
    refine wm_one 3 (by kernel_rfl) ?_; refine om_call rfl Tryz.func211 rfl rfl rfl (Fsame_any D14 ha _) rfl ?_
    rintro e w15 ⟨rfl, ex⟩
    refine ⟨_, rfl, .inr ex, ?_⟩
    replace B1 := B1.ext ex
    replace B2 := B2.ext ex
    replace E6 := E6.ext ex
    replace B6 := B6.ext ex
    skip
    refine wm_y 4 rfl (by kernel_rfl) (y_not rfl) rfl ?_
    refine wm_done (by kernel_rfl) ?_
    refine wq_nop ?_
    refine wq_then_norm (hK6 ?_)
    refine wc_cond rfl (fun hc2 => ?_) (fun hc2 => ?_)
    ·skip
     have hq2 : ¬ (Fp.guess a * Fp.im) * (Fp.guess a * Fp.im) = a := by simpa using hc2
     have hns : ¬ Fp.Sqr a := fun hs => by rcases hso hs with h | h <;> contradiction
     refine wc_seq ?_; intro K7 hK7
     refine wc_region ?_
     refine wl_y (y_build rfl (cells := fe (fun _ => 0)) (by kernel_rfl)) rfl ?_
     refine wl_ef (ef_storeW rfl rfl (by kernel_rfl) B2 rfl (fe_one _)) rfl ?_
     rintro _ w16 ⟨rfl, B16, cg⟩
     have E16 := E6.chg cg hg2'
     refine wl_y (y_assign rfl) rfl ?_
     refine wl_nil ?_
     refine wq_then_norm (hK7 ?_)
     refine wc_ret ?_
     refine wq_then_ret ?_
     refine hret rfl rfl B16 (fe_size _) ?_
     exact ⟨_, by rw [decide_eq_false hns], by rw [if_neg hns]; exact FE.zero, E16⟩
    ·skip
     have hq2 : (Fp.guess a * Fp.im) * (Fp.guess a * Fp.im) = a := by simpa using hc2
     have hns : Fp.Sqr a := Fp.sqr_of hq2
     refine wc_skip ?_
     refine wq_then_norm (hK5 ?_)
     refine wc_seq ?_; intro K8 hK8
     refine wc_seq ?_; intro K9 hK9
     refine wc_region ?_
     refine wl_y ((y_loadw rfl Tryz.underlying135 rfl (by rw [D12.size]; kernel_rfl) B6)) rfl ?_
     refine wl_call Tryz.func163 rfl rfl rfl (Fodd_any D12 _) rfl ?_
     rintro e w17 ⟨rfl, ex⟩
     refine ⟨_, rfl, ?_⟩
     replace B1 := B1.ext ex
     replace B2 := B2.ext ex
     replace E6 := E6.ext ex
     replace B6 := B6.ext ex
     skip
     refine wl_nil ?_
     refine wq_then_norm (hK9 ?_)
     refine wc_dec rfl (fun hc3 => ?_) (fun hc3 => ?_)
     ·skip
      refine wc_region ?_
      refine wl_y ((y_loadw rfl Tryz.underlying135 rfl (by rw [D12.size]; kernel_rfl) B6)) rfl ?_
      refine wl_call Tryz.func205 rfl rfl rfl (Fneg_any D12 _) rfl ?_
      rintro e w18 ⟨d18, rfl, D18, ex⟩
      refine ⟨_, rfl, ?_⟩
      replace B1 := B1.ext ex
      replace B2 := B2.ext ex
      replace E6 := E6.ext ex
      replace B6 := B6.ext ex
      skip
      refine wl_ef (ef_storeW rfl rfl (by rw [D18.size]; kernel_rfl) B6 (by rw [D12.size, D18.size]) D18.one) rfl ?_
      rintro _ w19 ⟨rfl, B19, cg⟩
      replace B1 := B1.chg cg (by omega); replace B2 := B2.chg cg (by omega); replace E6 := E6.chg cg hg5'; replace B6 := B19
      refine wl_nil ?_
      refine wq_then_norm (hK8 ?_)
      refine wc_seq ?_; intro K10 hK10
      refine wc_region ?_
      refine wl_y ((y_loadw rfl Tryz.underlying135 rfl (by rw [D18.size]; kernel_rfl) B6)) rfl ?_
      refine wl_ef (ef_storeW rfl rfl (by rw [D18.size]; kernel_rfl) B2 (by rw [fe_size, D18.size]) D18.one) rfl ?_
      rintro _ w20 ⟨rfl, B20, cg⟩
      have E20 := E6.chg cg hg2'
      refine wl_y (y_assign rfl) rfl ?_
      refine wl_nil ?_
      refine wq_then_norm (hK10 ?_)
      refine wc_ret ?_
      refine hret rfl rfl B20 D18.size ?_
      exact ⟨_, by rw [decide_eq_true hns], by rw [if_pos hns]; exact D18.congr (by unfold Fp.root; simp only [hq, ↓reduceIte, hc3]), E20⟩
     ·skip
      refine wc_skip ?_
      refine wq_then_norm (hK8 ?_)
      refine wc_seq ?_; intro K11 hK11
      refine wc_region ?_
      refine wl_y ((y_loadw rfl Tryz.underlying135 rfl (by rw [D12.size]; kernel_rfl) B6)) rfl ?_
      refine wl_ef (ef_storeW rfl rfl (by rw [D12.size]; kernel_rfl) B2 (by rw [fe_size, D12.size]) D12.one) rfl ?_
      rintro _ w20 ⟨rfl, B20, cg⟩
      have E20 := E6.chg cg hg2'
      refine wl_y (y_assign rfl) rfl ?_
      refine wl_nil ?_
      refine wq_then_norm (hK11 ?_)
      refine wc_ret ?_
      refine hret rfl rfl B20 D12.size ?_
      exact ⟨_, by rw [decide_eq_true hns], by rw [if_pos hns]; exact D12.congr (by unfold Fp.root; simp only [hq, ↓reduceIte, hc3]), E20⟩
   ·skip
    have hq : Fp.guess a * Fp.guess a = a := by simpa using hc1
    refine wc_skip ?_
    refine wq_then_norm (hK3 ?_)
    refine wc_seq ?_; intro K12 hK12
    refine wc_seq ?_; intro K13 hK13
    refine wc_draw (by kernel_rfl) 5 rfl ?_; intro wd4 ex hd4
    replace B1 := B1.ext ex
    replace B2 := B2.ext ex
    replace E6 := E6.ext ex
    replace B6 := B6.ext ex
    refine wm_y 0 rfl (by kernel_rfl) ((y_loadw rfl Tryz.underlying135 rfl (by rw [D.size]; kernel_rfl) B6)) rfl ?_
    refine wm_y 2 rfl (by kernel_rfl) ((y_loadw rfl Tryz.underlying135 rfl (by rw [ha.size]; kernel_rfl) B1)) rfl ?_
    refine wm_one 1 (by kernel_rfl) ?_; refine om_call rfl Tryz.func222 rfl rfl rfl (Fsquare_any D _) rfl ?_
    rintro e w14 ⟨d14, rfl, D14, ex⟩
    refine ⟨_, rfl, .inr ex, ?_⟩
    replace B1 := B1.ext ex
    replace B2 := B2.ext ex
    replace E6 := E6.ext ex
    replace B6 := B6.ext ex
    skip
    refine wm_one 3 (by kernel_rfl) ?_; refine om_call rfl Tryz.func211 rfl rfl rfl (Fsame_any D14 ha _) rfl ?_
    rintro e w15 ⟨rfl, ex⟩
    refine ⟨_, rfl, .inr ex, ?_⟩
    replace B1 := B1.ext ex
    replace B2 := B2.ext ex
    replace E6 := E6.ext ex
    replace B6 := B6.ext ex
    skip
    refine wm_y 4 rfl (by kernel_rfl) (y_not rfl) rfl ?_
    refine wm_done (by kernel_rfl) ?_
    refine wq_nop ?_
    refine wq_then_norm (hK13 ?_)
    refine wc_cond rfl (fun hc2 => ?_) (fun hc2 => ?_)
    ·skip
     have hq2 : ¬ (Fp.guess a) * (Fp.guess a) = a := by simpa using hc2
     have hns : ¬ Fp.Sqr a := fun hs => by rcases hso hs with h | h <;> contradiction
     refine wc_seq ?_; intro K14 hK14
     refine wc_region ?_
     refine wl_y (y_build rfl (cells := fe (fun _ => 0)) (by kernel_rfl)) rfl ?_
     refine wl_ef (ef_storeW rfl rfl (by kernel_rfl) B2 rfl (fe_one _)) rfl ?_
     rintro _ w16 ⟨rfl, B16, cg⟩
     have E16 := E6.chg cg hg2'
     refine wl_y (y_assign rfl) rfl ?_
     refine wl_nil ?_
     refine wq_then_norm (hK14 ?_)
     refine wc_ret ?_
     refine wq_then_ret ?_
     refine hret rfl rfl B16 (fe_size _) ?_
     exact ⟨_, by rw [decide_eq_false hns], by rw [if_neg hns]; exact FE.zero, E16⟩
    ·skip
     have hq2 : (Fp.guess a) * (Fp.guess a) = a := by simpa using hc2
     have hns : Fp.Sqr a := Fp.sqr_of hq2
     refine wc_skip ?_
     refine wq_then_norm (hK12 ?_)
     refine wc_seq ?_; intro K15 hK15
     refine wc_seq ?_; intro K16 hK16
     refine wc_region ?_
     refine wl_y ((y_loadw rfl Tryz.underlying135 rfl (by rw [D.size]; kernel_rfl) B6)) rfl ?_
     refine wl_call Tryz.func163 rfl rfl rfl (Fodd_any D _) rfl ?_
     rintro e w17 ⟨rfl, ex⟩
     refine ⟨_, rfl, ?_⟩
     replace B1 := B1.ext ex
     replace B2 := B2.ext ex
     replace E6 := E6.ext ex
     replace B6 := B6.ext ex
     skip
     refine wl_nil ?_
     refine wq_then_norm (hK16 ?_)
     refine wc_dec rfl (fun hc3 => ?_) (fun hc3 => ?_)
     ·skip
      refine wc_region ?_
      refine wl_y ((y_loadw rfl Tryz.underlying135 rfl (by rw [D.size]; kernel_rfl) B6)) rfl ?_
      refine wl_call Tryz.func205 rfl rfl rfl (Fneg_any D _) rfl ?_
      rintro e w18 ⟨d18, rfl, D18, ex⟩
      refine ⟨_, rfl, ?_⟩
      replace B1 := B1.ext ex
      replace B2 := B2.ext ex
      replace E6 := E6.ext ex
      replace B6 := B6.ext ex
      skip
      refine wl_ef (ef_storeW rfl rfl (by rw [D18.size]; kernel_rfl) B6 (by rw [D.size, D18.size]) D18.one) rfl ?_
      rintro _ w19 ⟨rfl, B19, cg⟩
      replace B1 := B1.chg cg (by omega); replace B2 := B2.chg cg (by omega); replace E6 := E6.chg cg hg5'; replace B6 := B19
      refine wl_nil ?_
      refine wq_then_norm (hK15 ?_)
      refine wc_seq ?_; intro K17 hK17
      refine wc_region ?_
      refine wl_y ((y_loadw rfl Tryz.underlying135 rfl (by rw [D18.size]; kernel_rfl) B6)) rfl ?_
      refine wl_ef (ef_storeW rfl rfl (by rw [D18.size]; kernel_rfl) B2 (by rw [fe_size, D18.size]) D18.one) rfl ?_
      rintro _ w20 ⟨rfl, B20, cg⟩
      have E20 := E6.chg cg hg2'
      refine wl_y (y_assign rfl) rfl ?_
      refine wl_nil ?_
      refine wq_then_norm (hK17 ?_)
      refine wc_ret ?_
      refine hret rfl rfl B20 D18.size ?_
      exact ⟨_, by rw [decide_eq_true hns], by rw [if_pos hns]; exact D18.congr (by unfold Fp.root; simp only [hq, ↓reduceIte, hc3]), E20⟩
     ·skip
      refine wc_skip ?_
      refine wq_then_norm (hK15 ?_)
      refine wc_seq ?_; intro K18 hK18
      refine wc_region ?_
      refine wl_y ((y_loadw rfl Tryz.underlying135 rfl (by rw [D.size]; kernel_rfl) B6)) rfl ?_
      refine wl_ef (ef_storeW rfl rfl (by rw [D.size]; kernel_rfl) B2 (by rw [fe_size, D.size]) D.one) rfl ?_
      rintro _ w20 ⟨rfl, B20, cg⟩
      have E20 := E6.chg cg hg2'
      refine wl_y (y_assign rfl) rfl ?_
      refine wl_nil ?_
      refine wq_then_norm (hK18 ?_)
      refine wc_ret ?_
      refine hret rfl rfl B20 D.size ?_
      exact ⟨_, by rw [decide_eq_true hns], by rw [if_pos hns]; exact D.congr (by unfold Fp.root; simp only [hq, ↓reduceIte, hc3]), E20⟩
  ·skip
   have hs0 := E2; have hb2 := B2.lt
   refine om_ef rfl (ef_alloc (Z := fe (fun _ => 0)) (by kernel_rfl)) rfl ?_
   rintro _ w5 ⟨g5, rfl, B5, hg5, ex⟩
   refine ⟨.inr ex, ?_⟩
   replace B1 := B1.ext ex
   replace B2 := B2.ext ex
   replace E2 := E2.ext ex
   replace H3 := H3.ext ex
   have hg5' : w.heap.size ≤ g5 := by have := hs0.size; omega
   refine wm_one 2 (by kernel_rfl) ?_; refine om_call rfl Tryz.func220 rfl rfl rfl (Fpow_any ha _ 32 32 _ _ H3 (by omega)) rfl ?_
   rintro e w4 ⟨ds, rfl, D, ex⟩
   refine ⟨_, rfl, .inr ex, ?_⟩
   replace B1 := B1.ext ex
   replace B2 := B2.ext ex
   replace E2 := E2.ext ex
   replace H3 := H3.ext ex
   replace B5 := B5.ext ex
   rw [hn1] at D; replace D : FE ds (Fp.guess a) := D
   refine wm_one 4 (by kernel_rfl) ?_; refine om_ef rfl (ef_storeW rfl rfl (by rw [D.size]; kernel_rfl) B5 (by rw [fe_size, D.size]) D.one) rfl ?_
   rintro _ w6 ⟨rfl, B6, cg⟩
   refine ⟨.inl rfl, ?_⟩
   replace B1 := B1.chg cg (by omega); replace B2 := B2.chg cg (by omega); have E6 := E2.chg cg hg5'
   refine wm_done (by kernel_rfl) ?_
   refine wq_nop ?_
   refine wq_then_norm (hK2 ?_)
   refine wc_seq ?_; intro K19 hK19
   refine wc_seq ?_; intro K20 hK20
   refine wc_draw (by kernel_rfl) 5 rfl ?_; intro wd2 ex hd2
   replace B1 := B1.ext ex
   replace B2 := B2.ext ex
   replace E6 := E6.ext ex
   replace B6 := B6.ext ex
   refine wm_y 0 rfl (by kernel_rfl) ((y_loadw rfl Tryz.underlying135 rfl (by rw [D.size]; kernel_rfl) B6)) rfl ?_
   refine wm_y 2 rfl (by kernel_rfl) ((y_loadw rfl Tryz.underlying135 rfl (by rw [ha.size]; kernel_rfl) B1)) rfl ?_
   refine wm_one 1 (by kernel_rfl) ?_; refine om_call rfl Tryz.func222 rfl rfl rfl (Fsquare_any D _) rfl ?_
   rintro e w7 ⟨d7, rfl, D7, ex⟩
   refine ⟨_, rfl, .inr ex, ?_⟩
   replace B1 := B1.ext ex
   replace B2 := B2.ext ex
   replace E6 := E6.ext ex
   replace B6 := B6.ext ex
   skip
   refine wm_one 3 (by kernel_rfl) ?_; refine om_call rfl Tryz.func211 rfl rfl rfl (Fsame_any D7 ha _) rfl ?_
   rintro e w8 ⟨rfl, ex⟩
   refine ⟨_, rfl, .inr ex, ?_⟩
   replace B1 := B1.ext ex
   replace B2 := B2.ext ex
   replace E6 := E6.ext ex
   replace B6 := B6.ext ex
   skip
   refine wm_y 4 rfl (by kernel_rfl) (y_not rfl) rfl ?_
   refine wm_done (by kernel_rfl) ?_
   refine wq_nop ?_
   refine wq_then_norm (hK20 ?_)
   refine wc_cond rfl (fun hc1 => ?_) (fun hc1 => ?_)
   ·skip
    have hq : ¬ Fp.guess a * Fp.guess a = a := by simpa using hc1
    refine wc_draw (by kernel_rfl) 6 rfl ?_; intro wd3 ex hd3
    replace B1 := B1.ext ex
    replace B2 := B2.ext ex
    replace E6 := E6.ext ex
    replace B6 := B6.ext ex
    refine wm_y 0 rfl (by kernel_rfl) ((y_loadw rfl Tryz.underlying135 rfl (by rw [D.size]; kernel_rfl) B6)) rfl ?_
    refine wm_one 1 (by kernel_rfl) ?_; refine om_call rfl Tryz.func151 rfl rfl rfl (Fnum_any 2 _ (by omega)) rfl ?_
    rintro e w9 ⟨d9, rfl, D9, ex⟩
    refine ⟨_, rfl, .inr ex, ?_⟩
    replace B1 := B1.ext ex
    replace B2 := B2.ext ex
    replace E6 := E6.ext ex
    replace B6 := B6.ext ex
    skip
    refine wm_one 2 (by kernel_rfl) ?_; refine om_call rfl Tryz.func221 rfl rfl rfl (power_any 251 31 _) rfl ?_
    rintro e w10 ⟨g10, rfl, H10, ex⟩
    refine ⟨_, rfl, .inr ex, ?_⟩
    replace B1 := B1.ext ex
    replace B2 := B2.ext ex
    replace E6 := E6.ext ex
    replace B6 := B6.ext ex
    skip
    refine wm_one 3 (by kernel_rfl) ?_; refine om_call rfl Tryz.func220 rfl rfl rfl (Fpow_any D9 _ 32 32 _ _ H10 (by omega)) rfl ?_
    rintro e w11 ⟨d11, rfl, D11, ex⟩
    refine ⟨_, rfl, .inr ex, ?_⟩
    replace B1 := B1.ext ex
    replace B2 := B2.ext ex
    replace E6 := E6.ext ex
    replace B6 := B6.ext ex
    rw [hn2, Fp.im_pow] at D11
    refine wm_one 4 (by kernel_rfl) ?_; refine om_call rfl Tryz.func152 rfl rfl rfl (Fmul_any D D11 _) rfl ?_
    rintro e w12 ⟨d12, rfl, D12, ex⟩
    refine ⟨_, rfl, .inr ex, ?_⟩
    replace B1 := B1.ext ex
    replace B2 := B2.ext ex
    replace E6 := E6.ext ex
    replace B6 := B6.ext ex
    skip
    refine wm_one 5 (by kernel_rfl) ?_; refine om_ef rfl (ef_storeW rfl rfl (by rw [D12.size]; kernel_rfl) B6 (by rw [D.size, D12.size]) D12.one) rfl ?_
    rintro _ w13 ⟨rfl, B13, cg⟩
    refine ⟨.inl rfl, ?_⟩
    replace B1 := B1.chg cg (by omega); replace B2 := B2.chg cg (by omega); replace E6 := E6.chg cg hg5'; replace B6 := B13
    refine wm_done (by kernel_rfl) ?_
    refine wq_nop ?_
    refine wq_then_norm (hK19 ?_)
    refine wc_seq ?_; intro K21 hK21
    refine wc_seq ?_; intro K22 hK22
    refine wc_draw (by kernel_rfl) 5 rfl ?_; intro wd4 ex hd4
    replace B1 := B1.ext ex
    replace B2 := B2.ext ex
    replace E6 := E6.ext ex
    replace B6 := B6.ext ex
    refine wm_y 0 rfl (by kernel_rfl) ((y_loadw rfl Tryz.underlying135 rfl (by rw [D12.size]; kernel_rfl) B6)) rfl ?_
    refine wm_y 2 rfl (by kernel_rfl) ((y_loadw rfl Tryz.underlying135 rfl (by rw [ha.size]; kernel_rfl) B1)) rfl ?_
    refine wm_one 1 (by kernel_rfl) ?_; refine om_call rfl Tryz.func222 rfl rfl rfl (Fsquare_any D12 _) rfl ?_
    rintro e w14 ⟨d14, rfl, D14, ex⟩
    refine ⟨_, rfl, .inr ex, ?_⟩
    replace B1 := B1.ext ex
    replace B2 := B2.ext ex
    replace E6 := E6.ext ex
    replace B6 := B6.ext ex
    skip
    refine wm_one 3 (by kernel_rfl) ?_; refine om_call rfl Tryz.func211 rfl rfl rfl (Fsame_any D14 ha _) rfl ?_
    rintro e w15 ⟨rfl, ex⟩
    refine ⟨_, rfl, .inr ex, ?_⟩
    replace B1 := B1.ext ex
    replace B2 := B2.ext ex
    replace E6 := E6.ext ex
    replace B6 := B6.ext ex
    skip
    refine wm_y 4 rfl (by kernel_rfl) (y_not rfl) rfl ?_
    refine wm_done (by kernel_rfl) ?_
    refine wq_nop ?_
    refine wq_then_norm (hK22 ?_)
    refine wc_cond rfl (fun hc2 => ?_) (fun hc2 => ?_)
    ·skip
     have hq2 : ¬ (Fp.guess a * Fp.im) * (Fp.guess a * Fp.im) = a := by simpa using hc2
     have hns : ¬ Fp.Sqr a := fun hs => by rcases hso hs with h | h <;> contradiction
     refine wc_seq ?_; intro K23 hK23
     refine wc_region ?_
     refine wl_y (y_build rfl (cells := fe (fun _ => 0)) (by kernel_rfl)) rfl ?_
     refine wl_ef (ef_storeW rfl rfl (by kernel_rfl) B2 rfl (fe_one _)) rfl ?_
     rintro _ w16 ⟨rfl, B16, cg⟩
     have E16 := E6.chg cg hg2'
     refine wl_y (y_assign rfl) rfl ?_
     refine wl_nil ?_
     refine wq_then_norm (hK23 ?_)
     refine wc_ret ?_
     refine wq_then_ret ?_
     refine hret rfl rfl B16 (fe_size _) ?_
     exact ⟨_, by rw [decide_eq_false hns], by rw [if_neg hns]; exact FE.zero, E16⟩
    ·skip
     have hq2 : (Fp.guess a * Fp.im) * (Fp.guess a * Fp.im) = a := by simpa using hc2
     have hns : Fp.Sqr a := Fp.sqr_of hq2
     refine wc_skip ?_
     refine wq_then_norm (hK21 ?_)
     refine wc_seq ?_; intro K24 hK24
     refine wc_seq ?_; intro K25 hK25
     refine wc_region ?_
     refine wl_y ((y_loadw rfl Tryz.underlying135 rfl (by rw [D12.size]; kernel_rfl) B6)) rfl ?_
     refine wl_call Tryz.func163 rfl rfl rfl (Fodd_any D12 _) rfl ?_
     rintro e w17 ⟨rfl, ex⟩
     refine ⟨_, rfl, ?_⟩
     replace B1 := B1.ext ex
     replace B2 := B2.ext ex
     replace E6 := E6.ext ex
     replace B6 := B6.ext ex
     skip
     refine wl_nil ?_
     refine wq_then_norm (hK25 ?_)
     refine wc_dec rfl (fun hc3 => ?_) (fun hc3 => ?_)
     ·skip
      refine wc_region ?_
      refine wl_y ((y_loadw rfl Tryz.underlying135 rfl (by rw [D12.size]; kernel_rfl) B6)) rfl ?_
      refine wl_call Tryz.func205 rfl rfl rfl (Fneg_any D12 _) rfl ?_
      rintro e w18 ⟨d18, rfl, D18, ex⟩
      refine ⟨_, rfl, ?_⟩
      replace B1 := B1.ext ex
      replace B2 := B2.ext ex
      replace E6 := E6.ext ex
      replace B6 := B6.ext ex
      skip
      refine wl_ef (ef_storeW rfl rfl (by rw [D18.size]; kernel_rfl) B6 (by rw [D12.size, D18.size]) D18.one) rfl ?_
      rintro _ w19 ⟨rfl, B19, cg⟩
      replace B1 := B1.chg cg (by omega); replace B2 := B2.chg cg (by omega); replace E6 := E6.chg cg hg5'; replace B6 := B19
      refine wl_nil ?_
      refine wq_then_norm (hK24 ?_)
      refine wc_seq ?_; intro K26 hK26
      refine wc_region ?_
      refine wl_y ((y_loadw rfl Tryz.underlying135 rfl (by rw [D18.size]; kernel_rfl) B6)) rfl ?_
      refine wl_ef (ef_storeW rfl rfl (by rw [D18.size]; kernel_rfl) B2 (by rw [fe_size, D18.size]) D18.one) rfl ?_
      rintro _ w20 ⟨rfl, B20, cg⟩
      have E20 := E6.chg cg hg2'
      refine wl_y (y_assign rfl) rfl ?_
      refine wl_nil ?_
      refine wq_then_norm (hK26 ?_)
      refine wc_ret ?_
      refine hret rfl rfl B20 D18.size ?_
      exact ⟨_, by rw [decide_eq_true hns], by rw [if_pos hns]; exact D18.congr (by unfold Fp.root; simp only [hq, ↓reduceIte, hc3]), E20⟩
     ·skip
      refine wc_skip ?_
      refine wq_then_norm (hK24 ?_)
      refine wc_seq ?_; intro K27 hK27
      refine wc_region ?_
      refine wl_y ((y_loadw rfl Tryz.underlying135 rfl (by rw [D12.size]; kernel_rfl) B6)) rfl ?_
      refine wl_ef (ef_storeW rfl rfl (by rw [D12.size]; kernel_rfl) B2 (by rw [fe_size, D12.size]) D12.one) rfl ?_
      rintro _ w20 ⟨rfl, B20, cg⟩
      have E20 := E6.chg cg hg2'
      refine wl_y (y_assign rfl) rfl ?_
      refine wl_nil ?_
      refine wq_then_norm (hK27 ?_)
      refine wc_ret ?_
      refine hret rfl rfl B20 D12.size ?_
      exact ⟨_, by rw [decide_eq_true hns], by rw [if_pos hns]; exact D12.congr (by unfold Fp.root; simp only [hq, ↓reduceIte, hc3]), E20⟩
   ·skip
    have hq : Fp.guess a * Fp.guess a = a := by simpa using hc1
    refine wc_skip ?_
    refine wq_then_norm (hK19 ?_)
    refine wc_seq ?_; intro K28 hK28
    refine wc_seq ?_; intro K29 hK29
    refine wc_draw (by kernel_rfl) 5 rfl ?_; intro wd4 ex hd4
    replace B1 := B1.ext ex
    replace B2 := B2.ext ex
    replace E6 := E6.ext ex
    replace B6 := B6.ext ex
    refine wm_y 0 rfl (by kernel_rfl) ((y_loadw rfl Tryz.underlying135 rfl (by rw [D.size]; kernel_rfl) B6)) rfl ?_
    refine wm_y 2 rfl (by kernel_rfl) ((y_loadw rfl Tryz.underlying135 rfl (by rw [ha.size]; kernel_rfl) B1)) rfl ?_
    refine wm_one 1 (by kernel_rfl) ?_; refine om_call rfl Tryz.func222 rfl rfl rfl (Fsquare_any D _) rfl ?_
    rintro e w14 ⟨d14, rfl, D14, ex⟩
    refine ⟨_, rfl, .inr ex, ?_⟩
    replace B1 := B1.ext ex
    replace B2 := B2.ext ex
    replace E6 := E6.ext ex
    replace B6 := B6.ext ex
    skip
    refine wm_one 3 (by kernel_rfl) ?_; refine om_call rfl Tryz.func211 rfl rfl rfl (Fsame_any D14 ha _) rfl ?_
    rintro e w15 ⟨rfl, ex⟩
    refine ⟨_, rfl, .inr ex, ?_⟩
    replace B1 := B1.ext ex
    replace B2 := B2.ext ex
    replace E6 := E6.ext ex
    replace B6 := B6.ext ex
    skip
    refine wm_y 4 rfl (by kernel_rfl) (y_not rfl) rfl ?_
    refine wm_done (by kernel_rfl) ?_
    refine wq_nop ?_
    refine wq_then_norm (hK29 ?_)
    refine wc_cond rfl (fun hc2 => ?_) (fun hc2 => ?_)
    ·skip
     have hq2 : ¬ (Fp.guess a) * (Fp.guess a) = a := by simpa using hc2
     have hns : ¬ Fp.Sqr a := fun hs => by rcases hso hs with h | h <;> contradiction
     refine wc_seq ?_; intro K30 hK30
     refine wc_region ?_
     refine wl_y (y_build rfl (cells := fe (fun _ => 0)) (by kernel_rfl)) rfl ?_
     refine wl_ef (ef_storeW rfl rfl (by kernel_rfl) B2 rfl (fe_one _)) rfl ?_
     rintro _ w16 ⟨rfl, B16, cg⟩
     have E16 := E6.chg cg hg2'
     refine wl_y (y_assign rfl) rfl ?_
     refine wl_nil ?_
     refine wq_then_norm (hK30 ?_)
     refine wc_ret ?_
     refine wq_then_ret ?_
     refine hret rfl rfl B16 (fe_size _) ?_
     exact ⟨_, by rw [decide_eq_false hns], by rw [if_neg hns]; exact FE.zero, E16⟩
    ·skip
     have hq2 : (Fp.guess a) * (Fp.guess a) = a := by simpa using hc2
     have hns : Fp.Sqr a := Fp.sqr_of hq2
     refine wc_skip ?_
     refine wq_then_norm (hK28 ?_)
     refine wc_seq ?_; intro K31 hK31
     refine wc_seq ?_; intro K32 hK32
     refine wc_region ?_
     refine wl_y ((y_loadw rfl Tryz.underlying135 rfl (by rw [D.size]; kernel_rfl) B6)) rfl ?_
     refine wl_call Tryz.func163 rfl rfl rfl (Fodd_any D _) rfl ?_
     rintro e w17 ⟨rfl, ex⟩
     refine ⟨_, rfl, ?_⟩
     replace B1 := B1.ext ex
     replace B2 := B2.ext ex
     replace E6 := E6.ext ex
     replace B6 := B6.ext ex
     skip
     refine wl_nil ?_
     refine wq_then_norm (hK32 ?_)
     refine wc_dec rfl (fun hc3 => ?_) (fun hc3 => ?_)
     ·skip
      refine wc_region ?_
      refine wl_y ((y_loadw rfl Tryz.underlying135 rfl (by rw [D.size]; kernel_rfl) B6)) rfl ?_
      refine wl_call Tryz.func205 rfl rfl rfl (Fneg_any D _) rfl ?_
      rintro e w18 ⟨d18, rfl, D18, ex⟩
      refine ⟨_, rfl, ?_⟩
      replace B1 := B1.ext ex
      replace B2 := B2.ext ex
      replace E6 := E6.ext ex
      replace B6 := B6.ext ex
      skip
      refine wl_ef (ef_storeW rfl rfl (by rw [D18.size]; kernel_rfl) B6 (by rw [D.size, D18.size]) D18.one) rfl ?_
      rintro _ w19 ⟨rfl, B19, cg⟩
      replace B1 := B1.chg cg (by omega); replace B2 := B2.chg cg (by omega); replace E6 := E6.chg cg hg5'; replace B6 := B19
      refine wl_nil ?_
      refine wq_then_norm (hK31 ?_)
      refine wc_seq ?_; intro K33 hK33
      refine wc_region ?_
      refine wl_y ((y_loadw rfl Tryz.underlying135 rfl (by rw [D18.size]; kernel_rfl) B6)) rfl ?_
      refine wl_ef (ef_storeW rfl rfl (by rw [D18.size]; kernel_rfl) B2 (by rw [fe_size, D18.size]) D18.one) rfl ?_
      rintro _ w20 ⟨rfl, B20, cg⟩
      have E20 := E6.chg cg hg2'
      refine wl_y (y_assign rfl) rfl ?_
      refine wl_nil ?_
      refine wq_then_norm (hK33 ?_)
      refine wc_ret ?_
      refine hret rfl rfl B20 D18.size ?_
      exact ⟨_, by rw [decide_eq_true hns], by rw [if_pos hns]; exact D18.congr (by unfold Fp.root; simp only [hq, ↓reduceIte, hc3]), E20⟩
     ·skip
      refine wc_skip ?_
      refine wq_then_norm (hK31 ?_)
      refine wc_seq ?_; intro K34 hK34
      refine wc_region ?_
      refine wl_y ((y_loadw rfl Tryz.underlying135 rfl (by rw [D.size]; kernel_rfl) B6)) rfl ?_
      refine wl_ef (ef_storeW rfl rfl (by rw [D.size]; kernel_rfl) B2 (by rw [fe_size, D.size]) D.one) rfl ?_
      rintro _ w20 ⟨rfl, B20, cg⟩
      have E20 := E6.chg cg hg2'
      refine wl_y (y_assign rfl) rfl ?_
      refine wl_nil ?_
      refine wq_then_norm (hK34 ?_)
      refine wc_ret ?_
      refine hret rfl rfl B20 D.size ?_
      exact ⟨_, by rw [decide_eq_true hns], by rw [if_pos hns]; exact D.congr (by unfold Fp.root; simp only [hq, ↓reduceIte, hc3]), E20⟩
 ·skip
  have hs0 := E2; have hb2 := B2.lt
  refine om_ef rfl (ef_alloc (Z := fe (fun _ => 0)) (by kernel_rfl)) rfl ?_
  rintro _ w5 ⟨g5, rfl, B5, hg5, ex⟩
  refine ⟨.inr ex, ?_⟩
  replace B1 := B1.ext ex
  replace B2 := B2.ext ex
  replace E2 := E2.ext ex
  have hg5' : w.heap.size ≤ g5 := by have := hs0.size; omega
  refine wm_one 1 (by kernel_rfl) ?_; refine om_call rfl Tryz.func221 rfl rfl rfl (power_any 254 15 _) rfl ?_
  rintro e w3 ⟨g3, rfl, H3, ex⟩
  refine ⟨_, rfl, .inr ex, ?_⟩
  replace B1 := B1.ext ex
  replace B2 := B2.ext ex
  replace E2 := E2.ext ex
  replace B5 := B5.ext ex
  skip
  refine wm_one 2 (by kernel_rfl) ?_; refine om_call rfl Tryz.func220 rfl rfl rfl (Fpow_any ha _ 32 32 _ _ H3 (by omega)) rfl ?_
  rintro e w4 ⟨ds, rfl, D, ex⟩
  refine ⟨_, rfl, .inr ex, ?_⟩
  replace B1 := B1.ext ex
  replace B2 := B2.ext ex
  replace E2 := E2.ext ex
  replace B5 := B5.ext ex
  replace H3 := H3.ext ex
  rw [hn1] at D; replace D : FE ds (Fp.guess a) := D
  refine wm_one 4 (by kernel_rfl) ?_; refine om_ef rfl (ef_storeW rfl rfl (by rw [D.size]; kernel_rfl) B5 (by rw [fe_size, D.size]) D.one) rfl ?_
  rintro _ w6 ⟨rfl, B6, cg⟩
  refine ⟨.inl rfl, ?_⟩
  replace B1 := B1.chg cg (by omega); replace B2 := B2.chg cg (by omega); have E6 := E2.chg cg hg5'
  refine wm_done (by kernel_rfl) ?_
  refine wq_nop ?_
  refine wq_then_norm (hK2 ?_)
  refine wc_seq ?_; intro K35 hK35
  refine wc_seq ?_; intro K36 hK36
  refine wc_draw (by kernel_rfl) 5 rfl ?_; intro wd2 ex hd2
  replace B1 := B1.ext ex
  replace B2 := B2.ext ex
  replace E6 := E6.ext ex
  replace B6 := B6.ext ex
  refine wm_y 0 rfl (by kernel_rfl) ((y_loadw rfl Tryz.underlying135 rfl (by rw [D.size]; kernel_rfl) B6)) rfl ?_
  refine wm_y 2 rfl (by kernel_rfl) ((y_loadw rfl Tryz.underlying135 rfl (by rw [ha.size]; kernel_rfl) B1)) rfl ?_
  refine wm_one 1 (by kernel_rfl) ?_; refine om_call rfl Tryz.func222 rfl rfl rfl (Fsquare_any D _) rfl ?_
  rintro e w7 ⟨d7, rfl, D7, ex⟩
  refine ⟨_, rfl, .inr ex, ?_⟩
  replace B1 := B1.ext ex
  replace B2 := B2.ext ex
  replace E6 := E6.ext ex
  replace B6 := B6.ext ex
  skip
  refine wm_one 3 (by kernel_rfl) ?_; refine om_call rfl Tryz.func211 rfl rfl rfl (Fsame_any D7 ha _) rfl ?_
  rintro e w8 ⟨rfl, ex⟩
  refine ⟨_, rfl, .inr ex, ?_⟩
  replace B1 := B1.ext ex
  replace B2 := B2.ext ex
  replace E6 := E6.ext ex
  replace B6 := B6.ext ex
  skip
  refine wm_y 4 rfl (by kernel_rfl) (y_not rfl) rfl ?_
  refine wm_done (by kernel_rfl) ?_
  refine wq_nop ?_
  refine wq_then_norm (hK36 ?_)
  refine wc_cond rfl (fun hc1 => ?_) (fun hc1 => ?_)
  ·skip
   have hq : ¬ Fp.guess a * Fp.guess a = a := by simpa using hc1
   refine wc_draw (by kernel_rfl) 6 rfl ?_; intro wd3 ex hd3
   replace B1 := B1.ext ex
   replace B2 := B2.ext ex
   replace E6 := E6.ext ex
   replace B6 := B6.ext ex
   refine wm_y 0 rfl (by kernel_rfl) ((y_loadw rfl Tryz.underlying135 rfl (by rw [D.size]; kernel_rfl) B6)) rfl ?_
   refine wm_one 1 (by kernel_rfl) ?_; refine om_call rfl Tryz.func151 rfl rfl rfl (Fnum_any 2 _ (by omega)) rfl ?_
   rintro e w9 ⟨d9, rfl, D9, ex⟩
   refine ⟨_, rfl, .inr ex, ?_⟩
   replace B1 := B1.ext ex
   replace B2 := B2.ext ex
   replace E6 := E6.ext ex
   replace B6 := B6.ext ex
   skip
   refine wm_one 2 (by kernel_rfl) ?_; refine om_call rfl Tryz.func221 rfl rfl rfl (power_any 251 31 _) rfl ?_
   rintro e w10 ⟨g10, rfl, H10, ex⟩
   refine ⟨_, rfl, .inr ex, ?_⟩
   replace B1 := B1.ext ex
   replace B2 := B2.ext ex
   replace E6 := E6.ext ex
   replace B6 := B6.ext ex
   skip
   refine wm_one 3 (by kernel_rfl) ?_; refine om_call rfl Tryz.func220 rfl rfl rfl (Fpow_any D9 _ 32 32 _ _ H10 (by omega)) rfl ?_
   rintro e w11 ⟨d11, rfl, D11, ex⟩
   refine ⟨_, rfl, .inr ex, ?_⟩
   replace B1 := B1.ext ex
   replace B2 := B2.ext ex
   replace E6 := E6.ext ex
   replace B6 := B6.ext ex
   rw [hn2, Fp.im_pow] at D11
   refine wm_one 4 (by kernel_rfl) ?_; refine om_call rfl Tryz.func152 rfl rfl rfl (Fmul_any D D11 _) rfl ?_
   rintro e w12 ⟨d12, rfl, D12, ex⟩
   refine ⟨_, rfl, .inr ex, ?_⟩
   replace B1 := B1.ext ex
   replace B2 := B2.ext ex
   replace E6 := E6.ext ex
   replace B6 := B6.ext ex
   skip
   refine wm_one 5 (by kernel_rfl) ?_; refine om_ef rfl (ef_storeW rfl rfl (by rw [D12.size]; kernel_rfl) B6 (by rw [D.size, D12.size]) D12.one) rfl ?_
   rintro _ w13 ⟨rfl, B13, cg⟩
   refine ⟨.inl rfl, ?_⟩
   replace B1 := B1.chg cg (by omega); replace B2 := B2.chg cg (by omega); replace E6 := E6.chg cg hg5'; replace B6 := B13
   refine wm_done (by kernel_rfl) ?_
   refine wq_nop ?_
   refine wq_then_norm (hK35 ?_)
   refine wc_seq ?_; intro K37 hK37
   refine wc_seq ?_; intro K38 hK38
   refine wc_draw (by kernel_rfl) 5 rfl ?_; intro wd4 ex hd4
   replace B1 := B1.ext ex
   replace B2 := B2.ext ex
   replace E6 := E6.ext ex
   replace B6 := B6.ext ex
   refine wm_y 0 rfl (by kernel_rfl) ((y_loadw rfl Tryz.underlying135 rfl (by rw [D12.size]; kernel_rfl) B6)) rfl ?_
   refine wm_y 2 rfl (by kernel_rfl) ((y_loadw rfl Tryz.underlying135 rfl (by rw [ha.size]; kernel_rfl) B1)) rfl ?_
   refine wm_one 1 (by kernel_rfl) ?_; refine om_call rfl Tryz.func222 rfl rfl rfl (Fsquare_any D12 _) rfl ?_
   rintro e w14 ⟨d14, rfl, D14, ex⟩
   refine ⟨_, rfl, .inr ex, ?_⟩
   replace B1 := B1.ext ex
   replace B2 := B2.ext ex
   replace E6 := E6.ext ex
   replace B6 := B6.ext ex
   skip
   refine wm_one 3 (by kernel_rfl) ?_; refine om_call rfl Tryz.func211 rfl rfl rfl (Fsame_any D14 ha _) rfl ?_
   rintro e w15 ⟨rfl, ex⟩
   refine ⟨_, rfl, .inr ex, ?_⟩
   replace B1 := B1.ext ex
   replace B2 := B2.ext ex
   replace E6 := E6.ext ex
   replace B6 := B6.ext ex
   skip
   refine wm_y 4 rfl (by kernel_rfl) (y_not rfl) rfl ?_
   refine wm_done (by kernel_rfl) ?_
   refine wq_nop ?_
   refine wq_then_norm (hK38 ?_)
   refine wc_cond rfl (fun hc2 => ?_) (fun hc2 => ?_)
   ·skip
    have hq2 : ¬ (Fp.guess a * Fp.im) * (Fp.guess a * Fp.im) = a := by simpa using hc2
    have hns : ¬ Fp.Sqr a := fun hs => by rcases hso hs with h | h <;> contradiction
    refine wc_seq ?_; intro K39 hK39
    refine wc_region ?_
    refine wl_y (y_build rfl (cells := fe (fun _ => 0)) (by kernel_rfl)) rfl ?_
    refine wl_ef (ef_storeW rfl rfl (by kernel_rfl) B2 rfl (fe_one _)) rfl ?_
    rintro _ w16 ⟨rfl, B16, cg⟩
    have E16 := E6.chg cg hg2'
    refine wl_y (y_assign rfl) rfl ?_
    refine wl_nil ?_
    refine wq_then_norm (hK39 ?_)
    refine wc_ret ?_
    refine wq_then_ret ?_
    refine hret rfl rfl B16 (fe_size _) ?_
    exact ⟨_, by rw [decide_eq_false hns], by rw [if_neg hns]; exact FE.zero, E16⟩
   ·skip
    have hq2 : (Fp.guess a * Fp.im) * (Fp.guess a * Fp.im) = a := by simpa using hc2
    have hns : Fp.Sqr a := Fp.sqr_of hq2
    refine wc_skip ?_
    refine wq_then_norm (hK37 ?_)
    refine wc_seq ?_; intro K40 hK40
    refine wc_seq ?_; intro K41 hK41
    refine wc_region ?_
    refine wl_y ((y_loadw rfl Tryz.underlying135 rfl (by rw [D12.size]; kernel_rfl) B6)) rfl ?_
    refine wl_call Tryz.func163 rfl rfl rfl (Fodd_any D12 _) rfl ?_
    rintro e w17 ⟨rfl, ex⟩
    refine ⟨_, rfl, ?_⟩
    replace B1 := B1.ext ex
    replace B2 := B2.ext ex
    replace E6 := E6.ext ex
    replace B6 := B6.ext ex
    skip
    refine wl_nil ?_
    refine wq_then_norm (hK41 ?_)
    refine wc_dec rfl (fun hc3 => ?_) (fun hc3 => ?_)
    ·skip
     refine wc_region ?_
     refine wl_y ((y_loadw rfl Tryz.underlying135 rfl (by rw [D12.size]; kernel_rfl) B6)) rfl ?_
     refine wl_call Tryz.func205 rfl rfl rfl (Fneg_any D12 _) rfl ?_
     rintro e w18 ⟨d18, rfl, D18, ex⟩
     refine ⟨_, rfl, ?_⟩
     replace B1 := B1.ext ex
     replace B2 := B2.ext ex
     replace E6 := E6.ext ex
     replace B6 := B6.ext ex
     skip
     refine wl_ef (ef_storeW rfl rfl (by rw [D18.size]; kernel_rfl) B6 (by rw [D12.size, D18.size]) D18.one) rfl ?_
     rintro _ w19 ⟨rfl, B19, cg⟩
     replace B1 := B1.chg cg (by omega); replace B2 := B2.chg cg (by omega); replace E6 := E6.chg cg hg5'; replace B6 := B19
     refine wl_nil ?_
     refine wq_then_norm (hK40 ?_)
     refine wc_seq ?_; intro K42 hK42
     refine wc_region ?_
     refine wl_y ((y_loadw rfl Tryz.underlying135 rfl (by rw [D18.size]; kernel_rfl) B6)) rfl ?_
     refine wl_ef (ef_storeW rfl rfl (by rw [D18.size]; kernel_rfl) B2 (by rw [fe_size, D18.size]) D18.one) rfl ?_
     rintro _ w20 ⟨rfl, B20, cg⟩
     have E20 := E6.chg cg hg2'
     refine wl_y (y_assign rfl) rfl ?_
     refine wl_nil ?_
     refine wq_then_norm (hK42 ?_)
     refine wc_ret ?_
     refine hret rfl rfl B20 D18.size ?_
     exact ⟨_, by rw [decide_eq_true hns], by rw [if_pos hns]; exact D18.congr (by unfold Fp.root; simp only [hq, ↓reduceIte, hc3]), E20⟩
    ·skip
     refine wc_skip ?_
     refine wq_then_norm (hK40 ?_)
     refine wc_seq ?_; intro K43 hK43
     refine wc_region ?_
     refine wl_y ((y_loadw rfl Tryz.underlying135 rfl (by rw [D12.size]; kernel_rfl) B6)) rfl ?_
     refine wl_ef (ef_storeW rfl rfl (by rw [D12.size]; kernel_rfl) B2 (by rw [fe_size, D12.size]) D12.one) rfl ?_
     rintro _ w20 ⟨rfl, B20, cg⟩
     have E20 := E6.chg cg hg2'
     refine wl_y (y_assign rfl) rfl ?_
     refine wl_nil ?_
     refine wq_then_norm (hK43 ?_)
     refine wc_ret ?_
     refine hret rfl rfl B20 D12.size ?_
     exact ⟨_, by rw [decide_eq_true hns], by rw [if_pos hns]; exact D12.congr (by unfold Fp.root; simp only [hq, ↓reduceIte, hc3]), E20⟩
  ·skip
   have hq : Fp.guess a * Fp.guess a = a := by simpa using hc1
   refine wc_skip ?_
   refine wq_then_norm (hK35 ?_)
   refine wc_seq ?_; intro K44 hK44
   refine wc_seq ?_; intro K45 hK45
   refine wc_draw (by kernel_rfl) 5 rfl ?_; intro wd4 ex hd4
   replace B1 := B1.ext ex
   replace B2 := B2.ext ex
   replace E6 := E6.ext ex
   replace B6 := B6.ext ex
   refine wm_y 0 rfl (by kernel_rfl) ((y_loadw rfl Tryz.underlying135 rfl (by rw [D.size]; kernel_rfl) B6)) rfl ?_
   refine wm_y 2 rfl (by kernel_rfl) ((y_loadw rfl Tryz.underlying135 rfl (by rw [ha.size]; kernel_rfl) B1)) rfl ?_
   refine wm_one 1 (by kernel_rfl) ?_; refine om_call rfl Tryz.func222 rfl rfl rfl (Fsquare_any D _) rfl ?_
   rintro e w14 ⟨d14, rfl, D14, ex⟩
   refine ⟨_, rfl, .inr ex, ?_⟩
   replace B1 := B1.ext ex
   replace B2 := B2.ext ex
   replace E6 := E6.ext ex
   replace B6 := B6.ext ex
   skip
   refine wm_one 3 (by kernel_rfl) ?_; refine om_call rfl Tryz.func211 rfl rfl rfl (Fsame_any D14 ha _) rfl ?_
   rintro e w15 ⟨rfl, ex⟩
   refine ⟨_, rfl, .inr ex, ?_⟩
   replace B1 := B1.ext ex
   replace B2 := B2.ext ex
   replace E6 := E6.ext ex
   replace B6 := B6.ext ex
   skip
   refine wm_y 4 rfl (by kernel_rfl) (y_not rfl) rfl ?_
   refine wm_done (by kernel_rfl) ?_
   refine wq_nop ?_
   refine wq_then_norm (hK45 ?_)
   refine wc_cond rfl (fun hc2 => ?_) (fun hc2 => ?_)
   ·skip
    have hq2 : ¬ (Fp.guess a) * (Fp.guess a) = a := by simpa using hc2
    have hns : ¬ Fp.Sqr a := fun hs => by rcases hso hs with h | h <;> contradiction
    refine wc_seq ?_; intro K46 hK46
    refine wc_region ?_
    refine wl_y (y_build rfl (cells := fe (fun _ => 0)) (by kernel_rfl)) rfl ?_
    refine wl_ef (ef_storeW rfl rfl (by kernel_rfl) B2 rfl (fe_one _)) rfl ?_
    rintro _ w16 ⟨rfl, B16, cg⟩
    have E16 := E6.chg cg hg2'
    refine wl_y (y_assign rfl) rfl ?_
    refine wl_nil ?_
    refine wq_then_norm (hK46 ?_)
    refine wc_ret ?_
    refine wq_then_ret ?_
    refine hret rfl rfl B16 (fe_size _) ?_
    exact ⟨_, by rw [decide_eq_false hns], by rw [if_neg hns]; exact FE.zero, E16⟩
   ·skip
    have hq2 : (Fp.guess a) * (Fp.guess a) = a := by simpa using hc2
    have hns : Fp.Sqr a := Fp.sqr_of hq2
    refine wc_skip ?_
    refine wq_then_norm (hK44 ?_)
    refine wc_seq ?_; intro K47 hK47
    refine wc_seq ?_; intro K48 hK48
    refine wc_region ?_
    refine wl_y ((y_loadw rfl Tryz.underlying135 rfl (by rw [D.size]; kernel_rfl) B6)) rfl ?_
    refine wl_call Tryz.func163 rfl rfl rfl (Fodd_any D _) rfl ?_
    rintro e w17 ⟨rfl, ex⟩
    refine ⟨_, rfl, ?_⟩
    replace B1 := B1.ext ex
    replace B2 := B2.ext ex
    replace E6 := E6.ext ex
    replace B6 := B6.ext ex
    skip
    refine wl_nil ?_
    refine wq_then_norm (hK48 ?_)
    refine wc_dec rfl (fun hc3 => ?_) (fun hc3 => ?_)
    ·skip
     refine wc_region ?_
     refine wl_y ((y_loadw rfl Tryz.underlying135 rfl (by rw [D.size]; kernel_rfl) B6)) rfl ?_
     refine wl_call Tryz.func205 rfl rfl rfl (Fneg_any D _) rfl ?_
     rintro e w18 ⟨d18, rfl, D18, ex⟩
     refine ⟨_, rfl, ?_⟩
     replace B1 := B1.ext ex
     replace B2 := B2.ext ex
     replace E6 := E6.ext ex
     replace B6 := B6.ext ex
     skip
     refine wl_ef (ef_storeW rfl rfl (by rw [D18.size]; kernel_rfl) B6 (by rw [D.size, D18.size]) D18.one) rfl ?_
     rintro _ w19 ⟨rfl, B19, cg⟩
     replace B1 := B1.chg cg (by omega); replace B2 := B2.chg cg (by omega); replace E6 := E6.chg cg hg5'; replace B6 := B19
     refine wl_nil ?_
     refine wq_then_norm (hK47 ?_)
     refine wc_seq ?_; intro K49 hK49
     refine wc_region ?_
     refine wl_y ((y_loadw rfl Tryz.underlying135 rfl (by rw [D18.size]; kernel_rfl) B6)) rfl ?_
     refine wl_ef (ef_storeW rfl rfl (by rw [D18.size]; kernel_rfl) B2 (by rw [fe_size, D18.size]) D18.one) rfl ?_
     rintro _ w20 ⟨rfl, B20, cg⟩
     have E20 := E6.chg cg hg2'
     refine wl_y (y_assign rfl) rfl ?_
     refine wl_nil ?_
     refine wq_then_norm (hK49 ?_)
     refine wc_ret ?_
     refine hret rfl rfl B20 D18.size ?_
     exact ⟨_, by rw [decide_eq_true hns], by rw [if_pos hns]; exact D18.congr (by unfold Fp.root; simp only [hq, ↓reduceIte, hc3]), E20⟩
    ·skip
     refine wc_skip ?_
     refine wq_then_norm (hK47 ?_)
     refine wc_seq ?_; intro K50 hK50
     refine wc_region ?_
     refine wl_y ((y_loadw rfl Tryz.underlying135 rfl (by rw [D.size]; kernel_rfl) B6)) rfl ?_
     refine wl_ef (ef_storeW rfl rfl (by rw [D.size]; kernel_rfl) B2 (by rw [fe_size, D.size]) D.one) rfl ?_
     rintro _ w20 ⟨rfl, B20, cg⟩
     have E20 := E6.chg cg hg2'
     refine wl_y (y_assign rfl) rfl ?_
     refine wl_nil ?_
     refine wq_then_norm (hK50 ?_)
     refine wc_ret ?_
     refine hret rfl rfl B20 D.size ?_
     exact ⟨_, by rw [decide_eq_true hns], by rw [if_pos hns]; exact D.congr (by unfold Fp.root; simp only [hq, ↓reduceIte, hc3]), E20⟩
theorem Fof_any (A : Option Addr) (n c : Nat) (xs : List UInt8) (w : World) (HA : Bs w A n xs) :
  Calls Tryz.prog 203 #[.slice A n c] w fun e w' => ∃ cs, e = .returned (.agg cs) ∧ FE cs (Fp.of (Fp.ofB xs)) ∧ Ext w w' :=
 (fof_any A n c xs w HA).mono fun _ _ ⟨cs, h1, h2, h3⟩ => ⟨cs, h1, FE.of h2, h3⟩
end Go.Proofs.YtjllhimhiekchaaGreat
