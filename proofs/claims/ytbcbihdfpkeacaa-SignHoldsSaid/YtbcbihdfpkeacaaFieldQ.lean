/- The field's Inv and Root, the reference's Pow and Inv: what each hands back. -/
import Derived.Test.YtbcbihdfpkeacaaFieldP
import Derived.Test.YtbcbihdfpkeacaaFieldI
namespace Go.Proofs.Ytbcbihdfpkeacaa
open Go.RowKit
attribute [local irreducible] Y Ef WL WC WK WQ WM OpM
theorem Finv_any {cs : Array Value} {a : Fp.F} (ha : FE cs a) (w : World) :
    Calls Try.prog 45 #[.agg cs] w fun e w' => ∃ ds, e = .returned (.agg ds) ∧ FE ds (Fp.inv a) ∧ Ext w w' := by
  have hnum : Fp.num (pwr 235 127) = Fp.p - 2 := by decide +kernel
  refine vc_enterc1 (s := 5) 6 Try.func45 rfl rfl rfl Try.underlying27 rfl (by kernel_rfl) rfl ?_
  intro Q hret
  refine wc_seq ?_; intro K1 hK1
  refine wc_region ?_
  refine wl_ef (ef_box (cs := cs) rfl rfl) rfl ?_
  rintro _ w1 ⟨g1, rfl, B1, hg1, ex⟩
  have E1 := ex
  refine wl_ef (ef_alloc (Z := fe (fun _ => 0)) (by kernel_rfl)) rfl ?_
  rintro _ w2 ⟨g2, rfl, B2, hg2, ex⟩
  have E2 := E1.ext ex; replace B1 := B1.ext ex; have hg2' : w.heap.size ≤ g2 := Nat.le_trans E1.size hg2
  refine wl_nil ?_
  refine wq_then_norm (hK1 ?_)
  refine wc_seq ?_; intro K2 hK2
  refine wc_draw (by kernel_rfl) 4 rfl ?_; intro wd1 ex hd1
  replace B1 := B1.ext ex
  replace B2 := B2.ext ex
  replace E2 := E2.ext ex
  refine wm_y 0 rfl (by kernel_rfl) ((y_loadw rfl Try.underlying27 rfl (by rw [ha.size]; kernel_rfl) B1)) rfl ?_
  refine wm_one 1 (by kernel_rfl) ?_; refine om_call rfl Try.func109 rfl rfl rfl (power_any 235 127 _) rfl ?_
  rintro e w3 ⟨g3, rfl, H3, ex⟩
  refine ⟨_, rfl, .inr ex, ?_⟩
  replace B1 := B1.ext ex
  replace B2 := B2.ext ex
  replace E2 := E2.ext ex
  skip
  refine wm_one 2 (by kernel_rfl) ?_; refine om_call rfl Try.func43 rfl rfl rfl (Fpow_any ha _ 32 32 _ _ H3 (by omega)) rfl ?_
  rintro e w4 ⟨ds, rfl, D, ex⟩
  refine ⟨_, rfl, .inr ex, ?_⟩
  replace B1 := B1.ext ex
  replace B2 := B2.ext ex
  replace E2 := E2.ext ex
  rw [hnum] at D
  refine wm_one 3 (by kernel_rfl) ?_; refine om_ef rfl (ef_storeW rfl rfl (by rw [D.size]; kernel_rfl) B2 (by rw [fe_size, D.size]) D.one) rfl ?_
  rintro _ w5 ⟨rfl, B5, cg⟩
  refine ⟨.inl rfl, ?_⟩
  have E5 := E2.chg cg hg2'
  refine wm_done (by kernel_rfl) ?_
  refine wq_nop ?_
  refine wq_then_norm (hK2 ?_)
  refine wc_ret ?_
  refine hret rfl B5 D.size ?_
  exact ⟨_, rfl, D, E5⟩
theorem Froot_any {cs : Array Value} {a : Fp.F} (ha : FE cs a) (w : World) :
    Calls Try.prog 47 #[.agg cs] w fun e w' => ∃ ds, e = .returned (.tuple #[.agg ds, .bool (decide (Fp.Sqr a))]) ∧ FE ds (if Fp.Sqr a then Fp.root a else 0) ∧ Ext w w' := by
  have hn1 : Fp.num (pwr 254 15) = Fp.e8 := by decide +kernel
  have hn2 : Fp.num (pwr 251 31) = Fp.quart := by decide +kernel
  have hso := Fp.guess_or (a := a)
  refine vc_enterct (s := 5) 29 Try.func47 rfl rfl rfl Try.underlying27 rfl (by kernel_rfl) rfl ?_
  intro Q hret
  refine wc_seq ?_; intro K1 hK1
  refine wc_region ?_
  refine wl_ef (ef_box (cs := cs) rfl rfl) rfl ?_
  rintro _ w1 ⟨g1, rfl, B1, hg1, ex⟩
  have E1 := ex; have hl1 := B1.lt
  refine wl_ef (ef_alloc (Z := fe (fun _ => 0)) (by kernel_rfl)) rfl ?_
  rintro _ w2 ⟨g2, rfl, B2, hg2, ex⟩
  have E2 := E1.ext ex; replace B1 := B1.ext ex; have hg2' : w.heap.size ≤ g2 := Nat.le_trans E1.size hg2; have hl2 := B2.lt
  refine wl_y (y_assign rfl) rfl ?_
  refine wl_nil ?_
  refine wq_then_norm (hK1 ?_)
  refine wc_seq ?_; intro K2 hK2
  refine wc_draw (by kernel_rfl) 5 rfl ?_; intro wd1 ex hd1
  replace B1 := B1.ext ex
  replace B2 := B2.ext ex
  replace E2 := E2.ext ex
  refine wm_y 0 rfl (by kernel_rfl) ((y_loadw rfl Try.underlying27 rfl (by rw [ha.size]; kernel_rfl) B1)) rfl ?_
  refine wm_two 1 3 (by kernel_rfl) ?_ ?_
  · skip
    refine om_call rfl Try.func109 rfl rfl rfl (power_any 254 15 _) rfl ?_
    rintro e w3 ⟨g3, rfl, H3, ex⟩
    refine ⟨_, rfl, .inr ex, ?_⟩
    replace B1 := B1.ext ex
    replace B2 := B2.ext ex
    replace E2 := E2.ext ex
    skip
    refine wm_two 2 3 (by kernel_rfl) ?_ ?_
    · skip
      refine om_call rfl Try.func43 rfl rfl rfl (Fpow_any ha _ 32 32 _ _ H3 (by omega)) rfl ?_
      rintro e w4 ⟨ds, rfl, D, ex⟩
      refine ⟨_, rfl, .inr ex, ?_⟩
      replace B1 := B1.ext ex
      replace B2 := B2.ext ex
      replace E2 := E2.ext ex
      replace H3 := H3.ext ex
      rw [hn1] at D; replace D : FE ds (Fp.guess a) := D
      have hs0 := E2; have hb2 := B2.lt
      refine wm_one 3 (by kernel_rfl) ?_; refine om_ef rfl (ef_alloc (Z := fe (fun _ => 0)) (by kernel_rfl)) rfl ?_
      rintro _ w5 ⟨g5, rfl, B5, hg5, ex⟩
      refine ⟨.inr ex, ?_⟩
      replace B1 := B1.ext ex
      replace B2 := B2.ext ex
      replace E2 := E2.ext ex
      replace H3 := H3.ext ex
      have hg5' : w.heap.size ≤ g5 := by have := hs0.size; omega
      refine wm_one 4 (by kernel_rfl) ?_; refine om_ef rfl (ef_storeW rfl rfl (by rw [D.size]; kernel_rfl) B5 (by rw [fe_size, D.size]) D.one) rfl ?_
      rintro _ w6 ⟨rfl, B6, cg⟩
      refine ⟨.inl rfl, ?_⟩
      replace B1 := B1.chg cg (by omega); replace B2 := B2.chg cg (by omega); have E6 := E2.chg cg hg5'
      refine wm_done (by kernel_rfl) ?_
      refine wq_nop ?_
      refine wq_then_norm (hK2 ?_)
      refine wc_seq ?_; intro K3 hK3
      refine wc_seq ?_; intro K4 hK4
      refine wc_draw (by kernel_rfl) 5 rfl ?_; intro wd2 ex hd2
      replace B1 := B1.ext ex
      replace B2 := B2.ext ex
      replace E6 := E6.ext ex
      replace B6 := B6.ext ex
      refine wm_y 0 rfl (by kernel_rfl) ((y_loadw rfl Try.underlying27 rfl (by rw [D.size]; kernel_rfl) B6)) rfl ?_
      refine wm_y 2 rfl (by kernel_rfl) ((y_loadw rfl Try.underlying27 rfl (by rw [ha.size]; kernel_rfl) B1)) rfl ?_
      refine wm_one 1 (by kernel_rfl) ?_; refine om_call rfl Try.func32 rfl rfl rfl (Fsquare_any D _) rfl ?_
      rintro e w7 ⟨d7, rfl, D7, ex⟩
      refine ⟨_, rfl, .inr ex, ?_⟩
      replace B1 := B1.ext ex
      replace B2 := B2.ext ex
      replace E6 := E6.ext ex
      replace B6 := B6.ext ex
      skip
      refine wm_one 3 (by kernel_rfl) ?_; refine om_call rfl Try.func33 rfl rfl rfl (Fsame_any D7 ha _) rfl ?_
      rintro e w8 ⟨rfl, ex⟩
      refine ⟨_, rfl, .inr ex, ?_⟩
      replace B1 := B1.ext ex
      replace B2 := B2.ext ex
      replace E6 := E6.ext ex
      replace B6 := B6.ext ex
      skip
      refine wm_y 4 rfl (by kernel_rfl) (y_not rfl) rfl ?_
      refine wm_done (by kernel_rfl) ?_
      refine wq_nop ?_
      refine wq_then_norm (hK4 ?_)
      refine wc_cond rfl (fun hc1 => ?_) (fun hc1 => ?_)
      · skip
        have hq : ¬ Fp.guess a * Fp.guess a = a := by simpa using hc1
        refine wc_draw (by kernel_rfl) 6 rfl ?_; intro wd3 ex hd3
        replace B1 := B1.ext ex
        replace B2 := B2.ext ex
        replace E6 := E6.ext ex
        replace B6 := B6.ext ex
        refine wm_y 0 rfl (by kernel_rfl) ((y_loadw rfl Try.underlying27 rfl (by rw [D.size]; kernel_rfl) B6)) rfl ?_
        refine wm_one 1 (by kernel_rfl) ?_; refine om_call rfl Try.func23 rfl rfl rfl (Fnum_any 2 _ (by omega)) rfl ?_
        rintro e w9 ⟨d9, rfl, D9, ex⟩
        refine ⟨_, rfl, .inr ex, ?_⟩
        replace B1 := B1.ext ex
        replace B2 := B2.ext ex
        replace E6 := E6.ext ex
        replace B6 := B6.ext ex
        skip
        refine wm_one 2 (by kernel_rfl) ?_; refine om_call rfl Try.func109 rfl rfl rfl (power_any 251 31 _) rfl ?_
        rintro e w10 ⟨g10, rfl, H10, ex⟩
        refine ⟨_, rfl, .inr ex, ?_⟩
        replace B1 := B1.ext ex
        replace B2 := B2.ext ex
        replace E6 := E6.ext ex
        replace B6 := B6.ext ex
        skip
        refine wm_one 3 (by kernel_rfl) ?_; refine om_call rfl Try.func43 rfl rfl rfl (Fpow_any D9 _ 32 32 _ _ H10 (by omega)) rfl ?_
        rintro e w11 ⟨d11, rfl, D11, ex⟩
        refine ⟨_, rfl, .inr ex, ?_⟩
        replace B1 := B1.ext ex
        replace B2 := B2.ext ex
        replace E6 := E6.ext ex
        replace B6 := B6.ext ex
        rw [hn2, Fp.im_pow] at D11
        refine wm_one 4 (by kernel_rfl) ?_; refine om_call rfl Try.func30 rfl rfl rfl (Fmul_any D D11 _) rfl ?_
        rintro e w12 ⟨d12, rfl, D12, ex⟩
        refine ⟨_, rfl, .inr ex, ?_⟩
        replace B1 := B1.ext ex
        replace B2 := B2.ext ex
        replace E6 := E6.ext ex
        replace B6 := B6.ext ex
        skip
        refine wm_one 5 (by kernel_rfl) ?_; refine om_ef rfl (ef_storeW rfl rfl (by rw [D12.size]; kernel_rfl) B6 (by rw [D.size, D12.size]) D12.one) rfl ?_
        rintro _ w13 ⟨rfl, B13, cg⟩
        refine ⟨.inl rfl, ?_⟩
        replace B1 := B1.chg cg (by omega); replace B2 := B2.chg cg (by omega); replace E6 := E6.chg cg hg5'; replace B6 := B13
        refine wm_done (by kernel_rfl) ?_
        refine wq_nop ?_
        refine wq_then_norm (hK3 ?_)
        refine wc_seq ?_; intro K5 hK5
        refine wc_seq ?_; intro K6 hK6
        refine wc_draw (by kernel_rfl) 5 rfl ?_; intro wd4 ex hd4
        replace B1 := B1.ext ex
        replace B2 := B2.ext ex
        replace E6 := E6.ext ex
        replace B6 := B6.ext ex
        refine wm_y 0 rfl (by kernel_rfl) ((y_loadw rfl Try.underlying27 rfl (by rw [D12.size]; kernel_rfl) B6)) rfl ?_
        refine wm_y 2 rfl (by kernel_rfl) ((y_loadw rfl Try.underlying27 rfl (by rw [ha.size]; kernel_rfl) B1)) rfl ?_
        refine wm_one 1 (by kernel_rfl) ?_; refine om_call rfl Try.func32 rfl rfl rfl (Fsquare_any D12 _) rfl ?_
        rintro e w14 ⟨d14, rfl, D14, ex⟩
        refine ⟨_, rfl, .inr ex, ?_⟩
        replace B1 := B1.ext ex
        replace B2 := B2.ext ex
        replace E6 := E6.ext ex
        replace B6 := B6.ext ex
        skip
        refine wm_one 3 (by kernel_rfl) ?_; refine om_call rfl Try.func33 rfl rfl rfl (Fsame_any D14 ha _) rfl ?_
        rintro e w15 ⟨rfl, ex⟩
        refine ⟨_, rfl, .inr ex, ?_⟩
        replace B1 := B1.ext ex
        replace B2 := B2.ext ex
        replace E6 := E6.ext ex
        replace B6 := B6.ext ex
        skip
        refine wm_y 4 rfl (by kernel_rfl) (y_not rfl) rfl ?_
        refine wm_done (by kernel_rfl) ?_
        refine wq_nop ?_
        refine wq_then_norm (hK6 ?_)
        refine wc_cond rfl (fun hc2 => ?_) (fun hc2 => ?_)
        · skip
          have hq2 : ¬ (Fp.guess a * Fp.im) * (Fp.guess a * Fp.im) = a := by simpa using hc2
          have hns : ¬ Fp.Sqr a := fun hs => by rcases hso hs with h | h <;> contradiction
          refine wc_seq ?_; intro K7 hK7
          refine wc_region ?_
          refine wl_y (y_build rfl (cells := fe (fun _ => 0)) (by kernel_rfl)) rfl ?_
          refine wl_ef (ef_storeW rfl rfl (by kernel_rfl) B2 rfl (fe_one _)) rfl ?_
          rintro _ w16 ⟨rfl, B16, cg⟩
          have E16 := E6.chg cg hg2'
          refine wl_y (y_assign rfl) rfl ?_
          refine wl_nil ?_
          refine wq_then_norm (hK7 ?_)
          refine wc_ret ?_
          refine wq_then_ret ?_
          refine hret rfl rfl B16 (fe_size _) ?_
          exact ⟨_, by rw [decide_eq_false hns], by rw [if_neg hns]; exact FE.zero, E16⟩
        · skip
          have hq2 : (Fp.guess a * Fp.im) * (Fp.guess a * Fp.im) = a := by simpa using hc2
          have hns : Fp.Sqr a := Fp.sqr_of hq2
          refine wc_skip ?_
          refine wq_then_norm (hK5 ?_)
          refine wc_seq ?_; intro K8 hK8
          refine wc_seq ?_; intro K9 hK9
          refine wc_region ?_
          refine wl_y ((y_loadw rfl Try.underlying27 rfl (by rw [D12.size]; kernel_rfl) B6)) rfl ?_
          refine wl_call Try.func36 rfl rfl rfl (Fodd_any D12 _) rfl ?_
          rintro e w17 ⟨rfl, ex⟩
          refine ⟨_, rfl, ?_⟩
          replace B1 := B1.ext ex
          replace B2 := B2.ext ex
          replace E6 := E6.ext ex
          replace B6 := B6.ext ex
          skip
          refine wl_nil ?_
          refine wq_then_norm (hK9 ?_)
          refine wc_dec rfl (fun hc3 => ?_) (fun hc3 => ?_)
          · skip
            refine wc_region ?_
            refine wl_y ((y_loadw rfl Try.underlying27 rfl (by rw [D12.size]; kernel_rfl) B6)) rfl ?_
            refine wl_call Try.func29 rfl rfl rfl (Fneg_any D12 _) rfl ?_
            rintro e w18 ⟨d18, rfl, D18, ex⟩
            refine ⟨_, rfl, ?_⟩
            replace B1 := B1.ext ex
            replace B2 := B2.ext ex
            replace E6 := E6.ext ex
            replace B6 := B6.ext ex
            skip
            refine wl_ef (ef_storeW rfl rfl (by rw [D18.size]; kernel_rfl) B6 (by rw [D12.size, D18.size]) D18.one) rfl ?_
            rintro _ w19 ⟨rfl, B19, cg⟩
            replace B1 := B1.chg cg (by omega); replace B2 := B2.chg cg (by omega); replace E6 := E6.chg cg hg5'; replace B6 := B19
            refine wl_nil ?_
            refine wq_then_norm (hK8 ?_)
            refine wc_seq ?_; intro K10 hK10
            refine wc_region ?_
            refine wl_y ((y_loadw rfl Try.underlying27 rfl (by rw [D18.size]; kernel_rfl) B6)) rfl ?_
            refine wl_ef (ef_storeW rfl rfl (by rw [D18.size]; kernel_rfl) B2 (by rw [fe_size, D18.size]) D18.one) rfl ?_
            rintro _ w20 ⟨rfl, B20, cg⟩
            have E20 := E6.chg cg hg2'
            refine wl_y (y_assign rfl) rfl ?_
            refine wl_nil ?_
            refine wq_then_norm (hK10 ?_)
            refine wc_ret ?_
            refine hret rfl rfl B20 D18.size ?_
            exact ⟨_, by rw [decide_eq_true hns], by rw [if_pos hns]; exact D18.congr (by unfold Fp.root; simp only [hq, ↓reduceIte, hc3]), E20⟩
          · skip
            refine wc_skip ?_
            refine wq_then_norm (hK8 ?_)
            refine wc_seq ?_; intro K11 hK11
            refine wc_region ?_
            refine wl_y ((y_loadw rfl Try.underlying27 rfl (by rw [D12.size]; kernel_rfl) B6)) rfl ?_
            refine wl_ef (ef_storeW rfl rfl (by rw [D12.size]; kernel_rfl) B2 (by rw [fe_size, D12.size]) D12.one) rfl ?_
            rintro _ w20 ⟨rfl, B20, cg⟩
            have E20 := E6.chg cg hg2'
            refine wl_y (y_assign rfl) rfl ?_
            refine wl_nil ?_
            refine wq_then_norm (hK11 ?_)
            refine wc_ret ?_
            refine hret rfl rfl B20 D12.size ?_
            exact ⟨_, by rw [decide_eq_true hns], by rw [if_pos hns]; exact D12.congr (by unfold Fp.root; simp only [hq, ↓reduceIte, hc3]), E20⟩
      · skip
        have hq : Fp.guess a * Fp.guess a = a := by simpa using hc1
        refine wc_skip ?_
        refine wq_then_norm (hK3 ?_)
        refine wc_seq ?_; intro K12 hK12
        refine wc_seq ?_; intro K13 hK13
        refine wc_draw (by kernel_rfl) 5 rfl ?_; intro wd4 ex hd4
        replace B1 := B1.ext ex
        replace B2 := B2.ext ex
        replace E6 := E6.ext ex
        replace B6 := B6.ext ex
        refine wm_y 0 rfl (by kernel_rfl) ((y_loadw rfl Try.underlying27 rfl (by rw [D.size]; kernel_rfl) B6)) rfl ?_
        refine wm_y 2 rfl (by kernel_rfl) ((y_loadw rfl Try.underlying27 rfl (by rw [ha.size]; kernel_rfl) B1)) rfl ?_
        refine wm_one 1 (by kernel_rfl) ?_; refine om_call rfl Try.func32 rfl rfl rfl (Fsquare_any D _) rfl ?_
        rintro e w14 ⟨d14, rfl, D14, ex⟩
        refine ⟨_, rfl, .inr ex, ?_⟩
        replace B1 := B1.ext ex
        replace B2 := B2.ext ex
        replace E6 := E6.ext ex
        replace B6 := B6.ext ex
        skip
        refine wm_one 3 (by kernel_rfl) ?_; refine om_call rfl Try.func33 rfl rfl rfl (Fsame_any D14 ha _) rfl ?_
        rintro e w15 ⟨rfl, ex⟩
        refine ⟨_, rfl, .inr ex, ?_⟩
        replace B1 := B1.ext ex
        replace B2 := B2.ext ex
        replace E6 := E6.ext ex
        replace B6 := B6.ext ex
        skip
        refine wm_y 4 rfl (by kernel_rfl) (y_not rfl) rfl ?_
        refine wm_done (by kernel_rfl) ?_
        refine wq_nop ?_
        refine wq_then_norm (hK13 ?_)
        refine wc_cond rfl (fun hc2 => ?_) (fun hc2 => ?_)
        · skip
          have hq2 : ¬ (Fp.guess a) * (Fp.guess a) = a := by simpa using hc2
          have hns : ¬ Fp.Sqr a := fun hs => by rcases hso hs with h | h <;> contradiction
          refine wc_seq ?_; intro K14 hK14
          refine wc_region ?_
          refine wl_y (y_build rfl (cells := fe (fun _ => 0)) (by kernel_rfl)) rfl ?_
          refine wl_ef (ef_storeW rfl rfl (by kernel_rfl) B2 rfl (fe_one _)) rfl ?_
          rintro _ w16 ⟨rfl, B16, cg⟩
          have E16 := E6.chg cg hg2'
          refine wl_y (y_assign rfl) rfl ?_
          refine wl_nil ?_
          refine wq_then_norm (hK14 ?_)
          refine wc_ret ?_
          refine wq_then_ret ?_
          refine hret rfl rfl B16 (fe_size _) ?_
          exact ⟨_, by rw [decide_eq_false hns], by rw [if_neg hns]; exact FE.zero, E16⟩
        · skip
          have hq2 : (Fp.guess a) * (Fp.guess a) = a := by simpa using hc2
          have hns : Fp.Sqr a := Fp.sqr_of hq2
          refine wc_skip ?_
          refine wq_then_norm (hK12 ?_)
          refine wc_seq ?_; intro K15 hK15
          refine wc_seq ?_; intro K16 hK16
          refine wc_region ?_
          refine wl_y ((y_loadw rfl Try.underlying27 rfl (by rw [D.size]; kernel_rfl) B6)) rfl ?_
          refine wl_call Try.func36 rfl rfl rfl (Fodd_any D _) rfl ?_
          rintro e w17 ⟨rfl, ex⟩
          refine ⟨_, rfl, ?_⟩
          replace B1 := B1.ext ex
          replace B2 := B2.ext ex
          replace E6 := E6.ext ex
          replace B6 := B6.ext ex
          skip
          refine wl_nil ?_
          refine wq_then_norm (hK16 ?_)
          refine wc_dec rfl (fun hc3 => ?_) (fun hc3 => ?_)
          · skip
            refine wc_region ?_
            refine wl_y ((y_loadw rfl Try.underlying27 rfl (by rw [D.size]; kernel_rfl) B6)) rfl ?_
            refine wl_call Try.func29 rfl rfl rfl (Fneg_any D _) rfl ?_
            rintro e w18 ⟨d18, rfl, D18, ex⟩
            refine ⟨_, rfl, ?_⟩
            replace B1 := B1.ext ex
            replace B2 := B2.ext ex
            replace E6 := E6.ext ex
            replace B6 := B6.ext ex
            skip
            refine wl_ef (ef_storeW rfl rfl (by rw [D18.size]; kernel_rfl) B6 (by rw [D.size, D18.size]) D18.one) rfl ?_
            rintro _ w19 ⟨rfl, B19, cg⟩
            replace B1 := B1.chg cg (by omega); replace B2 := B2.chg cg (by omega); replace E6 := E6.chg cg hg5'; replace B6 := B19
            refine wl_nil ?_
            refine wq_then_norm (hK15 ?_)
            refine wc_seq ?_; intro K17 hK17
            refine wc_region ?_
            refine wl_y ((y_loadw rfl Try.underlying27 rfl (by rw [D18.size]; kernel_rfl) B6)) rfl ?_
            refine wl_ef (ef_storeW rfl rfl (by rw [D18.size]; kernel_rfl) B2 (by rw [fe_size, D18.size]) D18.one) rfl ?_
            rintro _ w20 ⟨rfl, B20, cg⟩
            have E20 := E6.chg cg hg2'
            refine wl_y (y_assign rfl) rfl ?_
            refine wl_nil ?_
            refine wq_then_norm (hK17 ?_)
            refine wc_ret ?_
            refine hret rfl rfl B20 D18.size ?_
            exact ⟨_, by rw [decide_eq_true hns], by rw [if_pos hns]; exact D18.congr (by unfold Fp.root; simp only [hq, ↓reduceIte, hc3]), E20⟩
          · skip
            refine wc_skip ?_
            refine wq_then_norm (hK15 ?_)
            refine wc_seq ?_; intro K18 hK18
            refine wc_region ?_
            refine wl_y ((y_loadw rfl Try.underlying27 rfl (by rw [D.size]; kernel_rfl) B6)) rfl ?_
            refine wl_ef (ef_storeW rfl rfl (by rw [D.size]; kernel_rfl) B2 (by rw [fe_size, D.size]) D.one) rfl ?_
            rintro _ w20 ⟨rfl, B20, cg⟩
            have E20 := E6.chg cg hg2'
            refine wl_y (y_assign rfl) rfl ?_
            refine wl_nil ?_
            refine wq_then_norm (hK18 ?_)
            refine wc_ret ?_
            refine hret rfl rfl B20 D.size ?_
            exact ⟨_, by rw [decide_eq_true hns], by rw [if_pos hns]; exact D.congr (by unfold Fp.root; simp only [hq, ↓reduceIte, hc3]), E20⟩
    · skip
      have hs0 := E2; have hb2 := B2.lt
      refine om_ef rfl (ef_alloc (Z := fe (fun _ => 0)) (by kernel_rfl)) rfl ?_
      rintro _ w5 ⟨g5, rfl, B5, hg5, ex⟩
      refine ⟨.inr ex, ?_⟩
      replace B1 := B1.ext ex
      replace B2 := B2.ext ex
      replace E2 := E2.ext ex
      replace H3 := H3.ext ex
      have hg5' : w.heap.size ≤ g5 := by have := hs0.size; omega
      refine wm_one 2 (by kernel_rfl) ?_; refine om_call rfl Try.func43 rfl rfl rfl (Fpow_any ha _ 32 32 _ _ H3 (by omega)) rfl ?_
      rintro e w4 ⟨ds, rfl, D, ex⟩
      refine ⟨_, rfl, .inr ex, ?_⟩
      replace B1 := B1.ext ex
      replace B2 := B2.ext ex
      replace E2 := E2.ext ex
      replace H3 := H3.ext ex
      replace B5 := B5.ext ex
      rw [hn1] at D; replace D : FE ds (Fp.guess a) := D
      refine wm_one 4 (by kernel_rfl) ?_; refine om_ef rfl (ef_storeW rfl rfl (by rw [D.size]; kernel_rfl) B5 (by rw [fe_size, D.size]) D.one) rfl ?_
      rintro _ w6 ⟨rfl, B6, cg⟩
      refine ⟨.inl rfl, ?_⟩
      replace B1 := B1.chg cg (by omega); replace B2 := B2.chg cg (by omega); have E6 := E2.chg cg hg5'
      refine wm_done (by kernel_rfl) ?_
      refine wq_nop ?_
      refine wq_then_norm (hK2 ?_)
      refine wc_seq ?_; intro K19 hK19
      refine wc_seq ?_; intro K20 hK20
      refine wc_draw (by kernel_rfl) 5 rfl ?_; intro wd2 ex hd2
      replace B1 := B1.ext ex
      replace B2 := B2.ext ex
      replace E6 := E6.ext ex
      replace B6 := B6.ext ex
      refine wm_y 0 rfl (by kernel_rfl) ((y_loadw rfl Try.underlying27 rfl (by rw [D.size]; kernel_rfl) B6)) rfl ?_
      refine wm_y 2 rfl (by kernel_rfl) ((y_loadw rfl Try.underlying27 rfl (by rw [ha.size]; kernel_rfl) B1)) rfl ?_
      refine wm_one 1 (by kernel_rfl) ?_; refine om_call rfl Try.func32 rfl rfl rfl (Fsquare_any D _) rfl ?_
      rintro e w7 ⟨d7, rfl, D7, ex⟩
      refine ⟨_, rfl, .inr ex, ?_⟩
      replace B1 := B1.ext ex
      replace B2 := B2.ext ex
      replace E6 := E6.ext ex
      replace B6 := B6.ext ex
      skip
      refine wm_one 3 (by kernel_rfl) ?_; refine om_call rfl Try.func33 rfl rfl rfl (Fsame_any D7 ha _) rfl ?_
      rintro e w8 ⟨rfl, ex⟩
      refine ⟨_, rfl, .inr ex, ?_⟩
      replace B1 := B1.ext ex
      replace B2 := B2.ext ex
      replace E6 := E6.ext ex
      replace B6 := B6.ext ex
      skip
      refine wm_y 4 rfl (by kernel_rfl) (y_not rfl) rfl ?_
      refine wm_done (by kernel_rfl) ?_
      refine wq_nop ?_
      refine wq_then_norm (hK20 ?_)
      refine wc_cond rfl (fun hc1 => ?_) (fun hc1 => ?_)
      · skip
        have hq : ¬ Fp.guess a * Fp.guess a = a := by simpa using hc1
        refine wc_draw (by kernel_rfl) 6 rfl ?_; intro wd3 ex hd3
        replace B1 := B1.ext ex
        replace B2 := B2.ext ex
        replace E6 := E6.ext ex
        replace B6 := B6.ext ex
        refine wm_y 0 rfl (by kernel_rfl) ((y_loadw rfl Try.underlying27 rfl (by rw [D.size]; kernel_rfl) B6)) rfl ?_
        refine wm_one 1 (by kernel_rfl) ?_; refine om_call rfl Try.func23 rfl rfl rfl (Fnum_any 2 _ (by omega)) rfl ?_
        rintro e w9 ⟨d9, rfl, D9, ex⟩
        refine ⟨_, rfl, .inr ex, ?_⟩
        replace B1 := B1.ext ex
        replace B2 := B2.ext ex
        replace E6 := E6.ext ex
        replace B6 := B6.ext ex
        skip
        refine wm_one 2 (by kernel_rfl) ?_; refine om_call rfl Try.func109 rfl rfl rfl (power_any 251 31 _) rfl ?_
        rintro e w10 ⟨g10, rfl, H10, ex⟩
        refine ⟨_, rfl, .inr ex, ?_⟩
        replace B1 := B1.ext ex
        replace B2 := B2.ext ex
        replace E6 := E6.ext ex
        replace B6 := B6.ext ex
        skip
        refine wm_one 3 (by kernel_rfl) ?_; refine om_call rfl Try.func43 rfl rfl rfl (Fpow_any D9 _ 32 32 _ _ H10 (by omega)) rfl ?_
        rintro e w11 ⟨d11, rfl, D11, ex⟩
        refine ⟨_, rfl, .inr ex, ?_⟩
        replace B1 := B1.ext ex
        replace B2 := B2.ext ex
        replace E6 := E6.ext ex
        replace B6 := B6.ext ex
        rw [hn2, Fp.im_pow] at D11
        refine wm_one 4 (by kernel_rfl) ?_; refine om_call rfl Try.func30 rfl rfl rfl (Fmul_any D D11 _) rfl ?_
        rintro e w12 ⟨d12, rfl, D12, ex⟩
        refine ⟨_, rfl, .inr ex, ?_⟩
        replace B1 := B1.ext ex
        replace B2 := B2.ext ex
        replace E6 := E6.ext ex
        replace B6 := B6.ext ex
        skip
        refine wm_one 5 (by kernel_rfl) ?_; refine om_ef rfl (ef_storeW rfl rfl (by rw [D12.size]; kernel_rfl) B6 (by rw [D.size, D12.size]) D12.one) rfl ?_
        rintro _ w13 ⟨rfl, B13, cg⟩
        refine ⟨.inl rfl, ?_⟩
        replace B1 := B1.chg cg (by omega); replace B2 := B2.chg cg (by omega); replace E6 := E6.chg cg hg5'; replace B6 := B13
        refine wm_done (by kernel_rfl) ?_
        refine wq_nop ?_
        refine wq_then_norm (hK19 ?_)
        refine wc_seq ?_; intro K21 hK21
        refine wc_seq ?_; intro K22 hK22
        refine wc_draw (by kernel_rfl) 5 rfl ?_; intro wd4 ex hd4
        replace B1 := B1.ext ex
        replace B2 := B2.ext ex
        replace E6 := E6.ext ex
        replace B6 := B6.ext ex
        refine wm_y 0 rfl (by kernel_rfl) ((y_loadw rfl Try.underlying27 rfl (by rw [D12.size]; kernel_rfl) B6)) rfl ?_
        refine wm_y 2 rfl (by kernel_rfl) ((y_loadw rfl Try.underlying27 rfl (by rw [ha.size]; kernel_rfl) B1)) rfl ?_
        refine wm_one 1 (by kernel_rfl) ?_; refine om_call rfl Try.func32 rfl rfl rfl (Fsquare_any D12 _) rfl ?_
        rintro e w14 ⟨d14, rfl, D14, ex⟩
        refine ⟨_, rfl, .inr ex, ?_⟩
        replace B1 := B1.ext ex
        replace B2 := B2.ext ex
        replace E6 := E6.ext ex
        replace B6 := B6.ext ex
        skip
        refine wm_one 3 (by kernel_rfl) ?_; refine om_call rfl Try.func33 rfl rfl rfl (Fsame_any D14 ha _) rfl ?_
        rintro e w15 ⟨rfl, ex⟩
        refine ⟨_, rfl, .inr ex, ?_⟩
        replace B1 := B1.ext ex
        replace B2 := B2.ext ex
        replace E6 := E6.ext ex
        replace B6 := B6.ext ex
        skip
        refine wm_y 4 rfl (by kernel_rfl) (y_not rfl) rfl ?_
        refine wm_done (by kernel_rfl) ?_
        refine wq_nop ?_
        refine wq_then_norm (hK22 ?_)
        refine wc_cond rfl (fun hc2 => ?_) (fun hc2 => ?_)
        · skip
          have hq2 : ¬ (Fp.guess a * Fp.im) * (Fp.guess a * Fp.im) = a := by simpa using hc2
          have hns : ¬ Fp.Sqr a := fun hs => by rcases hso hs with h | h <;> contradiction
          refine wc_seq ?_; intro K23 hK23
          refine wc_region ?_
          refine wl_y (y_build rfl (cells := fe (fun _ => 0)) (by kernel_rfl)) rfl ?_
          refine wl_ef (ef_storeW rfl rfl (by kernel_rfl) B2 rfl (fe_one _)) rfl ?_
          rintro _ w16 ⟨rfl, B16, cg⟩
          have E16 := E6.chg cg hg2'
          refine wl_y (y_assign rfl) rfl ?_
          refine wl_nil ?_
          refine wq_then_norm (hK23 ?_)
          refine wc_ret ?_
          refine wq_then_ret ?_
          refine hret rfl rfl B16 (fe_size _) ?_
          exact ⟨_, by rw [decide_eq_false hns], by rw [if_neg hns]; exact FE.zero, E16⟩
        · skip
          have hq2 : (Fp.guess a * Fp.im) * (Fp.guess a * Fp.im) = a := by simpa using hc2
          have hns : Fp.Sqr a := Fp.sqr_of hq2
          refine wc_skip ?_
          refine wq_then_norm (hK21 ?_)
          refine wc_seq ?_; intro K24 hK24
          refine wc_seq ?_; intro K25 hK25
          refine wc_region ?_
          refine wl_y ((y_loadw rfl Try.underlying27 rfl (by rw [D12.size]; kernel_rfl) B6)) rfl ?_
          refine wl_call Try.func36 rfl rfl rfl (Fodd_any D12 _) rfl ?_
          rintro e w17 ⟨rfl, ex⟩
          refine ⟨_, rfl, ?_⟩
          replace B1 := B1.ext ex
          replace B2 := B2.ext ex
          replace E6 := E6.ext ex
          replace B6 := B6.ext ex
          skip
          refine wl_nil ?_
          refine wq_then_norm (hK25 ?_)
          refine wc_dec rfl (fun hc3 => ?_) (fun hc3 => ?_)
          · skip
            refine wc_region ?_
            refine wl_y ((y_loadw rfl Try.underlying27 rfl (by rw [D12.size]; kernel_rfl) B6)) rfl ?_
            refine wl_call Try.func29 rfl rfl rfl (Fneg_any D12 _) rfl ?_
            rintro e w18 ⟨d18, rfl, D18, ex⟩
            refine ⟨_, rfl, ?_⟩
            replace B1 := B1.ext ex
            replace B2 := B2.ext ex
            replace E6 := E6.ext ex
            replace B6 := B6.ext ex
            skip
            refine wl_ef (ef_storeW rfl rfl (by rw [D18.size]; kernel_rfl) B6 (by rw [D12.size, D18.size]) D18.one) rfl ?_
            rintro _ w19 ⟨rfl, B19, cg⟩
            replace B1 := B1.chg cg (by omega); replace B2 := B2.chg cg (by omega); replace E6 := E6.chg cg hg5'; replace B6 := B19
            refine wl_nil ?_
            refine wq_then_norm (hK24 ?_)
            refine wc_seq ?_; intro K26 hK26
            refine wc_region ?_
            refine wl_y ((y_loadw rfl Try.underlying27 rfl (by rw [D18.size]; kernel_rfl) B6)) rfl ?_
            refine wl_ef (ef_storeW rfl rfl (by rw [D18.size]; kernel_rfl) B2 (by rw [fe_size, D18.size]) D18.one) rfl ?_
            rintro _ w20 ⟨rfl, B20, cg⟩
            have E20 := E6.chg cg hg2'
            refine wl_y (y_assign rfl) rfl ?_
            refine wl_nil ?_
            refine wq_then_norm (hK26 ?_)
            refine wc_ret ?_
            refine hret rfl rfl B20 D18.size ?_
            exact ⟨_, by rw [decide_eq_true hns], by rw [if_pos hns]; exact D18.congr (by unfold Fp.root; simp only [hq, ↓reduceIte, hc3]), E20⟩
          · skip
            refine wc_skip ?_
            refine wq_then_norm (hK24 ?_)
            refine wc_seq ?_; intro K27 hK27
            refine wc_region ?_
            refine wl_y ((y_loadw rfl Try.underlying27 rfl (by rw [D12.size]; kernel_rfl) B6)) rfl ?_
            refine wl_ef (ef_storeW rfl rfl (by rw [D12.size]; kernel_rfl) B2 (by rw [fe_size, D12.size]) D12.one) rfl ?_
            rintro _ w20 ⟨rfl, B20, cg⟩
            have E20 := E6.chg cg hg2'
            refine wl_y (y_assign rfl) rfl ?_
            refine wl_nil ?_
            refine wq_then_norm (hK27 ?_)
            refine wc_ret ?_
            refine hret rfl rfl B20 D12.size ?_
            exact ⟨_, by rw [decide_eq_true hns], by rw [if_pos hns]; exact D12.congr (by unfold Fp.root; simp only [hq, ↓reduceIte, hc3]), E20⟩
      · skip
        have hq : Fp.guess a * Fp.guess a = a := by simpa using hc1
        refine wc_skip ?_
        refine wq_then_norm (hK19 ?_)
        refine wc_seq ?_; intro K28 hK28
        refine wc_seq ?_; intro K29 hK29
        refine wc_draw (by kernel_rfl) 5 rfl ?_; intro wd4 ex hd4
        replace B1 := B1.ext ex
        replace B2 := B2.ext ex
        replace E6 := E6.ext ex
        replace B6 := B6.ext ex
        refine wm_y 0 rfl (by kernel_rfl) ((y_loadw rfl Try.underlying27 rfl (by rw [D.size]; kernel_rfl) B6)) rfl ?_
        refine wm_y 2 rfl (by kernel_rfl) ((y_loadw rfl Try.underlying27 rfl (by rw [ha.size]; kernel_rfl) B1)) rfl ?_
        refine wm_one 1 (by kernel_rfl) ?_; refine om_call rfl Try.func32 rfl rfl rfl (Fsquare_any D _) rfl ?_
        rintro e w14 ⟨d14, rfl, D14, ex⟩
        refine ⟨_, rfl, .inr ex, ?_⟩
        replace B1 := B1.ext ex
        replace B2 := B2.ext ex
        replace E6 := E6.ext ex
        replace B6 := B6.ext ex
        skip
        refine wm_one 3 (by kernel_rfl) ?_; refine om_call rfl Try.func33 rfl rfl rfl (Fsame_any D14 ha _) rfl ?_
        rintro e w15 ⟨rfl, ex⟩
        refine ⟨_, rfl, .inr ex, ?_⟩
        replace B1 := B1.ext ex
        replace B2 := B2.ext ex
        replace E6 := E6.ext ex
        replace B6 := B6.ext ex
        skip
        refine wm_y 4 rfl (by kernel_rfl) (y_not rfl) rfl ?_
        refine wm_done (by kernel_rfl) ?_
        refine wq_nop ?_
        refine wq_then_norm (hK29 ?_)
        refine wc_cond rfl (fun hc2 => ?_) (fun hc2 => ?_)
        · skip
          have hq2 : ¬ (Fp.guess a) * (Fp.guess a) = a := by simpa using hc2
          have hns : ¬ Fp.Sqr a := fun hs => by rcases hso hs with h | h <;> contradiction
          refine wc_seq ?_; intro K30 hK30
          refine wc_region ?_
          refine wl_y (y_build rfl (cells := fe (fun _ => 0)) (by kernel_rfl)) rfl ?_
          refine wl_ef (ef_storeW rfl rfl (by kernel_rfl) B2 rfl (fe_one _)) rfl ?_
          rintro _ w16 ⟨rfl, B16, cg⟩
          have E16 := E6.chg cg hg2'
          refine wl_y (y_assign rfl) rfl ?_
          refine wl_nil ?_
          refine wq_then_norm (hK30 ?_)
          refine wc_ret ?_
          refine wq_then_ret ?_
          refine hret rfl rfl B16 (fe_size _) ?_
          exact ⟨_, by rw [decide_eq_false hns], by rw [if_neg hns]; exact FE.zero, E16⟩
        · skip
          have hq2 : (Fp.guess a) * (Fp.guess a) = a := by simpa using hc2
          have hns : Fp.Sqr a := Fp.sqr_of hq2
          refine wc_skip ?_
          refine wq_then_norm (hK28 ?_)
          refine wc_seq ?_; intro K31 hK31
          refine wc_seq ?_; intro K32 hK32
          refine wc_region ?_
          refine wl_y ((y_loadw rfl Try.underlying27 rfl (by rw [D.size]; kernel_rfl) B6)) rfl ?_
          refine wl_call Try.func36 rfl rfl rfl (Fodd_any D _) rfl ?_
          rintro e w17 ⟨rfl, ex⟩
          refine ⟨_, rfl, ?_⟩
          replace B1 := B1.ext ex
          replace B2 := B2.ext ex
          replace E6 := E6.ext ex
          replace B6 := B6.ext ex
          skip
          refine wl_nil ?_
          refine wq_then_norm (hK32 ?_)
          refine wc_dec rfl (fun hc3 => ?_) (fun hc3 => ?_)
          · skip
            refine wc_region ?_
            refine wl_y ((y_loadw rfl Try.underlying27 rfl (by rw [D.size]; kernel_rfl) B6)) rfl ?_
            refine wl_call Try.func29 rfl rfl rfl (Fneg_any D _) rfl ?_
            rintro e w18 ⟨d18, rfl, D18, ex⟩
            refine ⟨_, rfl, ?_⟩
            replace B1 := B1.ext ex
            replace B2 := B2.ext ex
            replace E6 := E6.ext ex
            replace B6 := B6.ext ex
            skip
            refine wl_ef (ef_storeW rfl rfl (by rw [D18.size]; kernel_rfl) B6 (by rw [D.size, D18.size]) D18.one) rfl ?_
            rintro _ w19 ⟨rfl, B19, cg⟩
            replace B1 := B1.chg cg (by omega); replace B2 := B2.chg cg (by omega); replace E6 := E6.chg cg hg5'; replace B6 := B19
            refine wl_nil ?_
            refine wq_then_norm (hK31 ?_)
            refine wc_seq ?_; intro K33 hK33
            refine wc_region ?_
            refine wl_y ((y_loadw rfl Try.underlying27 rfl (by rw [D18.size]; kernel_rfl) B6)) rfl ?_
            refine wl_ef (ef_storeW rfl rfl (by rw [D18.size]; kernel_rfl) B2 (by rw [fe_size, D18.size]) D18.one) rfl ?_
            rintro _ w20 ⟨rfl, B20, cg⟩
            have E20 := E6.chg cg hg2'
            refine wl_y (y_assign rfl) rfl ?_
            refine wl_nil ?_
            refine wq_then_norm (hK33 ?_)
            refine wc_ret ?_
            refine hret rfl rfl B20 D18.size ?_
            exact ⟨_, by rw [decide_eq_true hns], by rw [if_pos hns]; exact D18.congr (by unfold Fp.root; simp only [hq, ↓reduceIte, hc3]), E20⟩
          · skip
            refine wc_skip ?_
            refine wq_then_norm (hK31 ?_)
            refine wc_seq ?_; intro K34 hK34
            refine wc_region ?_
            refine wl_y ((y_loadw rfl Try.underlying27 rfl (by rw [D.size]; kernel_rfl) B6)) rfl ?_
            refine wl_ef (ef_storeW rfl rfl (by rw [D.size]; kernel_rfl) B2 (by rw [fe_size, D.size]) D.one) rfl ?_
            rintro _ w20 ⟨rfl, B20, cg⟩
            have E20 := E6.chg cg hg2'
            refine wl_y (y_assign rfl) rfl ?_
            refine wl_nil ?_
            refine wq_then_norm (hK34 ?_)
            refine wc_ret ?_
            refine hret rfl rfl B20 D.size ?_
            exact ⟨_, by rw [decide_eq_true hns], by rw [if_pos hns]; exact D.congr (by unfold Fp.root; simp only [hq, ↓reduceIte, hc3]), E20⟩
  · skip
    have hs0 := E2; have hb2 := B2.lt
    refine om_ef rfl (ef_alloc (Z := fe (fun _ => 0)) (by kernel_rfl)) rfl ?_
    rintro _ w5 ⟨g5, rfl, B5, hg5, ex⟩
    refine ⟨.inr ex, ?_⟩
    replace B1 := B1.ext ex
    replace B2 := B2.ext ex
    replace E2 := E2.ext ex
    have hg5' : w.heap.size ≤ g5 := by have := hs0.size; omega
    refine wm_one 1 (by kernel_rfl) ?_; refine om_call rfl Try.func109 rfl rfl rfl (power_any 254 15 _) rfl ?_
    rintro e w3 ⟨g3, rfl, H3, ex⟩
    refine ⟨_, rfl, .inr ex, ?_⟩
    replace B1 := B1.ext ex
    replace B2 := B2.ext ex
    replace E2 := E2.ext ex
    replace B5 := B5.ext ex
    skip
    refine wm_one 2 (by kernel_rfl) ?_; refine om_call rfl Try.func43 rfl rfl rfl (Fpow_any ha _ 32 32 _ _ H3 (by omega)) rfl ?_
    rintro e w4 ⟨ds, rfl, D, ex⟩
    refine ⟨_, rfl, .inr ex, ?_⟩
    replace B1 := B1.ext ex
    replace B2 := B2.ext ex
    replace E2 := E2.ext ex
    replace B5 := B5.ext ex
    replace H3 := H3.ext ex
    rw [hn1] at D; replace D : FE ds (Fp.guess a) := D
    refine wm_one 4 (by kernel_rfl) ?_; refine om_ef rfl (ef_storeW rfl rfl (by rw [D.size]; kernel_rfl) B5 (by rw [fe_size, D.size]) D.one) rfl ?_
    rintro _ w6 ⟨rfl, B6, cg⟩
    refine ⟨.inl rfl, ?_⟩
    replace B1 := B1.chg cg (by omega); replace B2 := B2.chg cg (by omega); have E6 := E2.chg cg hg5'
    refine wm_done (by kernel_rfl) ?_
    refine wq_nop ?_
    refine wq_then_norm (hK2 ?_)
    refine wc_seq ?_; intro K35 hK35
    refine wc_seq ?_; intro K36 hK36
    refine wc_draw (by kernel_rfl) 5 rfl ?_; intro wd2 ex hd2
    replace B1 := B1.ext ex
    replace B2 := B2.ext ex
    replace E6 := E6.ext ex
    replace B6 := B6.ext ex
    refine wm_y 0 rfl (by kernel_rfl) ((y_loadw rfl Try.underlying27 rfl (by rw [D.size]; kernel_rfl) B6)) rfl ?_
    refine wm_y 2 rfl (by kernel_rfl) ((y_loadw rfl Try.underlying27 rfl (by rw [ha.size]; kernel_rfl) B1)) rfl ?_
    refine wm_one 1 (by kernel_rfl) ?_; refine om_call rfl Try.func32 rfl rfl rfl (Fsquare_any D _) rfl ?_
    rintro e w7 ⟨d7, rfl, D7, ex⟩
    refine ⟨_, rfl, .inr ex, ?_⟩
    replace B1 := B1.ext ex
    replace B2 := B2.ext ex
    replace E6 := E6.ext ex
    replace B6 := B6.ext ex
    skip
    refine wm_one 3 (by kernel_rfl) ?_; refine om_call rfl Try.func33 rfl rfl rfl (Fsame_any D7 ha _) rfl ?_
    rintro e w8 ⟨rfl, ex⟩
    refine ⟨_, rfl, .inr ex, ?_⟩
    replace B1 := B1.ext ex
    replace B2 := B2.ext ex
    replace E6 := E6.ext ex
    replace B6 := B6.ext ex
    skip
    refine wm_y 4 rfl (by kernel_rfl) (y_not rfl) rfl ?_
    refine wm_done (by kernel_rfl) ?_
    refine wq_nop ?_
    refine wq_then_norm (hK36 ?_)
    refine wc_cond rfl (fun hc1 => ?_) (fun hc1 => ?_)
    · skip
      have hq : ¬ Fp.guess a * Fp.guess a = a := by simpa using hc1
      refine wc_draw (by kernel_rfl) 6 rfl ?_; intro wd3 ex hd3
      replace B1 := B1.ext ex
      replace B2 := B2.ext ex
      replace E6 := E6.ext ex
      replace B6 := B6.ext ex
      refine wm_y 0 rfl (by kernel_rfl) ((y_loadw rfl Try.underlying27 rfl (by rw [D.size]; kernel_rfl) B6)) rfl ?_
      refine wm_one 1 (by kernel_rfl) ?_; refine om_call rfl Try.func23 rfl rfl rfl (Fnum_any 2 _ (by omega)) rfl ?_
      rintro e w9 ⟨d9, rfl, D9, ex⟩
      refine ⟨_, rfl, .inr ex, ?_⟩
      replace B1 := B1.ext ex
      replace B2 := B2.ext ex
      replace E6 := E6.ext ex
      replace B6 := B6.ext ex
      skip
      refine wm_one 2 (by kernel_rfl) ?_; refine om_call rfl Try.func109 rfl rfl rfl (power_any 251 31 _) rfl ?_
      rintro e w10 ⟨g10, rfl, H10, ex⟩
      refine ⟨_, rfl, .inr ex, ?_⟩
      replace B1 := B1.ext ex
      replace B2 := B2.ext ex
      replace E6 := E6.ext ex
      replace B6 := B6.ext ex
      skip
      refine wm_one 3 (by kernel_rfl) ?_; refine om_call rfl Try.func43 rfl rfl rfl (Fpow_any D9 _ 32 32 _ _ H10 (by omega)) rfl ?_
      rintro e w11 ⟨d11, rfl, D11, ex⟩
      refine ⟨_, rfl, .inr ex, ?_⟩
      replace B1 := B1.ext ex
      replace B2 := B2.ext ex
      replace E6 := E6.ext ex
      replace B6 := B6.ext ex
      rw [hn2, Fp.im_pow] at D11
      refine wm_one 4 (by kernel_rfl) ?_; refine om_call rfl Try.func30 rfl rfl rfl (Fmul_any D D11 _) rfl ?_
      rintro e w12 ⟨d12, rfl, D12, ex⟩
      refine ⟨_, rfl, .inr ex, ?_⟩
      replace B1 := B1.ext ex
      replace B2 := B2.ext ex
      replace E6 := E6.ext ex
      replace B6 := B6.ext ex
      skip
      refine wm_one 5 (by kernel_rfl) ?_; refine om_ef rfl (ef_storeW rfl rfl (by rw [D12.size]; kernel_rfl) B6 (by rw [D.size, D12.size]) D12.one) rfl ?_
      rintro _ w13 ⟨rfl, B13, cg⟩
      refine ⟨.inl rfl, ?_⟩
      replace B1 := B1.chg cg (by omega); replace B2 := B2.chg cg (by omega); replace E6 := E6.chg cg hg5'; replace B6 := B13
      refine wm_done (by kernel_rfl) ?_
      refine wq_nop ?_
      refine wq_then_norm (hK35 ?_)
      refine wc_seq ?_; intro K37 hK37
      refine wc_seq ?_; intro K38 hK38
      refine wc_draw (by kernel_rfl) 5 rfl ?_; intro wd4 ex hd4
      replace B1 := B1.ext ex
      replace B2 := B2.ext ex
      replace E6 := E6.ext ex
      replace B6 := B6.ext ex
      refine wm_y 0 rfl (by kernel_rfl) ((y_loadw rfl Try.underlying27 rfl (by rw [D12.size]; kernel_rfl) B6)) rfl ?_
      refine wm_y 2 rfl (by kernel_rfl) ((y_loadw rfl Try.underlying27 rfl (by rw [ha.size]; kernel_rfl) B1)) rfl ?_
      refine wm_one 1 (by kernel_rfl) ?_; refine om_call rfl Try.func32 rfl rfl rfl (Fsquare_any D12 _) rfl ?_
      rintro e w14 ⟨d14, rfl, D14, ex⟩
      refine ⟨_, rfl, .inr ex, ?_⟩
      replace B1 := B1.ext ex
      replace B2 := B2.ext ex
      replace E6 := E6.ext ex
      replace B6 := B6.ext ex
      skip
      refine wm_one 3 (by kernel_rfl) ?_; refine om_call rfl Try.func33 rfl rfl rfl (Fsame_any D14 ha _) rfl ?_
      rintro e w15 ⟨rfl, ex⟩
      refine ⟨_, rfl, .inr ex, ?_⟩
      replace B1 := B1.ext ex
      replace B2 := B2.ext ex
      replace E6 := E6.ext ex
      replace B6 := B6.ext ex
      skip
      refine wm_y 4 rfl (by kernel_rfl) (y_not rfl) rfl ?_
      refine wm_done (by kernel_rfl) ?_
      refine wq_nop ?_
      refine wq_then_norm (hK38 ?_)
      refine wc_cond rfl (fun hc2 => ?_) (fun hc2 => ?_)
      · skip
        have hq2 : ¬ (Fp.guess a * Fp.im) * (Fp.guess a * Fp.im) = a := by simpa using hc2
        have hns : ¬ Fp.Sqr a := fun hs => by rcases hso hs with h | h <;> contradiction
        refine wc_seq ?_; intro K39 hK39
        refine wc_region ?_
        refine wl_y (y_build rfl (cells := fe (fun _ => 0)) (by kernel_rfl)) rfl ?_
        refine wl_ef (ef_storeW rfl rfl (by kernel_rfl) B2 rfl (fe_one _)) rfl ?_
        rintro _ w16 ⟨rfl, B16, cg⟩
        have E16 := E6.chg cg hg2'
        refine wl_y (y_assign rfl) rfl ?_
        refine wl_nil ?_
        refine wq_then_norm (hK39 ?_)
        refine wc_ret ?_
        refine wq_then_ret ?_
        refine hret rfl rfl B16 (fe_size _) ?_
        exact ⟨_, by rw [decide_eq_false hns], by rw [if_neg hns]; exact FE.zero, E16⟩
      · skip
        have hq2 : (Fp.guess a * Fp.im) * (Fp.guess a * Fp.im) = a := by simpa using hc2
        have hns : Fp.Sqr a := Fp.sqr_of hq2
        refine wc_skip ?_
        refine wq_then_norm (hK37 ?_)
        refine wc_seq ?_; intro K40 hK40
        refine wc_seq ?_; intro K41 hK41
        refine wc_region ?_
        refine wl_y ((y_loadw rfl Try.underlying27 rfl (by rw [D12.size]; kernel_rfl) B6)) rfl ?_
        refine wl_call Try.func36 rfl rfl rfl (Fodd_any D12 _) rfl ?_
        rintro e w17 ⟨rfl, ex⟩
        refine ⟨_, rfl, ?_⟩
        replace B1 := B1.ext ex
        replace B2 := B2.ext ex
        replace E6 := E6.ext ex
        replace B6 := B6.ext ex
        skip
        refine wl_nil ?_
        refine wq_then_norm (hK41 ?_)
        refine wc_dec rfl (fun hc3 => ?_) (fun hc3 => ?_)
        · skip
          refine wc_region ?_
          refine wl_y ((y_loadw rfl Try.underlying27 rfl (by rw [D12.size]; kernel_rfl) B6)) rfl ?_
          refine wl_call Try.func29 rfl rfl rfl (Fneg_any D12 _) rfl ?_
          rintro e w18 ⟨d18, rfl, D18, ex⟩
          refine ⟨_, rfl, ?_⟩
          replace B1 := B1.ext ex
          replace B2 := B2.ext ex
          replace E6 := E6.ext ex
          replace B6 := B6.ext ex
          skip
          refine wl_ef (ef_storeW rfl rfl (by rw [D18.size]; kernel_rfl) B6 (by rw [D12.size, D18.size]) D18.one) rfl ?_
          rintro _ w19 ⟨rfl, B19, cg⟩
          replace B1 := B1.chg cg (by omega); replace B2 := B2.chg cg (by omega); replace E6 := E6.chg cg hg5'; replace B6 := B19
          refine wl_nil ?_
          refine wq_then_norm (hK40 ?_)
          refine wc_seq ?_; intro K42 hK42
          refine wc_region ?_
          refine wl_y ((y_loadw rfl Try.underlying27 rfl (by rw [D18.size]; kernel_rfl) B6)) rfl ?_
          refine wl_ef (ef_storeW rfl rfl (by rw [D18.size]; kernel_rfl) B2 (by rw [fe_size, D18.size]) D18.one) rfl ?_
          rintro _ w20 ⟨rfl, B20, cg⟩
          have E20 := E6.chg cg hg2'
          refine wl_y (y_assign rfl) rfl ?_
          refine wl_nil ?_
          refine wq_then_norm (hK42 ?_)
          refine wc_ret ?_
          refine hret rfl rfl B20 D18.size ?_
          exact ⟨_, by rw [decide_eq_true hns], by rw [if_pos hns]; exact D18.congr (by unfold Fp.root; simp only [hq, ↓reduceIte, hc3]), E20⟩
        · skip
          refine wc_skip ?_
          refine wq_then_norm (hK40 ?_)
          refine wc_seq ?_; intro K43 hK43
          refine wc_region ?_
          refine wl_y ((y_loadw rfl Try.underlying27 rfl (by rw [D12.size]; kernel_rfl) B6)) rfl ?_
          refine wl_ef (ef_storeW rfl rfl (by rw [D12.size]; kernel_rfl) B2 (by rw [fe_size, D12.size]) D12.one) rfl ?_
          rintro _ w20 ⟨rfl, B20, cg⟩
          have E20 := E6.chg cg hg2'
          refine wl_y (y_assign rfl) rfl ?_
          refine wl_nil ?_
          refine wq_then_norm (hK43 ?_)
          refine wc_ret ?_
          refine hret rfl rfl B20 D12.size ?_
          exact ⟨_, by rw [decide_eq_true hns], by rw [if_pos hns]; exact D12.congr (by unfold Fp.root; simp only [hq, ↓reduceIte, hc3]), E20⟩
    · skip
      have hq : Fp.guess a * Fp.guess a = a := by simpa using hc1
      refine wc_skip ?_
      refine wq_then_norm (hK35 ?_)
      refine wc_seq ?_; intro K44 hK44
      refine wc_seq ?_; intro K45 hK45
      refine wc_draw (by kernel_rfl) 5 rfl ?_; intro wd4 ex hd4
      replace B1 := B1.ext ex
      replace B2 := B2.ext ex
      replace E6 := E6.ext ex
      replace B6 := B6.ext ex
      refine wm_y 0 rfl (by kernel_rfl) ((y_loadw rfl Try.underlying27 rfl (by rw [D.size]; kernel_rfl) B6)) rfl ?_
      refine wm_y 2 rfl (by kernel_rfl) ((y_loadw rfl Try.underlying27 rfl (by rw [ha.size]; kernel_rfl) B1)) rfl ?_
      refine wm_one 1 (by kernel_rfl) ?_; refine om_call rfl Try.func32 rfl rfl rfl (Fsquare_any D _) rfl ?_
      rintro e w14 ⟨d14, rfl, D14, ex⟩
      refine ⟨_, rfl, .inr ex, ?_⟩
      replace B1 := B1.ext ex
      replace B2 := B2.ext ex
      replace E6 := E6.ext ex
      replace B6 := B6.ext ex
      skip
      refine wm_one 3 (by kernel_rfl) ?_; refine om_call rfl Try.func33 rfl rfl rfl (Fsame_any D14 ha _) rfl ?_
      rintro e w15 ⟨rfl, ex⟩
      refine ⟨_, rfl, .inr ex, ?_⟩
      replace B1 := B1.ext ex
      replace B2 := B2.ext ex
      replace E6 := E6.ext ex
      replace B6 := B6.ext ex
      skip
      refine wm_y 4 rfl (by kernel_rfl) (y_not rfl) rfl ?_
      refine wm_done (by kernel_rfl) ?_
      refine wq_nop ?_
      refine wq_then_norm (hK45 ?_)
      refine wc_cond rfl (fun hc2 => ?_) (fun hc2 => ?_)
      · skip
        have hq2 : ¬ (Fp.guess a) * (Fp.guess a) = a := by simpa using hc2
        have hns : ¬ Fp.Sqr a := fun hs => by rcases hso hs with h | h <;> contradiction
        refine wc_seq ?_; intro K46 hK46
        refine wc_region ?_
        refine wl_y (y_build rfl (cells := fe (fun _ => 0)) (by kernel_rfl)) rfl ?_
        refine wl_ef (ef_storeW rfl rfl (by kernel_rfl) B2 rfl (fe_one _)) rfl ?_
        rintro _ w16 ⟨rfl, B16, cg⟩
        have E16 := E6.chg cg hg2'
        refine wl_y (y_assign rfl) rfl ?_
        refine wl_nil ?_
        refine wq_then_norm (hK46 ?_)
        refine wc_ret ?_
        refine wq_then_ret ?_
        refine hret rfl rfl B16 (fe_size _) ?_
        exact ⟨_, by rw [decide_eq_false hns], by rw [if_neg hns]; exact FE.zero, E16⟩
      · skip
        have hq2 : (Fp.guess a) * (Fp.guess a) = a := by simpa using hc2
        have hns : Fp.Sqr a := Fp.sqr_of hq2
        refine wc_skip ?_
        refine wq_then_norm (hK44 ?_)
        refine wc_seq ?_; intro K47 hK47
        refine wc_seq ?_; intro K48 hK48
        refine wc_region ?_
        refine wl_y ((y_loadw rfl Try.underlying27 rfl (by rw [D.size]; kernel_rfl) B6)) rfl ?_
        refine wl_call Try.func36 rfl rfl rfl (Fodd_any D _) rfl ?_
        rintro e w17 ⟨rfl, ex⟩
        refine ⟨_, rfl, ?_⟩
        replace B1 := B1.ext ex
        replace B2 := B2.ext ex
        replace E6 := E6.ext ex
        replace B6 := B6.ext ex
        skip
        refine wl_nil ?_
        refine wq_then_norm (hK48 ?_)
        refine wc_dec rfl (fun hc3 => ?_) (fun hc3 => ?_)
        · skip
          refine wc_region ?_
          refine wl_y ((y_loadw rfl Try.underlying27 rfl (by rw [D.size]; kernel_rfl) B6)) rfl ?_
          refine wl_call Try.func29 rfl rfl rfl (Fneg_any D _) rfl ?_
          rintro e w18 ⟨d18, rfl, D18, ex⟩
          refine ⟨_, rfl, ?_⟩
          replace B1 := B1.ext ex
          replace B2 := B2.ext ex
          replace E6 := E6.ext ex
          replace B6 := B6.ext ex
          skip
          refine wl_ef (ef_storeW rfl rfl (by rw [D18.size]; kernel_rfl) B6 (by rw [D.size, D18.size]) D18.one) rfl ?_
          rintro _ w19 ⟨rfl, B19, cg⟩
          replace B1 := B1.chg cg (by omega); replace B2 := B2.chg cg (by omega); replace E6 := E6.chg cg hg5'; replace B6 := B19
          refine wl_nil ?_
          refine wq_then_norm (hK47 ?_)
          refine wc_seq ?_; intro K49 hK49
          refine wc_region ?_
          refine wl_y ((y_loadw rfl Try.underlying27 rfl (by rw [D18.size]; kernel_rfl) B6)) rfl ?_
          refine wl_ef (ef_storeW rfl rfl (by rw [D18.size]; kernel_rfl) B2 (by rw [fe_size, D18.size]) D18.one) rfl ?_
          rintro _ w20 ⟨rfl, B20, cg⟩
          have E20 := E6.chg cg hg2'
          refine wl_y (y_assign rfl) rfl ?_
          refine wl_nil ?_
          refine wq_then_norm (hK49 ?_)
          refine wc_ret ?_
          refine hret rfl rfl B20 D18.size ?_
          exact ⟨_, by rw [decide_eq_true hns], by rw [if_pos hns]; exact D18.congr (by unfold Fp.root; simp only [hq, ↓reduceIte, hc3]), E20⟩
        · skip
          refine wc_skip ?_
          refine wq_then_norm (hK47 ?_)
          refine wc_seq ?_; intro K50 hK50
          refine wc_region ?_
          refine wl_y ((y_loadw rfl Try.underlying27 rfl (by rw [D.size]; kernel_rfl) B6)) rfl ?_
          refine wl_ef (ef_storeW rfl rfl (by rw [D.size]; kernel_rfl) B2 (by rw [fe_size, D.size]) D.one) rfl ?_
          rintro _ w20 ⟨rfl, B20, cg⟩
          have E20 := E6.chg cg hg2'
          refine wl_y (y_assign rfl) rfl ?_
          refine wl_nil ?_
          refine wq_then_norm (hK50 ?_)
          refine wc_ret ?_
          refine hret rfl rfl B20 D.size ?_
          exact ⟨_, by rw [decide_eq_true hns], by rw [if_pos hns]; exact D.congr (by unfold Fp.root; simp only [hq, ↓reduceIte, hc3]), E20⟩
/-- What the field's number is that bytes tell. -/
theorem Fof_any (A : Option Addr) (n c : Nat) (xs : List UInt8) (w : World) (HA : Bs w A n xs) :
    Calls Try.prog 19 #[.slice A n c] w fun e w' => ∃ cs, e = .returned (.agg cs) ∧ FE cs (Fp.of (Fp.ofB xs)) ∧ Ext w w' :=
  (fof_any A n c xs w HA).mono fun _ _ ⟨cs, h1, h2, h3⟩ => ⟨cs, h1, FE.of h2, h3⟩
theorem num_take_succ (es : List UInt8) (i : Nat) (h : i < es.length) : Fp.num (es.take (i + 1)) = Fp.num (es.take i) + 256 ^ i * (es.getD i 0).toNat := by
  rw [List.take_succ_eq_append_getElem h, Fp.num_append, List.length_take, Nat.min_eq_left (by omega), Fp.num, Fp.num, List.getD_eq_getElem?_getD, List.getElem?_eq_getElem h]
  rfl
theorem pow_more (a : Fp.F) (N q x k : Nat) : Fp.pow a (N + q * (x % 2 ^ (k + 1))) = if x / 2 ^ k % 2 = 1 then Fp.pow a (N + q * (x % 2 ^ k)) * Fp.pow a (q * 2 ^ k) else Fp.pow a (N + q * (x % 2 ^ k)) := by
  rw [Nat.mod_pow_succ]
  split
  · rename_i h
    rw [h, Nat.mul_one, Nat.mul_add, ← Nat.add_assoc, Fp.pow_add]
  · rw [show x / 2 ^ k % 2 = 0 by omega, Nat.mul_zero, Nat.add_zero]
/-- A number of the reference by its member of the field. -/
def BG (w : World) (A : Option Addr) (n : Nat) (a : Fp.F) : Prop := Bg w A n a.val
theorem BG.le {w : World} {A : Option Addr} {n : Nat} {a : Fp.F} (h : BG w A n a) : n ≤ 17 := by
  have hl := (show Bg w A n a.val from h).len
  have := p_len
  have := Big.length_le (Nat.le_of_lt a.isLt)
  omega
theorem BG.congr {w : World} {A : Option Addr} {n : Nat} {a b : Fp.F} (h : BG w A n a) (e : a = b) : BG w A n b := e ▸ h
theorem BG.ext {w w' : World} {A : Option Addr} {n : Nat} {a : Fp.F} (h : BG w A n a) (k : Ext w w') : BG w' A n a := Ns.ext h k
theorem BG.of {w : World} {A : Option Addr} {n x : Nat} (h : Bg w A n x) (hx : x < Fp.p) : BG w A n (Fp.of x) := by
  unfold BG; rw [Fp.val_of, Nat.mod_eq_of_lt hx]; exact h
theorem Rmul_any (A B : Option Addr) (n c m d : Nat) (a b : Fp.F) (w : World) (HA : BG w A n a) (HB : BG w B m b) :
    Calls Try.prog 31 #[.slice A n c, .slice B m d] w fun e w' => ∃ A' n' c', e = .returned (.slice A' n' c') ∧ BG w' A' n' (a * b) ∧ n' ≤ c' ∧ Ext w w' :=
  (rmul_any A B n c m d a.val b.val w HA HB (by have := HA.le; omega) (by have := HB.le; omega)).mono fun _ _ ⟨A', n', c', h1, h2, h3, h4⟩ => ⟨A', n', c', h1, by unfold BG; rw [Fp.val_mul]; exact h2, h3, h4⟩
theorem Radd_any (A B : Option Addr) (n c m d : Nat) (a b : Fp.F) (w : World) (HA : BG w A n a) (HB : BG w B m b) :
    Calls Try.prog 26 #[.slice A n c, .slice B m d] w fun e w' => ∃ A' n' c', e = .returned (.slice A' n' c') ∧ BG w' A' n' (a + b) ∧ n' ≤ c' ∧ Ext w w' :=
  (radd_any A B n c m d a.val b.val w HA HB (by have := HA.le; omega) (by have := HB.le; omega)).mono fun _ _ ⟨A', n', c', h1, h2, h3, h4⟩ => ⟨A', n', c', h1, by unfold BG; rw [Fp.val_add]; exact h2, h3, h4⟩
theorem Rsub_any (A B : Option Addr) (n c m d : Nat) (a b : Fp.F) (w : World) (HA : BG w A n a) (HB : BG w B m b) :
    Calls Try.prog 28 #[.slice A n c, .slice B m d] w fun e w' => ∃ A' n' c', e = .returned (.slice A' n' c') ∧ BG w' A' n' (a - b) ∧ n' ≤ c' ∧ Ext w w' :=
  (rsub_any A B n c m d a.val b.val w HA HB (by have := b.isLt; omega) (by have := HA.le; omega) (by have := HB.le; omega)).mono fun _ _ ⟨A', n', c', h1, h2, h3, h4⟩ => ⟨A', n', c', h1, by unfold BG; rw [Fp.val_sub]; exact h2, h3, h4⟩
theorem Rpow_any (A B : Option Addr) (n c m d : Nat) (a : Fp.F) (es : List UInt8) (w : World) (HA : BG w A n a) (HB : Bs w B m es) (hm : m ≤ 1000) :
    Calls Try.prog 44 #[.slice A n c, .slice B m d] w fun e w' => ∃ A' n' c', e = .returned (.slice A' n' c') ∧ BG w' A' n' (Fp.pow a (Fp.num es)) ∧ n' ≤ c' ∧ Ext w w' := by
  have hle := HB.1
  have HB0 := HB
  refine vc_enter1 37 Try.func44 rfl rfl rfl rfl ?_
  intro Q hret
  refine wc_seq ?_; intro K1 hK1
  refine wc_region ?_
  refine wl_y (y_assign rfl) rfl ?_
  refine wl_nil ?_
  refine wq_then_norm (hK1 ?_)
  refine wc_seq ?_; intro K2 hK2
  refine wc_region ?_
  refine wl_call Try.func24 rfl rfl rfl (num_any 1 _ (by omega)) rfl ?_
  rintro e w1 ⟨A1, n1, c1, rfl, H1, k1, ex⟩
  refine ⟨_, rfl, ?_⟩
  replace HA := HA.ext ex
  have E1 := ex
  refine wl_y (y_assign rfl) rfl ?_
  refine wl_nil ?_
  refine wq_then_norm (hK2 ?_)
  refine wc_seq ?_; intro K3 hK3
  refine wc_seq ?_; intro K4 hK4
  refine wc_region ?_
  refine wl_y (y_assign rfl) rfl ?_
  refine wl_nil ?_
  refine wq_then_norm (hK4 ?_)
  refine wc_block ?_
  refine wc_loop (fun n' L wr => ∃ (i n0 c0 n5 c5 : Nat) (A0 A5 : Option Addr), L = [(0, .slice A0 n0 c0), (1, .slice B m d), (5, .slice A5 n5 c5), (6, .int .i64 (i : Int))] ∧ n' = m - i ∧ (i ≤ m ∧ n5 ≤ c5 ∧ Ext w wr ∧ BG wr A0 n0 (Fp.pow a (256 ^ i)) ∧ BG wr A5 n5 (Fp.pow a (Fp.num (es.take i))))) _ _ ⟨0, n, c, n1, c1, A, A1, rfl, rfl, by omega, k1, E1, BG.congr HA (by rw [Nat.pow_zero, Fp.pow_one]), BG.congr (a := 1) H1 (by rw [List.take_zero]; exact (Fp.pow_zero a).symm)⟩ ⟨rfl, rfl, rfl, (by first | rfl | exact congrArg some (int_val (by omega))), trivial⟩ ?_
  rintro KL1 n' L wr ⟨i, n0, c0, n5, c5, A0, A5, rfl, rfl, hi, h5, E, H0, H5⟩ hL1
  refine wc_seq ?_; intro K5 hK5
  refine wc_seq ?_; intro K6 hK6
  refine wc_region ?_
  refine wl_y (y_move rfl) rfl ?_
  refine wl_y (y_move rfl) rfl ?_
  refine wl_y (y_len_slice rfl Try.underlying22) rfl ?_
  refine wl_y (y_lss rfl rfl) rfl ?_
  refine wl_nil ?_
  refine wq_then_norm (hK6 ?_)
  refine wc_dec rfl (fun hc1 => ?_) (fun hc1 => ?_)
  · skip
    refine wc_skip ?_
    refine wq_then_norm (hK5 ?_)
    refine wc_seq ?_; intro K7 hK7
    refine wc_block ?_
    refine wc_seq ?_; intro K8 hK8
    obtain ⟨b1, off1, x, rfl, hx, hcx⟩ := (HB0.wk E).byte (k := i) (by omega)
    have hxl := x.toNat_lt
    have hts := num_take_succ es i (by omega)
    rw [← hx.out] at hts
    refine wc_region ?_
    refine wl_y (y_move rfl) rfl ?_
    refine wl_y (y_move rfl) rfl ?_
    refine wl_y (y_ixs1 rfl rfl Try.underlying22 (by kernel_rfl) rfl (by omega)) rfl ?_
    refine wl_y (y_load1 rfl Try.underlying5 rfl hcx) rfl ?_
    refine wl_y (y_conv rfl Try.underlying5 Try.underlying3 (i64_nat (n := x.toNat) rfl (by omega))) rfl ?_
    refine wl_y (y_assign rfl) rfl ?_
    refine wl_nil ?_
    refine wq_then_norm (hK8 ?_)
    refine wc_seq ?_; intro K9 hK9
    refine wc_region ?_
    refine wl_y (y_assign rfl) rfl ?_
    refine wl_nil ?_
    refine wq_then_norm (hK9 ?_)
    refine wc_block ?_
    refine wc_loop (fun n' L wr => ∃ (k n0 c0 n5 c5 : Nat) (A0 A5 : Option Addr), L = [(0, .slice A0 n0 c0), (1, .slice (some ⟨b1, off1, none⟩) m d), (5, .slice A5 n5 c5), (6, .int .i64 (i : Int)), (7, .int .i64 ((x.toNat / 2 ^ k : Nat) : Int)), (8, .int .i64 (k : Int))] ∧ n' = 8 - k ∧ (k ≤ 8 ∧ n5 ≤ c5 ∧ Ext w wr ∧ BG wr A0 n0 (Fp.pow a (256 ^ i * 2 ^ k)) ∧ BG wr A5 n5 (Fp.pow a (Fp.num (es.take i) + 256 ^ i * (x.toNat % 2 ^ k))))) _ _ ⟨0, n0, c0, n5, c5, A0, A5, rfl, rfl, by omega, h5, E, H0.congr (by rw [Nat.pow_zero, Nat.mul_one]), H5.congr (by rw [Nat.pow_zero, Nat.mod_one, Nat.mul_zero, Nat.add_zero])⟩ ⟨rfl, rfl, rfl, (by first | rfl | exact congrArg some (int_val (by omega))), (by first | rfl | exact congrArg some (int_val (by omega))), (by first | rfl | exact congrArg some (int_val (by omega))), trivial⟩ ?_
    rintro KL2 n' L wr ⟨k, n0, c0, n5, c5, A0, A5, rfl, rfl, hk, h5, E, H0, H5⟩ hL2
    refine wc_seq ?_; intro K10 hK10
    refine wc_seq ?_; intro K11 hK11
    refine wc_region ?_
    refine wl_y (y_move rfl) rfl ?_
    refine wl_y (y_lss rfl rfl) rfl ?_
    refine wl_nil ?_
    refine wq_then_norm (hK11 ?_)
    refine wc_dec rfl (fun hc2 => ?_) (fun hc2 => ?_)
    · skip
      have hpm := pow_more a (Fp.num (es.take i)) (256 ^ i) x.toNat k
      have hxk : x.toNat / 2 ^ k < 256 := Nat.lt_of_le_of_lt (Nat.div_le_self _ _) (by omega)
      refine wc_skip ?_
      refine wq_then_norm (hK10 ?_)
      refine wc_seq ?_; intro K12 hK12
      refine wc_block ?_
      refine wc_seq ?_; intro K13 hK13
      refine wc_seq ?_; intro K14 hK14
      refine wc_region ?_
      refine wl_y (y_move rfl) rfl ?_
      refine wl_y (y_rem rfl rfl (by omega) (show ((x.toNat / 2 ^ k : Nat) : Int).tmod 2 = ((x.toNat / 2 ^ k % 2 : Nat) : Int) from rfl)) rfl ?_
      refine wl_y (y_eql rfl rfl) rfl ?_
      refine wl_nil ?_
      refine wq_then_norm (hK14 ?_)
      refine wc_dec rfl (fun hc3 => ?_) (fun hc3 => ?_)
      · skip
        refine wc_region ?_
        refine wl_y (y_move rfl) rfl ?_
        refine wl_y (y_move rfl) rfl ?_
        refine wl_call Try.func31 rfl rfl rfl (Rmul_any A5 A0 n5 c5 n0 c0 _ _ _ H5 H0) rfl ?_
        rintro e w2 ⟨A2, n2, c2, rfl, H2, h2, ex⟩
        refine ⟨_, rfl, ?_⟩
        replace E := E.ext ex; replace H0 := H0.ext ex; replace H2 := H2.congr (show _ = Fp.pow a (Fp.num (es.take i) + 256 ^ i * (x.toNat % 2 ^ (k + 1))) by rw [hpm, if_pos (by omega)])
        refine wl_y (y_assign rfl) rfl ?_
        refine wl_nil ?_
        refine wq_then_norm (hK13 ?_)
        refine wc_seq ?_; intro K15 hK15
        refine wc_region ?_
        refine wl_y (y_move rfl) rfl ?_
        refine wl_y (y_quo rfl rfl (by omega) (show IntKind.i64.wrap (((x.toNat / 2 ^ k : Nat) : Int).tdiv 2) = ((x.toNat / 2 ^ (k + 1) : Nat) : Int) from i64_nat (by rw [Nat.pow_succ, ← Nat.div_div_eq_div_mul]; rfl) (by have := Nat.div_le_self x.toNat (2 ^ (k + 1)); omega))) rfl ?_
        refine wl_y (y_assign rfl) rfl ?_
        refine wl_nil ?_
        refine wq_then_norm (hK15 ?_)
        refine wc_region ?_
        refine wl_y (y_move rfl) rfl ?_
        refine wl_y (y_move rfl) rfl ?_
        refine wl_call Try.func31 rfl rfl rfl (Rmul_any A0 A0 n0 c0 n0 c0 _ _ _ H0 H0) rfl ?_
        rintro e w3 ⟨A3, n3, c3, rfl, H3, h3, ex⟩
        refine ⟨_, rfl, ?_⟩
        have E3 := E.ext ex; have H3' := H3.congr (show _ = Fp.pow a (256 ^ i * 2 ^ (k + 1)) by rw [Nat.pow_succ, ← Nat.mul_assoc, Nat.mul_comm _ 2, Fp.pow_double])
        refine wl_y (y_assign rfl) rfl ?_
        refine wl_nil ?_
        refine wq_blk_norm ?_
        refine wq_then_norm (hK12 ?_)
        refine wc_region ?_
        refine wl_y (y_move rfl) rfl ?_
        refine wl_y (y_add rfl rfl (i64_ok (by omega) (by omega))) rfl ?_
        refine wl_y (y_assign rfl) rfl ?_
        refine wl_nil ?_
        refine wq_then_norm ?_
        refine hL2 _ _ ⟨k + 1, n3, c3, n2, c2, A3, A2, rfl, rfl, by omega, h2, E3, H3', H2.ext ex⟩ (by omega) ⟨rfl, rfl, rfl, (by first | rfl | exact congrArg some (int_val (by omega))), (by first | rfl | exact congrArg some (int_val (by omega))), (by first | rfl | exact congrArg some (int_val (by omega))), trivial⟩
      · skip
        refine wc_skip ?_
        refine wq_then_norm (hK13 ?_)
        refine wc_seq ?_; intro K16 hK16
        refine wc_region ?_
        refine wl_y (y_move rfl) rfl ?_
        refine wl_y (y_quo rfl rfl (by omega) (show IntKind.i64.wrap (((x.toNat / 2 ^ k : Nat) : Int).tdiv 2) = ((x.toNat / 2 ^ (k + 1) : Nat) : Int) from i64_nat (by rw [Nat.pow_succ, ← Nat.div_div_eq_div_mul]; rfl) (by have := Nat.div_le_self x.toNat (2 ^ (k + 1)); omega))) rfl ?_
        refine wl_y (y_assign rfl) rfl ?_
        refine wl_nil ?_
        refine wq_then_norm (hK16 ?_)
        refine wc_region ?_
        refine wl_y (y_move rfl) rfl ?_
        refine wl_y (y_move rfl) rfl ?_
        refine wl_call Try.func31 rfl rfl rfl (Rmul_any A0 A0 n0 c0 n0 c0 _ _ _ H0 H0) rfl ?_
        rintro e w3 ⟨A3, n3, c3, rfl, H3, h3, ex⟩
        refine ⟨_, rfl, ?_⟩
        have E3 := E.ext ex; have H3' := H3.congr (show _ = Fp.pow a (256 ^ i * 2 ^ (k + 1)) by rw [Nat.pow_succ, ← Nat.mul_assoc, Nat.mul_comm _ 2, Fp.pow_double])
        refine wl_y (y_assign rfl) rfl ?_
        refine wl_nil ?_
        refine wq_blk_norm ?_
        refine wq_then_norm (hK12 ?_)
        refine wc_region ?_
        refine wl_y (y_move rfl) rfl ?_
        refine wl_y (y_add rfl rfl (i64_ok (by omega) (by omega))) rfl ?_
        refine wl_y (y_assign rfl) rfl ?_
        refine wl_nil ?_
        refine wq_then_norm ?_
        refine hL2 _ _ ⟨k + 1, n3, c3, n5, c5, A3, A5, rfl, rfl, by omega, h5, E3, H3', (H5.ext ex).congr (by rw [hpm, if_neg (by omega)])⟩ (by omega) ⟨rfl, rfl, rfl, (by first | rfl | exact congrArg some (int_val (by omega))), (by first | rfl | exact congrArg some (int_val (by omega))), (by first | rfl | exact congrArg some (int_val (by omega))), trivial⟩
    · skip
      refine wc_exit ?_
      refine wq_then_exit ?_
      refine wq_then_exit ?_
      refine wq_blk_hit ?_
      refine wq_blk_norm ?_
      refine wq_then_norm (hK7 ?_)
      refine wc_region ?_
      refine wl_y (y_move rfl) rfl ?_
      refine wl_y (y_add rfl rfl (i64_ok (by omega) (by omega))) rfl ?_
      refine wl_y (y_assign rfl) rfl ?_
      refine wl_nil ?_
      refine wq_then_norm ?_
      obtain rfl : k = 8 := by omega
      rw [Nat.mod_eq_of_lt (show x.toNat < 2 ^ 8 by omega), ← hts] at H5
      refine hL1 _ _ ⟨i + 1, n0, c0, n5, c5, A0, A5, rfl, rfl, by omega, h5, E, H0.congr rfl, H5⟩ (by omega) ⟨rfl, rfl, rfl, (by first | rfl | exact congrArg some (int_val (by omega))), trivial⟩
  · skip
    refine wc_exit ?_
    refine wq_then_exit ?_
    refine wq_then_exit ?_
    refine wq_blk_hit ?_
    refine wq_then_norm (hK3 ?_)
    refine wc_seq ?_; intro K17 hK17
    refine wc_region ?_
    refine wl_y (y_move rfl) rfl ?_
    refine wl_y (y_assign rfl) rfl ?_
    refine wl_nil ?_
    refine wq_then_norm (hK17 ?_)
    refine wc_ret ?_
    refine hret rfl ?_
    exact ⟨A5, n5, c5, rfl, H5.congr (by rw [List.take_of_length_le (by omega)]), h5, E⟩
theorem Rinv_any (A : Option Addr) (n c : Nat) (a : Fp.F) (w : World) (HA : BG w A n a) :
    Calls Try.prog 46 #[.slice A n c] w fun e w' => ∃ A' n' c', e = .returned (.slice A' n' c') ∧ BG w' A' n' (Fp.inv a) ∧ n' ≤ c' ∧ Ext w w' := by
  have hpl := p_len
  have hnum : Fp.num (Fp.le 32 (Fp.p - 2)) = Fp.p - 2 := by decide +kernel
  refine vc_enter1 9 Try.func46 rfl rfl rfl rfl ?_
  intro Q hret
  refine wc_seq ?_; intro K1 hK1
  refine wc_region ?_
  refine wl_y (y_assign rfl) rfl ?_
  refine wl_nil ?_
  refine wq_then_norm (hK1 ?_)
  refine wc_seq ?_; intro K2 hK2
  refine wc_region ?_
  refine wl_y (y_move rfl) rfl ?_
  refine wl_call Try.func49 rfl rfl rfl (refP_any _) rfl ?_
  rintro e w1 ⟨A1, n1, c1, rfl, H1, k1, ex⟩
  refine ⟨_, rfl, ?_⟩
  replace HA := HA.ext ex
  have E1 := ex; have hl1 := H1.len
  refine wl_call Try.func24 rfl rfl rfl (num_any 2 _ (by omega)) rfl ?_
  rintro e w2 ⟨A2, n2, c2, rfl, H2, k2, ex⟩
  refine ⟨_, rfl, ?_⟩
  replace HA := HA.ext ex
  have E2 := E1.ext ex; replace H1 := H1.ext ex
  refine wl_call Try.func102 rfl rfl rfl (sub_any A1 A2 n1 c1 n2 c2 Fp.p 2 _ H1 H2 (by have := Fp.p_two; omega) (by omega)) rfl ?_
  rintro e w3 ⟨A3, n3, c3, rfl, H3, k3, ex⟩
  refine ⟨_, rfl, ?_⟩
  replace HA := HA.ext ex
  have E3 := E2.ext ex; have hl3 := H3.len; have hle := Big.length_le (Nat.sub_le Fp.p 2)
  refine wl_call Try.func50 rfl rfl rfl (rbytes_any A3 n3 c3 32 _ _ H3 (by omega) (by omega)) rfl ?_
  rintro e w4 ⟨A4, c4, rfl, H4, ex⟩
  refine ⟨_, rfl, ?_⟩
  replace HA := HA.ext ex
  have E4 := E3.ext ex
  refine wl_call Try.func44 rfl rfl rfl (Rpow_any A A4 n c 32 c4 a _ _ HA H4 (by omega)) rfl ?_
  rintro e w5 ⟨A5, n5, c5, rfl, H5, h5, ex⟩
  refine ⟨_, rfl, ?_⟩
  replace HA := HA.ext ex
  have E5 := E4.ext ex; rw [hnum] at H5
  refine wl_y (y_assign rfl) rfl ?_
  refine wl_nil ?_
  refine wq_then_norm (hK2 ?_)
  refine wc_ret ?_
  refine hret rfl ?_
  exact ⟨A5, n5, c5, rfl, H5, h5, E5⟩
end Go.Proofs.Ytbcbihdfpkeacaa
