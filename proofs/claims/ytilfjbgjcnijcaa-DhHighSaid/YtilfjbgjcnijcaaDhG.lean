/- The law DhMuls: it answers true whatever it is given. -/
import Derived.Test.YtilfjbgjcnijcaaDhF
namespace Go.Proofs.Ytilfjbgjcnijcaa
open Go.RowKit
attribute [local irreducible] Y Ef WL WC WK WQ WM OpM WN WF OpN
theorem dhMuls_law (A : Option Addr) (n c : Nat) (xs : List UInt8) (B : Option Addr) (m d : Nat) (ys : List UInt8) (w : World) (HA : Bs w A n xs) (hn : n ≤ maxLen) (HB : Bs w B m ys) (hm : m ≤ maxLen) :
    Calls Try.prog 9 #[.slice A n c, .slice B m d] w fun e w' => e = .returned (.bool true) ∧ Below w.heap.size w w' := by
  unfold maxLen at hn hm
  have E := Ext.refl w
  have hx := HA.1; have hy := HB.1
  refine vc_enter1 127 Try.func9 rfl rfl rfl rfl ?_
  intro Q hret
  refine wc_seq ?_; intro K1 hK1
  refine wc_region ?_
  refine wl_y (y_assign rfl) rfl ?_
  refine wl_nil ?_
  refine wq_then_norm (hK1 ?_)
  refine wc_seq ?_; intro K2 hK2
  refine wc_seq ?_; intro K3 hK3
  refine wc_region ?_
  refine wl_call Try.func56 rfl rfl rfl (alive7_any _) rfl ?_
  rintro e w1 ⟨rfl, ex⟩
  refine ⟨_, rfl, ?_⟩
  replace HA := HA.ext ex
  replace HB := HB.ext ex
  replace E := E.ext ex
  refine wl_y (y_not rfl) rfl ?_
  refine wl_nil ?_
  refine wq_then_norm (hK3 ?_)
  refine wc_false rfl rfl ?_
  refine wc_skip ?_
  refine wq_then_norm (hK2 ?_)
  refine wc_seq ?_; intro K4 hK4
  refine wc_seq ?_; intro K5 hK5
  refine wc_region ?_
  refine wl_y (y_move rfl) rfl ?_
  refine wl_y (y_len_slice rfl Try.underlying22) rfl ?_
  refine wl_yask (y_gtr rfl rfl) rfl (fun h1 => ?_) (fun h1 => ?_)
  · skip
    refine wl_y (y_move rfl) rfl ?_
    refine wl_gno 16 rfl rfl rfl rfl ?_
    refine wl_gno 16 rfl rfl rfl rfl ?_
    refine wl_gno 16 rfl rfl rfl rfl ?_
    refine wl_y (y_pickt rfl rfl) rfl ?_
    refine wl_y (y_move rfl) rfl ?_
    refine wl_gno 21 rfl rfl rfl rfl ?_
    refine wl_gno 21 rfl rfl rfl rfl ?_
    refine wl_gno 21 rfl rfl rfl rfl ?_
    refine wl_gno 21 rfl rfl rfl rfl ?_
    refine wl_gno 21 rfl rfl rfl rfl ?_
    refine wl_gno 21 rfl rfl rfl rfl ?_
    refine wl_y (y_pickt rfl rfl) rfl ?_
    refine wl_nil ?_
    refine wq_then_norm (hK5 ?_)
    refine wc_true rfl rfl ?_
    refine wc_seq ?_; intro K6 hK6
    refine wc_region ?_
    refine wl_y (y_move rfl) rfl ?_
    refine wl_y (y_len_slice rfl Try.underlying22) rfl ?_
    refine wl_y (Y.as (y_gtr rfl rfl) (congrArg Value.bool (decide_eq_true h1))) rfl ?_
    refine wl_y (y_move rfl) rfl ?_
    refine wl_gno 32 rfl rfl rfl rfl ?_
    refine wl_gno 32 rfl rfl rfl rfl ?_
    refine wl_gno 32 rfl rfl rfl rfl ?_
    refine wl_y (y_pickt rfl rfl) rfl ?_
    refine wl_y (y_assign rfl) rfl ?_
    refine wl_nil ?_
    refine wq_then_norm (hK6 ?_)
    refine wc_ret ?_
    refine wq_then_ret ?_
    refine hret rfl ?_
    exact ⟨rfl, E⟩
  · skip
    refine wl_y (y_move rfl) rfl ?_
    refine wl_gy 16 rfl rfl (y_move rfl) rfl ?_
    refine wl_gy 16 rfl rfl (y_len_slice rfl Try.underlying22) rfl ?_
    refine wl_gyask 16 rfl rfl (y_gtr rfl rfl) rfl (fun h2 => ?_) (fun h2 => ?_)
    · skip
      refine wl_y (y_pickf rfl rfl) rfl ?_
      refine wl_y (y_move rfl) rfl ?_
      refine wl_gno 21 rfl rfl rfl rfl ?_
      refine wl_gno 21 rfl rfl rfl rfl ?_
      refine wl_gno 21 rfl rfl rfl rfl ?_
      refine wl_gno 21 rfl rfl rfl rfl ?_
      refine wl_gno 21 rfl rfl rfl rfl ?_
      refine wl_gno 21 rfl rfl rfl rfl ?_
      refine wl_y (y_pickt rfl rfl) rfl ?_
      refine wl_nil ?_
      refine wq_then_norm (hK5 ?_)
      refine wc_true rfl rfl ?_
      refine wc_seq ?_; intro K7 hK7
      refine wc_region ?_
      refine wl_y (y_move rfl) rfl ?_
      refine wl_y (y_len_slice rfl Try.underlying22) rfl ?_
      refine wl_y (Y.as (y_gtr rfl rfl) (congrArg Value.bool (decide_eq_false h1))) rfl ?_
      refine wl_y (y_move rfl) rfl ?_
      refine wl_gy 32 rfl rfl (y_move rfl) rfl ?_
      refine wl_gy 32 rfl rfl (y_len_slice rfl Try.underlying22) rfl ?_
      refine wl_gy 32 rfl rfl (Y.as (y_gtr rfl rfl) (congrArg Value.bool (decide_eq_true h2))) rfl ?_
      refine wl_y (y_pickf rfl rfl) rfl ?_
      refine wl_y (y_assign rfl) rfl ?_
      refine wl_nil ?_
      refine wq_then_norm (hK7 ?_)
      refine wc_ret ?_
      refine wq_then_ret ?_
      refine hret rfl ?_
      exact ⟨rfl, E⟩
    · skip
      refine wl_y (y_pickf rfl rfl) rfl ?_
      refine wl_y (y_move rfl) rfl ?_
      refine wl_gy 21 rfl rfl (y_move rfl) rfl ?_
      refine wl_gcall 21 rfl rfl Try.func57 rfl rfl rfl (clamp_any A n c xs _ HA) rfl ?_
      rintro e w2 ⟨g2, rfl, H2, ex⟩
      refine ⟨_, rfl, ?_⟩
      replace HA := HA.ext ex
      replace HB := HB.ext ex
      replace E := E.ext ex
      skip
      refine wl_gy 21 rfl rfl (y_move rfl) rfl ?_
      refine wl_gcall 21 rfl rfl Try.func58 rfl rfl rfl (rclamp_any A n c xs _ HA (by omega)) rfl ?_
      rintro e w3 ⟨A3, c3, rfl, _, H3, ex⟩
      refine ⟨_, rfl, ?_⟩
      replace HA := HA.ext ex
      replace HB := HB.ext ex
      replace E := E.ext ex
      replace H2 := H2.ext ex
      skip
      refine wl_gcall 21 rfl rfl Try.func53 rfl rfl rfl (sameE_any _ _ 32 32 _ _ _ _ _ H2 H3 (by omega) (by omega)) rfl ?_
      rintro e w4 ⟨rfl, ex⟩
      refine ⟨_, rfl, ?_⟩
      replace HA := HA.ext ex
      replace HB := HB.ext ex
      replace E := E.ext ex
      replace H2 := H2.ext ex
      rw [decide_eq_true rfl]
      refine wl_gy 21 rfl rfl (y_not rfl) rfl ?_
      refine wl_y (y_pickf rfl rfl) rfl ?_
      refine wl_nil ?_
      refine wq_then_norm (hK5 ?_)
      refine wc_false rfl rfl ?_
      refine wc_skip ?_
      refine wq_then_norm (hK4 ?_)
      refine wc_seq ?_; intro K8 hK8
      refine wc_region ?_
      refine wl_y (y_move rfl) rfl ?_
      refine wl_y (y_move rfl) rfl ?_
      refine wl_call Try.func59 rfl rfl rfl (dhmul_any A B n c m d xs ys _ HA HB) rfl ?_
      rintro e w5 ⟨A5, k5, c5, rfl, H5, _, ex⟩
      refine ⟨_, rfl, ?_⟩
      replace HA := HA.ext ex
      replace HB := HB.ext ex
      replace E := E.ext ex
      have hk5 := H5.1
      refine wl_y (y_move rfl) rfl ?_
      refine wl_y (y_extract rfl rfl) rfl ?_
      refine wl_y (y_extract rfl rfl) rfl ?_
      refine wl_y (y_assign rfl) rfl ?_
      refine wl_y (y_assign rfl) rfl ?_
      refine wl_nil ?_
      refine wq_then_norm (hK8 ?_)
      refine wc_seq ?_; intro K9 hK9
      refine wc_region ?_
      refine wl_y (y_move rfl) rfl ?_
      refine wl_y (y_move rfl) rfl ?_
      refine wl_call Try.func60 rfl rfl rfl (dhshared_any A B n c m d xs ys _ HA HB) rfl ?_
      rintro e w6 ⟨A6, k6, c6, rfl, H6, _, ex⟩
      refine ⟨_, rfl, ?_⟩
      replace HA := HA.ext ex
      replace HB := HB.ext ex
      replace E := E.ext ex
      replace H5 := H5.ext ex
      have hk6 := H6.1
      refine wl_y (y_move rfl) rfl ?_
      refine wl_y (y_extract rfl rfl) rfl ?_
      refine wl_y (y_extract rfl rfl) rfl ?_
      refine wl_y (y_assign rfl) rfl ?_
      refine wl_y (y_assign rfl) rfl ?_
      refine wl_nil ?_
      refine wq_then_norm (hK9 ?_)
      refine wc_seq ?_; intro K10 hK10
      refine wc_seq ?_; intro K11 hK11
      refine wc_region ?_
      refine wl_y (y_move rfl) rfl ?_
      refine wl_y (y_len_slice rfl Try.underlying22) rfl ?_
      refine wl_y (y_neq rfl rfl) rfl ?_
      refine wl_nil ?_
      refine wq_then_norm (hK11 ?_)
      refine wc_dec rfl (fun hc3 => ?_) (fun hc3 => ?_)
      · skip
        have hM : dhM xs ys = ([], 1) := by rw [dhM, if_pos (by omega)]
        have hM1 : (dhM xs ys).2 = 1 := by rw [hM]
        have hS : dhS xs ys = ([], 1) := by rw [dhS, hM, if_pos (by simp)]
        have hS1 : (dhS xs ys).2 = 1 := by rw [hS]
        have hL1 : (dhM xs ys).1.length = 0 := by rw [hM]; rfl
        have hL2 : (dhS xs ys).1.length = 0 := by rw [hS]; rfl
        refine wc_seq ?_; intro K12 hK12
        refine wc_region ?_
        refine wl_y (y_move rfl) rfl ?_
        refine wl_y (y_conv rfl Try.underlying61 Try.underlying3 (i64_ok (by omega) (by omega))) rfl ?_
        refine wl_y (Y.as (y_eql rfl rfl) (congrArg Value.bool (decide_eq_true (by omega)))) rfl ?_
        refine wl_y (y_move rfl) rfl ?_
        refine wl_gy 55 rfl rfl (y_move rfl) rfl ?_
        refine wl_gy 55 rfl rfl (y_conv rfl Try.underlying61 Try.underlying3 (i64_ok (by omega) (by omega))) rfl ?_
        refine wl_gy 55 rfl rfl (Y.as (y_eql rfl rfl) (congrArg Value.bool (decide_eq_true (by omega)))) rfl ?_
        refine wl_y (y_pickt rfl rfl) rfl ?_
        refine wl_y (y_move rfl) rfl ?_
        refine wl_gy 60 rfl rfl (y_move rfl) rfl ?_
        refine wl_gy 60 rfl rfl (y_len_slice rfl Try.underlying22) rfl ?_
        refine wl_gy 60 rfl rfl (y_move rfl) rfl ?_
        refine wl_gy 60 rfl rfl (y_len_slice rfl Try.underlying22) rfl ?_
        refine wl_gy 60 rfl rfl (y_add rfl rfl (i64_ok (by omega) (by omega))) rfl ?_
        refine wl_gy 60 rfl rfl (Y.as (y_eql rfl rfl) (congrArg Value.bool (decide_eq_true (by omega)))) rfl ?_
        refine wl_y (y_pickt rfl rfl) rfl ?_
        refine wl_y (y_assign rfl) rfl ?_
        refine wl_nil ?_
        refine wq_then_norm (hK12 ?_)
        refine wc_ret ?_
        refine wq_then_ret ?_
        refine hret rfl ?_
        exact ⟨rfl, E⟩
      · skip
        refine wc_skip ?_
        refine wq_then_norm (hK10 ?_)
        refine wc_seq ?_; intro K13 hK13
        refine wc_seq ?_; intro K14 hK14
        refine wc_region ?_
        refine wl_y (y_move rfl) rfl ?_
        refine wl_y (y_len_slice rfl Try.underlying22) rfl ?_
        refine wl_y (y_neq rfl rfl) rfl ?_
        refine wl_nil ?_
        refine wq_then_norm (hK14 ?_)
        refine wc_dec rfl (fun hc4 => ?_) (fun hc4 => ?_)
        · skip
          have hM : dhM xs ys = ([], 3) := by rw [dhM, if_neg (by omega), if_pos (by omega)]
          have hM1 : (dhM xs ys).2 = 3 := by rw [hM]
          have hS : dhS xs ys = ([], 3) := by rw [dhS, hM, if_pos (by simp)]
          have hS1 : (dhS xs ys).2 = 3 := by rw [hS]
          have hL1 : (dhM xs ys).1.length = 0 := by rw [hM]; rfl
          have hL2 : (dhS xs ys).1.length = 0 := by rw [hS]; rfl
          refine wc_seq ?_; intro K15 hK15
          refine wc_region ?_
          refine wl_y (y_move rfl) rfl ?_
          refine wl_y (y_conv rfl Try.underlying61 Try.underlying3 (i64_ok (by omega) (by omega))) rfl ?_
          refine wl_y (Y.as (y_eql rfl rfl) (congrArg Value.bool (decide_eq_true (by omega)))) rfl ?_
          refine wl_y (y_move rfl) rfl ?_
          refine wl_gy 74 rfl rfl (y_move rfl) rfl ?_
          refine wl_gy 74 rfl rfl (y_conv rfl Try.underlying61 Try.underlying3 (i64_ok (by omega) (by omega))) rfl ?_
          refine wl_gy 74 rfl rfl (Y.as (y_eql rfl rfl) (congrArg Value.bool (decide_eq_true (by omega)))) rfl ?_
          refine wl_y (y_pickt rfl rfl) rfl ?_
          refine wl_y (y_move rfl) rfl ?_
          refine wl_gy 79 rfl rfl (y_move rfl) rfl ?_
          refine wl_gy 79 rfl rfl (y_len_slice rfl Try.underlying22) rfl ?_
          refine wl_gy 79 rfl rfl (y_move rfl) rfl ?_
          refine wl_gy 79 rfl rfl (y_len_slice rfl Try.underlying22) rfl ?_
          refine wl_gy 79 rfl rfl (y_add rfl rfl (i64_ok (by omega) (by omega))) rfl ?_
          refine wl_gy 79 rfl rfl (Y.as (y_eql rfl rfl) (congrArg Value.bool (decide_eq_true (by omega)))) rfl ?_
          refine wl_y (y_pickt rfl rfl) rfl ?_
          refine wl_y (y_assign rfl) rfl ?_
          refine wl_nil ?_
          refine wq_then_norm (hK15 ?_)
          refine wc_ret ?_
          refine wq_then_ret ?_
          refine hret rfl ?_
          exact ⟨rfl, E⟩
        · skip
          refine wc_skip ?_
          refine wq_then_norm (hK13 ?_)
          refine wc_seq ?_; intro K16 hK16
          obtain ⟨W, hW⟩ : ∃ W, W = Fp.le 32 (dhMul (Fp.num (clampB xs)) (Fp.of (Fp.ofB ys))).val := ⟨_, rfl⟩
          have hWl : W.length = 32 := hW ▸ Fp.le_length 32 _
          have hM : dhM xs ys = (W, 0) := by rw [dhM, if_neg (by omega), if_neg (by omega), hW]
          have hM1 : (dhM xs ys).2 = 0 := by rw [hM]
          have hM2 : (dhM xs ys).1 = W := by rw [hM]
          have hS : dhS xs ys = if W = List.replicate 32 0 then ([], 9) else (W, 0) := by
            rw [dhS, hM, if_neg (by simp)]
            by_cases h : W = List.replicate 32 0
            · rw [if_pos h, if_neg (by rw [any_ne W hWl]; simpa using h)]
            · rw [if_neg h, if_pos (by rw [any_ne W hWl]; exact h)]
          rw [hM2] at H5 hk5
          refine wc_region ?_
          refine wl_y (y_move rfl) rfl ?_
          refine wl_y (y_move rfl) rfl ?_
          refine wl_call Try.func61 rfl rfl rfl (rdh_any A B n c m d xs ys _ HA HB (by omega) (by omega)) rfl ?_
          rintro e w11 ⟨A11, c11, rfl, H11, ex⟩
          refine ⟨_, rfl, ?_⟩
          replace HA := HA.ext ex
          replace HB := HB.ext ex
          replace E := E.ext ex
          replace H5 := H5.ext ex
          replace H6 := H6.ext ex
          rw [← hW] at H11
          refine wl_y (y_assign rfl) rfl ?_
          refine wl_nil ?_
          refine wq_then_norm (hK16 ?_)
          refine wc_seq ?_; intro K17 hK17
          refine wc_region ?_
          refine wl_y (y_move rfl) rfl ?_
          refine wl_ef (ef_make (n := 32) (z := .int .u8 0) (bytes := 1) rfl rfl Try.underlying22 (by kernel_rfl) rfl rfl rfl rfl (by omega) (by omega)) rfl ?_
          rintro _ w12 ⟨g12, rfl, B12, hg12, ex⟩
          replace HA := HA.ext ex
          replace HB := HB.ext ex
          replace E := E.ext ex
          replace H5 := H5.ext ex
          replace H6 := H6.ext ex
          replace H11 := H11.ext ex
          have Z12 := zeros_bs B12
          refine wl_call Try.func53 rfl rfl rfl (sameE_any _ _ 32 32 _ _ _ _ _ H11 Z12 (by omega) (by omega)) rfl ?_
          rintro e w13 ⟨rfl, ex⟩
          refine ⟨_, rfl, ?_⟩
          replace HA := HA.ext ex
          replace HB := HB.ext ex
          replace E := E.ext ex
          replace H5 := H5.ext ex
          replace H6 := H6.ext ex
          replace H11 := H11.ext ex
          skip
          refine wl_yask (y_assign rfl) rfl (fun hz => ?_) (fun hz => ?_)
          · skip
            refine wl_nil ?_
            refine wq_then_norm (hK17 ?_)
            refine wc_seq ?_; intro K18 hK18
            refine wc_seq ?_; intro K19 hK19
            have hS' : dhS xs ys = ([], 9) := by rw [hS, if_pos hz]
            have hS1 : (dhS xs ys).2 = 9 := by rw [hS']
            have hL2 : (dhS xs ys).1.length = 0 := by rw [hS']; rfl
            refine wc_region ?_
            refine wl_y (y_move rfl) rfl ?_
            refine wl_y (y_conv rfl Try.underlying61 Try.underlying3 (i64_ok (by omega) (by omega))) rfl ?_
            refine wl_y (Y.as (y_neq rfl rfl) (congrArg Value.bool (decide_eq_false (by omega)))) rfl ?_
            refine wl_y (y_move rfl) rfl ?_
            refine wl_gy 96 rfl rfl (y_move rfl) rfl ?_
            refine wl_gy 96 rfl rfl (y_move rfl) rfl ?_
            refine wl_gcall 96 rfl rfl Try.func53 rfl rfl rfl (sameE_any _ _ k5 32 _ _ _ _ _ H5 H11 (by omega) (by omega)) rfl ?_
            rintro e w14 ⟨rfl, ex⟩
            refine ⟨_, rfl, ?_⟩
            replace HA := HA.ext ex
            replace HB := HB.ext ex
            replace E := E.ext ex
            replace H5 := H5.ext ex
            replace H6 := H6.ext ex
            replace H11 := H11.ext ex
            rw [decide_eq_true rfl]
            refine wl_gy 96 rfl rfl (y_not rfl) rfl ?_
            refine wl_y (y_pickf rfl rfl) rfl ?_
            refine wl_nil ?_
            refine wq_then_norm (hK19 ?_)
            refine wc_false rfl rfl ?_
            refine wc_skip ?_
            refine wq_then_norm (hK18 ?_)
            refine wc_seq ?_; intro K20 hK20
            refine wc_region ?_
            refine wl_y (y_move rfl) rfl ?_
            refine wl_y (y_move rfl) rfl ?_
            refine wl_gy 103 rfl rfl (y_move rfl) rfl ?_
            refine wl_gy 103 rfl rfl (y_conv rfl Try.underlying61 Try.underlying3 (i64_ok (by omega) (by omega))) rfl ?_
            refine wl_gy 103 rfl rfl (Y.as (y_eql rfl rfl) (congrArg Value.bool (decide_eq_true (by omega)))) rfl ?_
            refine wl_y (y_pickt rfl rfl) rfl ?_
            refine wl_y (y_move rfl) rfl ?_
            refine wl_gy 108 rfl rfl (y_move rfl) rfl ?_
            refine wl_gy 108 rfl rfl (y_len_slice rfl Try.underlying22) rfl ?_
            refine wl_gy 108 rfl rfl (Y.as (y_eql rfl rfl) (congrArg Value.bool (decide_eq_true (by omega)))) rfl ?_
            refine wl_y (y_pickt rfl rfl) rfl ?_
            refine wl_y (y_move rfl) rfl ?_
            refine wl_gno 113 rfl rfl rfl rfl ?_
            refine wl_gno 113 rfl rfl rfl rfl ?_
            refine wl_gno 113 rfl rfl rfl rfl ?_
            refine wl_gun 116 rfl rfl rfl ?_
            refine wl_gun 116 rfl rfl rfl ?_
            refine wl_gun 116 rfl rfl rfl ?_
            refine wl_gno 113 rfl rfl rfl rfl ?_
            refine wl_gno 113 rfl rfl rfl rfl ?_
            refine wl_gun 121 rfl rfl rfl ?_
            refine wl_gun 121 rfl rfl rfl ?_
            refine wl_gun 121 rfl rfl rfl ?_
            refine wl_gno 113 rfl rfl rfl rfl ?_
            refine wl_y (y_pickt rfl rfl) rfl ?_
            refine wl_y (y_assign rfl) rfl ?_
            refine wl_nil ?_
            refine wq_then_norm (hK20 ?_)
            refine wc_ret ?_
            refine hret rfl ?_
            exact ⟨rfl, E⟩
          · skip
            refine wl_nil ?_
            refine wq_then_norm (hK17 ?_)
            refine wc_seq ?_; intro K21 hK21
            refine wc_seq ?_; intro K22 hK22
            have hS' : dhS xs ys = (W, 0) := by rw [hS, if_neg hz]
            have hS1 : (dhS xs ys).2 = 0 := by rw [hS']
            have hS2 : (dhS xs ys).1 = W := by rw [hS']
            rw [hS2] at H6 hk6
            refine wc_region ?_
            refine wl_y (y_move rfl) rfl ?_
            refine wl_y (y_conv rfl Try.underlying61 Try.underlying3 (i64_ok (by omega) (by omega))) rfl ?_
            refine wl_y (Y.as (y_neq rfl rfl) (congrArg Value.bool (decide_eq_false (by omega)))) rfl ?_
            refine wl_y (y_move rfl) rfl ?_
            refine wl_gy 96 rfl rfl (y_move rfl) rfl ?_
            refine wl_gy 96 rfl rfl (y_move rfl) rfl ?_
            refine wl_gcall 96 rfl rfl Try.func53 rfl rfl rfl (sameE_any _ _ k5 32 _ _ _ _ _ H5 H11 (by omega) (by omega)) rfl ?_
            rintro e w14 ⟨rfl, ex⟩
            refine ⟨_, rfl, ?_⟩
            replace HA := HA.ext ex
            replace HB := HB.ext ex
            replace E := E.ext ex
            replace H5 := H5.ext ex
            replace H6 := H6.ext ex
            replace H11 := H11.ext ex
            rw [decide_eq_true rfl]
            refine wl_gy 96 rfl rfl (y_not rfl) rfl ?_
            refine wl_y (y_pickf rfl rfl) rfl ?_
            refine wl_nil ?_
            refine wq_then_norm (hK22 ?_)
            refine wc_false rfl rfl ?_
            refine wc_skip ?_
            refine wq_then_norm (hK21 ?_)
            refine wc_seq ?_; intro K23 hK23
            refine wc_region ?_
            refine wl_y (y_move rfl) rfl ?_
            refine wl_y (y_move rfl) rfl ?_
            refine wl_gno 103 rfl rfl rfl rfl ?_
            refine wl_gno 103 rfl rfl rfl rfl ?_
            refine wl_gno 103 rfl rfl rfl rfl ?_
            refine wl_y (y_pickf rfl rfl) rfl ?_
            refine wl_y (y_move rfl) rfl ?_
            refine wl_gno 108 rfl rfl rfl rfl ?_
            refine wl_gno 108 rfl rfl rfl rfl ?_
            refine wl_gno 108 rfl rfl rfl rfl ?_
            refine wl_y (y_pickf rfl rfl) rfl ?_
            refine wl_y (y_move rfl) rfl ?_
            refine wl_gy 113 rfl rfl (y_move rfl) rfl ?_
            refine wl_gy 113 rfl rfl (y_not rfl) rfl ?_
            refine wl_gy 113 rfl rfl (y_move rfl) rfl ?_
            refine wl_gy 116 rfl rfl (y_move rfl) rfl ?_
            refine wl_gy 116 rfl rfl (y_conv rfl Try.underlying61 Try.underlying3 (i64_ok (by omega) (by omega))) rfl ?_
            refine wl_gy 116 rfl rfl (Y.as (y_eql rfl rfl) (congrArg Value.bool (decide_eq_true (by omega)))) rfl ?_
            refine wl_gy 113 rfl rfl (y_pickt rfl rfl) rfl ?_
            refine wl_gy 113 rfl rfl (y_move rfl) rfl ?_
            refine wl_gy 121 rfl rfl (y_move rfl) rfl ?_
            refine wl_gy 121 rfl rfl (y_move rfl) rfl ?_
            refine wl_gcall 121 rfl rfl Try.func53 rfl rfl rfl (sameE_any _ _ k6 32 _ _ _ _ _ H6 H11 (by omega) (by omega)) rfl ?_
            rintro e w15 ⟨rfl, ex⟩
            refine ⟨_, rfl, ?_⟩
            replace HA := HA.ext ex
            replace HB := HB.ext ex
            replace E := E.ext ex
            replace H5 := H5.ext ex
            replace H6 := H6.ext ex
            replace H11 := H11.ext ex
            rw [decide_eq_true rfl]
            refine wl_gy 113 rfl rfl (y_pickt rfl rfl) rfl ?_
            refine wl_y (y_pickf rfl rfl) rfl ?_
            refine wl_y (y_assign rfl) rfl ?_
            refine wl_nil ?_
            refine wq_then_norm (hK23 ?_)
            refine wc_ret ?_
            refine hret rfl ?_
            exact ⟨rfl, E⟩
end Go.Proofs.Ytilfjbgjcnijcaa
