/- The law DhShares: two have one secret; it answers true whatever it is given. -/
import Derived.Test.YtbcbihdfpkeacaaEdF
namespace Go.Proofs.Ytbcbihdfpkeacaa
open Go.RowKit
attribute [local irreducible] Y Ef WL WC WK WQ WM OpM WN WF OpN
theorem nine_blk {w : World} {g : Nat} {t : TypeId} (B : Blk w g t ((List.replicate 32 (Value.int .u8 0)).toArray.setIfInBounds (0 + 0) (.int .u8 9))) : Bs w (some ⟨g, 0, none⟩) 32 (Fp.le 32 9) := by
  refine bs_blk' (t := t) ?_ (Fp.le_length 32 _)
  exact B.congr (by kernel_rfl)
theorem of_nine : Fp.of (Fp.ofB (Fp.le 32 9)) = Fp.of 9 := Ed.ofB_le (Fp.of 9)
theorem dhM_ok {xs : List UInt8} {u : Fp.F} (hx : xs.length = 32) : dhM xs (Fp.le 32 u.val) = (Fp.le 32 (dhMul (Fp.num (clampB xs)) u).val, 0) := by
  rw [dhM, if_neg (by omega), if_neg (by rw [Fp.le_length]; omega), Ed.ofB_le]
theorem nine_val : Fp.le 32 9 = Fp.le 32 (Fp.of 9).val := rfl
theorem dhShares_law (A : Option Addr) (n c : Nat) (xs : List UInt8) (B : Option Addr) (m d : Nat) (ys : List UInt8) (w : World) (HA : Bs w A n xs) (hn : n ≤ maxLen) (HB : Bs w B m ys) (hm : m ≤ maxLen) :
    Calls Try.prog 10 #[.slice A n c, .slice B m d] w fun e w' => e = .returned (.bool true) ∧ Below w.heap.size w w' := by
  unfold maxLen at hn hm
  have E := Ext.refl w
  have hx := HA.1; have hy := HB.1
  refine vc_enter1 122 Try.func10 rfl rfl rfl rfl ?_
  intro Q hret
  refine wc_seq ?_; intro K1 hK1
  refine wc_region ?_
  refine wl_y (y_assign rfl) rfl ?_
  refine wl_nil ?_
  refine wq_then_norm (hK1 ?_)
  refine wc_seq ?_; intro K2 hK2
  refine wc_seq ?_; intro K3 hK3
  refine wc_region ?_
  refine wl_call Try.func56 rfl rfl rfl (alive7_any _) rfl ?_
  rintro e w1 ⟨rfl, ex⟩
  refine ⟨_, rfl, ?_⟩
  replace HA := HA.ext ex
  replace HB := HB.ext ex
  replace E := E.ext ex
  refine wl_y (y_not rfl) rfl ?_
  refine wl_nil ?_
  refine wq_then_norm (hK3 ?_)
  refine wc_false rfl rfl ?_
  refine wc_skip ?_
  refine wq_then_norm (hK2 ?_)
  refine wc_seq ?_; intro K4 hK4
  refine wc_seq ?_; intro K5 hK5
  refine wc_region ?_
  refine wl_y (y_move rfl) rfl ?_
  refine wl_y (y_len_slice rfl Try.underlying22) rfl ?_
  refine wl_yask (y_neq rfl rfl) rfl (fun h1 => ?_) (fun h1 => ?_)
  · skip
    refine wl_y (y_move rfl) rfl ?_
    refine wl_gno 25 rfl rfl rfl rfl ?_
    refine wl_gno 25 rfl rfl rfl rfl ?_
    refine wl_gno 25 rfl rfl rfl rfl ?_
    refine wl_y (y_pickt rfl rfl) rfl ?_
    refine wl_nil ?_
    refine wq_then_norm (hK5 ?_)
    refine wc_true rfl rfl ?_
    refine wc_seq ?_; intro K6 hK6
    refine wc_region ?_
    refine wl_y (y_move rfl) rfl ?_
    refine wl_call Try.func62 rfl rfl rfl (dhbase_any A n c xs _ HA) rfl ?_
    rintro e w2 ⟨A2, k2, c2, rfl, H2, _, ex⟩
    refine ⟨_, rfl, ?_⟩
    replace HA := HA.ext ex
    replace HB := HB.ext ex
    replace E := E.ext ex
    skip
    refine wl_y (y_move rfl) rfl ?_
    refine wl_y (y_extract rfl rfl) rfl ?_
    refine wl_y (y_extract rfl rfl) rfl ?_
    refine wl_y (y_assign rfl) rfl ?_
    refine wl_y (y_assign rfl) rfl ?_
    refine wl_nil ?_
    refine wq_then_norm (hK6 ?_)
    refine wc_seq ?_; intro K7 hK7
    have hM1 : (dhM xs (Fp.le 32 9)).2 = 1 := by rw [dhM, if_pos (by omega)]
    refine wc_region ?_
    refine wl_y (y_move rfl) rfl ?_
    refine wl_y (y_len_slice rfl Try.underlying22) rfl ?_
    refine wl_y (Y.as (y_eql rfl rfl) (congrArg Value.bool (decide_eq_false h1))) rfl ?_
    refine wl_y (y_move rfl) rfl ?_
    refine wl_gy 38 rfl rfl (y_move rfl) rfl ?_
    refine wl_gy 38 rfl rfl (y_conv rfl Try.underlying61 Try.underlying3 (i64_ok (by omega) (by omega))) rfl ?_
    refine wl_gy 38 rfl rfl (Y.as (y_eql rfl rfl) (congrArg Value.bool (decide_eq_true (by omega)))) rfl ?_
    refine wl_y (y_pickf rfl rfl) rfl ?_
    refine wl_y (y_assign rfl) rfl ?_
    refine wl_nil ?_
    refine wq_then_norm (hK7 ?_)
    refine wc_ret ?_
    refine wq_then_ret ?_
    refine hret rfl ?_
    exact ⟨rfl, E⟩
  · skip
    refine wl_y (y_move rfl) rfl ?_
    refine wl_gy 25 rfl rfl (y_move rfl) rfl ?_
    refine wl_gy 25 rfl rfl (y_len_slice rfl Try.underlying22) rfl ?_
    refine wl_gyask 25 rfl rfl (y_neq rfl rfl) rfl (fun h2 => ?_) (fun h2 => ?_)
    · skip
      refine wl_y (y_pickf rfl rfl) rfl ?_
      refine wl_nil ?_
      refine wq_then_norm (hK5 ?_)
      refine wc_true rfl rfl ?_
      refine wc_seq ?_; intro K8 hK8
      refine wc_region ?_
      refine wl_y (y_move rfl) rfl ?_
      refine wl_call Try.func62 rfl rfl rfl (dhbase_any A n c xs _ HA) rfl ?_
      rintro e w2 ⟨A2, k2, c2, rfl, H2, _, ex⟩
      refine ⟨_, rfl, ?_⟩
      replace HA := HA.ext ex
      replace HB := HB.ext ex
      replace E := E.ext ex
      skip
      refine wl_y (y_move rfl) rfl ?_
      refine wl_y (y_extract rfl rfl) rfl ?_
      refine wl_y (y_extract rfl rfl) rfl ?_
      refine wl_y (y_assign rfl) rfl ?_
      refine wl_y (y_assign rfl) rfl ?_
      refine wl_nil ?_
      refine wq_then_norm (hK8 ?_)
      refine wc_seq ?_; intro K9 hK9
      refine wc_region ?_
      refine wl_y (y_move rfl) rfl ?_
      refine wl_y (y_len_slice rfl Try.underlying22) rfl ?_
      refine wl_y (Y.as (y_eql rfl rfl) (congrArg Value.bool (decide_eq_true (by omega)))) rfl ?_
      refine wl_y (y_move rfl) rfl ?_
      refine wl_gno 38 rfl rfl rfl rfl ?_
      refine wl_gno 38 rfl rfl rfl rfl ?_
      refine wl_gno 38 rfl rfl rfl rfl ?_
      refine wl_y (y_pickt rfl rfl) rfl ?_
      refine wl_y (y_assign rfl) rfl ?_
      refine wl_nil ?_
      refine wq_then_norm (hK9 ?_)
      refine wc_ret ?_
      refine wq_then_ret ?_
      refine hret rfl ?_
      exact ⟨rfl, E⟩
    · skip
      refine wl_y (y_pickf rfl rfl) rfl ?_
      refine wl_nil ?_
      refine wq_then_norm (hK5 ?_)
      refine wc_false rfl rfl ?_
      refine wc_skip ?_
      refine wq_then_norm (hK4 ?_)
      refine wc_seq ?_; intro K10 hK10
      have hx32 : xs.length = 32 := by omega
      have hy32 : ys.length = 32 := by omega
      obtain ⟨a, ha⟩ : ∃ a, a = Fp.num (clampB xs) := ⟨_, rfl⟩
      obtain ⟨b, hb⟩ : ∃ b, b = Fp.num (clampB ys) := ⟨_, rfl⟩
      obtain ⟨pa, hpa⟩ : ∃ u, u = dhMul a (Fp.of 9) := ⟨_, rfl⟩
      obtain ⟨pb, hpb⟩ : ∃ u, u = dhMul b (Fp.of 9) := ⟨_, rfl⟩
      obtain ⟨s, hs⟩ : ∃ u, u = dhMul a pb := ⟨_, rfl⟩
      have hs' : dhMul b pa = s := by rw [hs, hpa, hpb, ha, hb]; exact Ed.one_secret _ _ (Ed.clamp_lt _) (Ed.clamp_lt _) (Ed.clamp_even _) (Ed.clamp_even _)
      have m1 : dhM xs (Fp.le 32 9) = (Fp.le 32 pa.val, 0) := by rw [nine_val, dhM_ok hx32, ← ha, ← hpa]
      have m2 : dhM ys (Fp.le 32 9) = (Fp.le 32 pb.val, 0) := by rw [nine_val, dhM_ok hy32, ← hb, ← hpb]
      have m3 : dhM xs (Fp.le 32 pb.val) = (Fp.le 32 s.val, 0) := by rw [dhM_ok hx32, ← ha, ← hs]
      have m4 : dhM ys (Fp.le 32 pa.val) = (Fp.le 32 s.val, 0) := by rw [dhM_ok hy32, ← hb, hs']
      have m5 : dhM (clampB xs) (Fp.le 32 pb.val) = (Fp.le 32 s.val, 0) := by rw [dhM_ok (clampB_length xs), Ed.clamp_idem, ← ha, ← hs]
      have q1 : (dhM xs (Fp.le 32 9)).2 = 0 := by rw [m1]
      have q2 : (dhM ys (Fp.le 32 9)).2 = 0 := by rw [m2]
      have q3 : (dhM xs (Fp.le 32 pb.val)).2 = 0 := by rw [m3]
      have q4 : (dhM ys (Fp.le 32 pa.val)).2 = 0 := by rw [m4]
      have q5 : (dhM (clampB xs) (Fp.le 32 pb.val)).2 = 0 := by rw [m5]
      have f1 : (dhM xs (Fp.le 32 9)).1 = Fp.le 32 pa.val := by rw [m1]
      have f2 : (dhM ys (Fp.le 32 9)).1 = Fp.le 32 pb.val := by rw [m2]
      have f3 : (dhM xs (Fp.le 32 pb.val)).1 = Fp.le 32 s.val := by rw [m3]
      have f4 : (dhM ys (Fp.le 32 pa.val)).1 = Fp.le 32 s.val := by rw [m4]
      have f5 : (dhM (clampB xs) (Fp.le 32 pb.val)).1 = Fp.le 32 s.val := by rw [m5]
      refine wc_region ?_
      refine wl_y (y_move rfl) rfl ?_
      refine wl_call Try.func62 rfl rfl rfl (dhbase_any A n c xs _ HA) rfl ?_
      rintro e w2 ⟨A2, k2, c2, rfl, H2, _, ex⟩
      refine ⟨_, rfl, ?_⟩
      replace HA := HA.ext ex
      replace HB := HB.ext ex
      replace E := E.ext ex
      rw [f1] at H2; obtain rfl : 32 = k2 := by rw [← H2.1]; exact (Fp.le_length 32 _).symm
      refine wl_y (y_move rfl) rfl ?_
      refine wl_y (y_extract rfl rfl) rfl ?_
      refine wl_y (y_extract rfl rfl) rfl ?_
      refine wl_y (y_assign rfl) rfl ?_
      refine wl_y (y_assign rfl) rfl ?_
      refine wl_nil ?_
      refine wq_then_norm (hK10 ?_)
      refine wc_seq ?_; intro K11 hK11
      refine wc_region ?_
      refine wl_y (y_move rfl) rfl ?_
      refine wl_call Try.func62 rfl rfl rfl (dhbase_any B m d ys _ HB) rfl ?_
      rintro e w3 ⟨A3, k3, c3, rfl, H3, _, ex⟩
      refine ⟨_, rfl, ?_⟩
      replace HA := HA.ext ex
      replace HB := HB.ext ex
      replace E := E.ext ex
      replace H2 := H2.ext ex
      rw [f2] at H3; obtain rfl : 32 = k3 := by rw [← H3.1]; exact (Fp.le_length 32 _).symm
      refine wl_y (y_move rfl) rfl ?_
      refine wl_y (y_extract rfl rfl) rfl ?_
      refine wl_y (y_extract rfl rfl) rfl ?_
      refine wl_y (y_assign rfl) rfl ?_
      refine wl_y (y_assign rfl) rfl ?_
      refine wl_nil ?_
      refine wq_then_norm (hK11 ?_)
      refine wc_seq ?_; intro K12 hK12
      refine wc_region ?_
      refine wl_ef (ef_make (n := 32) (z := .int .u8 0) (bytes := 1) rfl rfl Try.underlying22 (by kernel_rfl) rfl rfl rfl rfl (by omega) (by omega)) rfl ?_
      rintro _ w4 ⟨g4, rfl, B4, hg4, ex⟩
      have F := ex
      refine wl_y (y_assign rfl) rfl ?_
      refine wl_nil ?_
      refine wq_then_norm (hK12 ?_)
      refine wc_seq ?_; intro K13 hK13
      refine wc_region ?_
      refine wl_y (y_move rfl) rfl ?_
      refine wl_y (y_ixs1 rfl rfl Try.underlying22 (by kernel_rfl) (j := 0) rfl (by omega)) rfl ?_
      refine wl_ef (ef_storeB rfl rfl rfl (by kernel_rfl) B4 (by show 0 < 32; omega)) rfl ?_
      rintro _ w5 ⟨rfl, B5, cg⟩
      replace F := F.chg cg hg4; replace E := E.ext F; replace H2 := H2.ext F; replace H3 := H3.ext F; replace HA := HA.ext F; replace HB := HB.ext F; have H9 := nine_blk B5
      refine wl_nil ?_
      refine wq_then_norm (hK13 ?_)
      refine wc_seq ?_; intro K14 hK14
      refine wc_region ?_
      refine wl_y (y_move rfl) rfl ?_
      refine wl_y (y_move rfl) rfl ?_
      refine wl_call Try.func59 rfl rfl rfl (dhmul_any A _ n c 32 32 xs _ _ HA H9) rfl ?_
      rintro e w6 ⟨A6, k6, c6, rfl, H6, _, ex⟩
      refine ⟨_, rfl, ?_⟩
      replace HA := HA.ext ex
      replace HB := HB.ext ex
      replace E := E.ext ex
      replace H2 := H2.ext ex
      replace H3 := H3.ext ex
      replace H9 := H9.ext ex
      rw [f1] at H6; obtain rfl : 32 = k6 := by rw [← H6.1]; exact (Fp.le_length 32 _).symm
      refine wl_y (y_move rfl) rfl ?_
      refine wl_y (y_extract rfl rfl) rfl ?_
      refine wl_y (y_extract rfl rfl) rfl ?_
      refine wl_y (y_assign rfl) rfl ?_
      refine wl_y (y_assign rfl) rfl ?_
      refine wl_nil ?_
      refine wq_then_norm (hK14 ?_)
      refine wc_seq ?_; intro K15 hK15
      refine wc_region ?_
      refine wl_y (y_move rfl) rfl ?_
      refine wl_y (y_move rfl) rfl ?_
      refine wl_call Try.func59 rfl rfl rfl (dhmul_any A _ n c 32 _ xs _ _ HA H3) rfl ?_
      rintro e w7 ⟨A7, k7, c7, rfl, H7, _, ex⟩
      refine ⟨_, rfl, ?_⟩
      replace HA := HA.ext ex
      replace HB := HB.ext ex
      replace E := E.ext ex
      replace H2 := H2.ext ex
      replace H3 := H3.ext ex
      replace H9 := H9.ext ex
      replace H6 := H6.ext ex
      rw [f3] at H7; obtain rfl : 32 = k7 := by rw [← H7.1]; exact (Fp.le_length 32 _).symm
      refine wl_y (y_move rfl) rfl ?_
      refine wl_y (y_extract rfl rfl) rfl ?_
      refine wl_y (y_extract rfl rfl) rfl ?_
      refine wl_y (y_assign rfl) rfl ?_
      refine wl_y (y_assign rfl) rfl ?_
      refine wl_nil ?_
      refine wq_then_norm (hK15 ?_)
      refine wc_seq ?_; intro K16 hK16
      refine wc_region ?_
      refine wl_y (y_move rfl) rfl ?_
      refine wl_y (y_move rfl) rfl ?_
      refine wl_call Try.func59 rfl rfl rfl (dhmul_any B _ m d 32 _ ys _ _ HB H2) rfl ?_
      rintro e w8 ⟨A8, k8, c8, rfl, H8, _, ex⟩
      refine ⟨_, rfl, ?_⟩
      replace HA := HA.ext ex
      replace HB := HB.ext ex
      replace E := E.ext ex
      replace H2 := H2.ext ex
      replace H3 := H3.ext ex
      replace H9 := H9.ext ex
      replace H6 := H6.ext ex
      replace H7 := H7.ext ex
      rw [f4] at H8; obtain rfl : 32 = k8 := by rw [← H8.1]; exact (Fp.le_length 32 _).symm
      refine wl_y (y_move rfl) rfl ?_
      refine wl_y (y_extract rfl rfl) rfl ?_
      refine wl_y (y_extract rfl rfl) rfl ?_
      refine wl_y (y_assign rfl) rfl ?_
      refine wl_y (y_assign rfl) rfl ?_
      refine wl_nil ?_
      refine wq_then_norm (hK16 ?_)
      refine wc_seq ?_; intro K17 hK17
      refine wc_region ?_
      refine wl_y (y_move rfl) rfl ?_
      refine wl_call Try.func57 rfl rfl rfl (clamp_any A n c xs _ HA) rfl ?_
      rintro e w9 ⟨g9, rfl, H9c, ex⟩
      refine ⟨_, rfl, ?_⟩
      replace HA := HA.ext ex
      replace HB := HB.ext ex
      replace E := E.ext ex
      replace H2 := H2.ext ex
      replace H3 := H3.ext ex
      replace H9 := H9.ext ex
      replace H6 := H6.ext ex
      replace H7 := H7.ext ex
      replace H8 := H8.ext ex
      skip
      refine wl_y (y_move rfl) rfl ?_
      refine wl_call Try.func59 rfl rfl rfl (dhmul_any _ _ 32 32 32 _ (clampB xs) _ _ H9c H3) rfl ?_
      rintro e w10 ⟨A10, k10, c10, rfl, H10, _, ex⟩
      refine ⟨_, rfl, ?_⟩
      replace HA := HA.ext ex
      replace HB := HB.ext ex
      replace E := E.ext ex
      replace H2 := H2.ext ex
      replace H3 := H3.ext ex
      replace H9 := H9.ext ex
      replace H6 := H6.ext ex
      replace H7 := H7.ext ex
      replace H8 := H8.ext ex
      replace H9c := H9c.ext ex
      rw [f5] at H10; obtain rfl : 32 = k10 := by rw [← H10.1]; exact (Fp.le_length 32 _).symm
      refine wl_y (y_move rfl) rfl ?_
      refine wl_y (y_extract rfl rfl) rfl ?_
      refine wl_y (y_extract rfl rfl) rfl ?_
      refine wl_y (y_assign rfl) rfl ?_
      refine wl_y (y_assign rfl) rfl ?_
      refine wl_nil ?_
      refine wq_then_norm (hK17 ?_)
      refine wc_seq ?_; intro K18 hK18
      refine wc_region ?_
      refine wl_y (y_move rfl) rfl ?_
      refine wl_y (y_conv rfl Try.underlying61 Try.underlying3 (i64_ok (by omega) (by omega))) rfl ?_
      refine wl_y (y_move rfl) rfl ?_
      refine wl_y (y_conv rfl Try.underlying61 Try.underlying3 (i64_ok (by omega) (by omega))) rfl ?_
      refine wl_y (y_add rfl rfl (i64_ok (by omega) (by omega))) rfl ?_
      refine wl_y (y_move rfl) rfl ?_
      refine wl_y (y_conv rfl Try.underlying61 Try.underlying3 (i64_ok (by omega) (by omega))) rfl ?_
      refine wl_y (y_add rfl rfl (i64_ok (by omega) (by omega))) rfl ?_
      refine wl_y (y_move rfl) rfl ?_
      refine wl_y (y_conv rfl Try.underlying61 Try.underlying3 (i64_ok (by omega) (by omega))) rfl ?_
      refine wl_y (y_add rfl rfl (i64_ok (by omega) (by omega))) rfl ?_
      refine wl_y (y_move rfl) rfl ?_
      refine wl_y (y_conv rfl Try.underlying61 Try.underlying3 (i64_ok (by omega) (by omega))) rfl ?_
      refine wl_y (y_add rfl rfl (i64_ok (by omega) (by omega))) rfl ?_
      refine wl_y (y_move rfl) rfl ?_
      refine wl_y (y_conv rfl Try.underlying61 Try.underlying3 (i64_ok (by omega) (by omega))) rfl ?_
      refine wl_y (y_add rfl rfl (i64_ok (by omega) (by omega))) rfl ?_
      refine wl_y (Y.as (y_eql rfl rfl) (congrArg Value.bool (decide_eq_true (by omega)))) rfl ?_
      refine wl_y (y_move rfl) rfl ?_
      refine wl_gy 99 rfl rfl (y_move rfl) rfl ?_
      refine wl_gy 99 rfl rfl (y_move rfl) rfl ?_
      refine wl_gcall 99 rfl rfl Try.func53 rfl rfl rfl (sameE_any _ _ 32 32 _ _ _ _ _ H6 H2 (by omega) (by omega)) rfl ?_
      rintro e w11 ⟨rfl, ex⟩
      refine ⟨_, rfl, ?_⟩
      replace HA := HA.ext ex
      replace HB := HB.ext ex
      replace E := E.ext ex
      replace H2 := H2.ext ex
      replace H3 := H3.ext ex
      replace H9 := H9.ext ex
      replace H6 := H6.ext ex
      replace H7 := H7.ext ex
      replace H8 := H8.ext ex
      replace H9c := H9c.ext ex
      replace H10 := H10.ext ex
      rw [decide_eq_true rfl]
      refine wl_y (y_pickt rfl rfl) rfl ?_
      refine wl_y (y_move rfl) rfl ?_
      refine wl_gy 104 rfl rfl (y_move rfl) rfl ?_
      refine wl_gy 104 rfl rfl (y_move rfl) rfl ?_
      refine wl_gcall 104 rfl rfl Try.func53 rfl rfl rfl (sameE_any _ _ 32 32 _ _ _ _ _ H7 H8 (by omega) (by omega)) rfl ?_
      rintro e w12 ⟨rfl, ex⟩
      refine ⟨_, rfl, ?_⟩
      replace HA := HA.ext ex
      replace HB := HB.ext ex
      replace E := E.ext ex
      replace H2 := H2.ext ex
      replace H3 := H3.ext ex
      replace H9 := H9.ext ex
      replace H6 := H6.ext ex
      replace H7 := H7.ext ex
      replace H8 := H8.ext ex
      replace H9c := H9c.ext ex
      replace H10 := H10.ext ex
      rw [decide_eq_true rfl]
      refine wl_y (y_pickt rfl rfl) rfl ?_
      refine wl_y (y_move rfl) rfl ?_
      refine wl_gy 109 rfl rfl (y_move rfl) rfl ?_
      refine wl_gy 109 rfl rfl (y_move rfl) rfl ?_
      refine wl_gcall 109 rfl rfl Try.func53 rfl rfl rfl (sameE_any _ _ 32 32 _ _ _ _ _ H7 H10 (by omega) (by omega)) rfl ?_
      rintro e w13 ⟨rfl, ex⟩
      refine ⟨_, rfl, ?_⟩
      replace HA := HA.ext ex
      replace HB := HB.ext ex
      replace E := E.ext ex
      replace H2 := H2.ext ex
      replace H3 := H3.ext ex
      replace H9 := H9.ext ex
      replace H6 := H6.ext ex
      replace H7 := H7.ext ex
      replace H8 := H8.ext ex
      replace H9c := H9c.ext ex
      replace H10 := H10.ext ex
      rw [decide_eq_true rfl]
      refine wl_y (y_pickt rfl rfl) rfl ?_
      refine wl_y (y_move rfl) rfl ?_
      refine wl_gy 114 rfl rfl (y_move rfl) rfl ?_
      refine wl_gcall 114 rfl rfl Try.func57 rfl rfl rfl (clamp_any A n c xs _ HA) rfl ?_
      rintro e w14 ⟨g14, rfl, H14, ex⟩
      refine ⟨_, rfl, ?_⟩
      replace HA := HA.ext ex
      replace HB := HB.ext ex
      replace E := E.ext ex
      replace H2 := H2.ext ex
      replace H3 := H3.ext ex
      replace H9 := H9.ext ex
      replace H6 := H6.ext ex
      replace H7 := H7.ext ex
      replace H8 := H8.ext ex
      replace H9c := H9c.ext ex
      replace H10 := H10.ext ex
      skip
      refine wl_gcall 114 rfl rfl Try.func57 rfl rfl rfl (clamp_any _ 32 32 _ _ H14) rfl ?_
      rintro e w15 ⟨g15, rfl, H15, ex⟩
      refine ⟨_, rfl, ?_⟩
      replace HA := HA.ext ex
      replace HB := HB.ext ex
      replace E := E.ext ex
      replace H2 := H2.ext ex
      replace H3 := H3.ext ex
      replace H9 := H9.ext ex
      replace H6 := H6.ext ex
      replace H7 := H7.ext ex
      replace H8 := H8.ext ex
      replace H9c := H9c.ext ex
      replace H10 := H10.ext ex
      replace H14 := H14.ext ex
      skip
      refine wl_gy 114 rfl rfl (y_move rfl) rfl ?_
      refine wl_gcall 114 rfl rfl Try.func57 rfl rfl rfl (clamp_any A n c xs _ HA) rfl ?_
      rintro e w16 ⟨g16, rfl, H16, ex⟩
      refine ⟨_, rfl, ?_⟩
      replace HA := HA.ext ex
      replace HB := HB.ext ex
      replace E := E.ext ex
      replace H2 := H2.ext ex
      replace H3 := H3.ext ex
      replace H9 := H9.ext ex
      replace H6 := H6.ext ex
      replace H7 := H7.ext ex
      replace H8 := H8.ext ex
      replace H9c := H9c.ext ex
      replace H10 := H10.ext ex
      replace H14 := H14.ext ex
      replace H15 := H15.ext ex
      skip
      refine wl_gcall 114 rfl rfl Try.func53 rfl rfl rfl (sameE_any _ _ 32 32 _ _ _ _ _ H15 H16 (by omega) (by omega)) rfl ?_
      rintro e w17 ⟨rfl, ex⟩
      refine ⟨_, rfl, ?_⟩
      replace HA := HA.ext ex
      replace HB := HB.ext ex
      replace E := E.ext ex
      replace H2 := H2.ext ex
      replace H3 := H3.ext ex
      replace H9 := H9.ext ex
      replace H6 := H6.ext ex
      replace H7 := H7.ext ex
      replace H8 := H8.ext ex
      replace H9c := H9c.ext ex
      replace H10 := H10.ext ex
      replace H14 := H14.ext ex
      replace H15 := H15.ext ex
      replace H16 := H16.ext ex
      rw [Ed.clamp_idem, decide_eq_true rfl]
      refine wl_y (y_pickt rfl rfl) rfl ?_
      refine wl_y (y_assign rfl) rfl ?_
      refine wl_nil ?_
      refine wq_then_norm (hK18 ?_)
      refine wc_ret ?_
      refine hret rfl ?_
      exact ⟨rfl, E⟩
end Go.Proofs.Ytbcbihdfpkeacaa
