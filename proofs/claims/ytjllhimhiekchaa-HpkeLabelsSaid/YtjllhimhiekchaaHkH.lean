/- The laws HpkeUnwraps, HpkeSeals and HpkeLabels. No conditions: contracts of functions. -/
import Derived.Test.YtjllhimhiekchaaHkG
namespace Go.Proofs.Ytjllhimhiekchaa
open Go.RowKit
attribute [local irreducible] Y Ef WL WC WK WQ WM OpM WN WF OpN WJ OpJ WR WLr
open Ae Gm Hk
theorem unw_of {xs ys : List UInt8} {c : Nat} (h : dhS xs ys = ([], c)) (hc : c ≠ 0) : unw xs ys = ([], c) := by
  unfold unw; rw [h, if_pos hc]
theorem op_of {xs ys is bx ms : List UInt8} {c : Nat} (h : dhS xs ys = ([], c)) (hc : c ≠ 0) : op xs ys is bx ms = ([], c) := by
  unfold op; rw [unw_of h hc, if_pos hc]
theorem dhS_one {xs ys : List UInt8} (h : xs.length ≠ 32) : dhS xs ys = ([], 1) := by
  have e : dhM xs ys = ([], 1) := by rw [dhM, if_pos h]
  rw [dhS, e, if_pos (show (1 : Nat) ≠ 0 by omega)]
theorem dhS_three {xs ys : List UInt8} (h : xs.length = 32) (h2 : ys.length ≠ 32) : dhS xs ys = ([], 3) := by
  have e : dhM xs ys = ([], 3) := by rw [dhM, if_neg (by omega), if_pos h2]
  rw [dhS, e, if_pos (show (3 : Nat) ≠ 0 by omega)]
theorem hpkeUnwraps_law (A : Option Addr) (n c : Nat) (xs : List UInt8) (B : Option Addr) (m d : Nat) (ys : List UInt8) (C : Option Addr) (k q : Nat) (is : List UInt8) (D : Option Addr) (z v : Nat) (bx : List UInt8) (w : World)
    (HA : Bs w A n xs) (_hn : n ≤ maxLen) (HB : Bs w B m ys) (_hm : m ≤ maxLen) (HC : Bs w C k is) (_hk : k ≤ maxLen) (HD : Bs w D z bx) (_hz : z ≤ maxLen) (hzv : z ≤ v) :
    Calls Try.prog 4 #[.slice A n c, .slice B m d, .slice C k q, .slice D z v] w fun e w' => e = .returned (.bool true) ∧ Below w.heap.size w w' := by
  have E := Ext.refl w
  have hxl := HA.1; have hyl := HB.1
  refine vc_enter1 175 Try.func4 rfl rfl rfl rfl ?_
  intro Q hret
  refine wc_seq ?_; intro K1 hK1
  refine wc_region ?_
  refine wl_y (y_assign rfl) rfl ?_
  refine wl_nil ?_
  refine wq_then_norm (hK1 ?_)
  refine wc_seq ?_; intro K2 hK2
  refine wc_seq ?_; intro K3 hK3
  refine wc_region ?_
  refine wl_call Try.func9 rfl rfl rfl (alive13_any _) rfl ?_
  rintro e w1 ⟨rfl, ex⟩
  refine ⟨_, rfl, ?_⟩
  replace HA := HA.ext ex
  replace HB := HB.ext ex
  replace HC := HC.ext ex
  replace HD := HD.ext ex
  replace E := E.ext ex
  refine wl_y (y_not rfl) rfl ?_
  refine wl_nil ?_
  refine wq_then_norm (hK3 ?_)
  refine wc_false rfl rfl ?_
  refine wc_skip ?_
  refine wq_then_norm (hK2 ?_)
  refine wc_seq ?_; intro K4 hK4
  refine wc_seq ?_; intro K5 hK5
  refine wc_region ?_
  refine wl_y (y_move rfl) rfl ?_
  refine wl_y (y_len_slice rfl Try.underlying22) rfl ?_
  refine wl_yask (y_gtr rfl rfl) rfl (fun q0 => ?_) (fun q0 => ?_)
  · skip
    refine wl_y (y_move rfl) rfl ?_
    refine wl_gno 27 rfl rfl rfl rfl ?_
    refine wl_gno 27 rfl rfl rfl rfl ?_
    refine wl_gno 27 rfl rfl rfl rfl ?_
    refine wl_y (y_pickt rfl rfl) rfl ?_
    refine wl_y (y_move rfl) rfl ?_
    refine wl_gno 32 rfl rfl rfl rfl ?_
    refine wl_gno 32 rfl rfl rfl rfl ?_
    refine wl_gno 32 rfl rfl rfl rfl ?_
    refine wl_y (y_pickt rfl rfl) rfl ?_
    refine wl_y (y_move rfl) rfl ?_
    refine wl_gno 37 rfl rfl rfl rfl ?_
    refine wl_gno 37 rfl rfl rfl rfl ?_
    refine wl_gno 37 rfl rfl rfl rfl ?_
    refine wl_y (y_pickt rfl rfl) rfl ?_
    refine wl_nil ?_
    refine wq_then_norm (hK5 ?_)
    refine wc_true rfl rfl ?_
    refine wc_seq ?_; intro K6 hK6
    refine wc_region ?_
    refine wl_y (y_assign rfl) rfl ?_
    refine wl_nil ?_
    refine wq_then_norm (hK6 ?_)
    refine wc_ret ?_
    refine wq_then_ret ?_
    refine hret rfl ?_
    exact ⟨rfl, E⟩
  · skip
    refine wl_y (y_move rfl) rfl ?_
    refine wl_gy 27 rfl rfl (y_move rfl) rfl ?_
    refine wl_gy 27 rfl rfl (y_len_slice rfl Try.underlying22) rfl ?_
    refine wl_gyask 27 rfl rfl (y_gtr rfl rfl) rfl (fun q1 => ?_) (fun q1 => ?_)
    · skip
      refine wl_y (y_pickf rfl rfl) rfl ?_
      refine wl_y (y_move rfl) rfl ?_
      refine wl_gno 32 rfl rfl rfl rfl ?_
      refine wl_gno 32 rfl rfl rfl rfl ?_
      refine wl_gno 32 rfl rfl rfl rfl ?_
      refine wl_y (y_pickt rfl rfl) rfl ?_
      refine wl_y (y_move rfl) rfl ?_
      refine wl_gno 37 rfl rfl rfl rfl ?_
      refine wl_gno 37 rfl rfl rfl rfl ?_
      refine wl_gno 37 rfl rfl rfl rfl ?_
      refine wl_y (y_pickt rfl rfl) rfl ?_
      refine wl_nil ?_
      refine wq_then_norm (hK5 ?_)
      refine wc_true rfl rfl ?_
      refine wc_seq ?_; intro K7 hK7
      refine wc_region ?_
      refine wl_y (y_assign rfl) rfl ?_
      refine wl_nil ?_
      refine wq_then_norm (hK7 ?_)
      refine wc_ret ?_
      refine wq_then_ret ?_
      refine hret rfl ?_
      exact ⟨rfl, E⟩
    · skip
      refine wl_y (y_pickf rfl rfl) rfl ?_
      refine wl_y (y_move rfl) rfl ?_
      refine wl_gy 32 rfl rfl (y_move rfl) rfl ?_
      refine wl_gy 32 rfl rfl (y_len_slice rfl Try.underlying22) rfl ?_
      refine wl_gyask 32 rfl rfl (y_gtr rfl rfl) rfl (fun q2 => ?_) (fun q2 => ?_)
      · skip
        refine wl_y (y_pickf rfl rfl) rfl ?_
        refine wl_y (y_move rfl) rfl ?_
        refine wl_gno 37 rfl rfl rfl rfl ?_
        refine wl_gno 37 rfl rfl rfl rfl ?_
        refine wl_gno 37 rfl rfl rfl rfl ?_
        refine wl_y (y_pickt rfl rfl) rfl ?_
        refine wl_nil ?_
        refine wq_then_norm (hK5 ?_)
        refine wc_true rfl rfl ?_
        refine wc_seq ?_; intro K8 hK8
        refine wc_region ?_
        refine wl_y (y_assign rfl) rfl ?_
        refine wl_nil ?_
        refine wq_then_norm (hK8 ?_)
        refine wc_ret ?_
        refine wq_then_ret ?_
        refine hret rfl ?_
        exact ⟨rfl, E⟩
      · skip
        refine wl_y (y_pickf rfl rfl) rfl ?_
        refine wl_y (y_move rfl) rfl ?_
        refine wl_gy 37 rfl rfl (y_move rfl) rfl ?_
        refine wl_gy 37 rfl rfl (y_len_slice rfl Try.underlying22) rfl ?_
        refine wl_gyask 37 rfl rfl (y_gtr rfl rfl) rfl (fun q3 => ?_) (fun q3 => ?_)
        · skip
          refine wl_y (y_pickf rfl rfl) rfl ?_
          refine wl_nil ?_
          refine wq_then_norm (hK5 ?_)
          refine wc_true rfl rfl ?_
          refine wc_seq ?_; intro K9 hK9
          refine wc_region ?_
          refine wl_y (y_assign rfl) rfl ?_
          refine wl_nil ?_
          refine wq_then_norm (hK9 ?_)
          refine wc_ret ?_
          refine wq_then_ret ?_
          refine hret rfl ?_
          exact ⟨rfl, E⟩
        · skip
          refine wl_y (y_pickf rfl rfl) rfl ?_
          refine wl_nil ?_
          refine wq_then_norm (hK5 ?_)
          refine wc_false rfl rfl ?_
          refine wc_skip ?_
          refine wq_then_norm (hK4 ?_)
          refine wc_seq ?_; intro K10 hK10
          refine wc_region ?_
          refine wl_y (y_move rfl) rfl ?_
          refine wl_y (y_move rfl) rfl ?_
          refine wl_call Try.func14 rfl rfl rfl (hunwrap_any A B n c m d xs ys _ HA (by omega) HB (by omega)) rfl ?_
          rintro e w2 ⟨A1, k1, c1, rfl, H1, hk1, ex⟩
          refine ⟨_, rfl, ?_⟩
          replace HA := HA.ext ex
          replace HB := HB.ext ex
          replace HC := HC.ext ex
          replace HD := HD.ext ex
          replace E := E.ext ex
          have l1 := H1.1; have hc1 := unw_code xs ys
          refine wl_y (y_move rfl) rfl ?_
          refine wl_y (y_extract rfl rfl) rfl ?_
          refine wl_y (y_extract rfl rfl) rfl ?_
          refine wl_y (y_assign rfl) rfl ?_
          refine wl_y (y_assign rfl) rfl ?_
          refine wl_nil ?_
          refine wq_then_norm (hK10 ?_)
          refine wc_seq ?_; intro K11 hK11
          refine wc_region ?_
          refine wl_y (y_move rfl) rfl ?_
          refine wl_y (y_move rfl) rfl ?_
          refine wl_y (y_move rfl) rfl ?_
          refine wl_y (y_move rfl) rfl ?_
          refine wl_call Try.func15 rfl rfl rfl (hopen_any A B C D none n c m d k q z v 0 0 xs ys is bx [] _ HA (by omega) HB (by omega) HC (by omega) HD (by omega) hzv (Bs.nil _ _) (by omega) (by omega)) rfl ?_
          rintro e w3 ⟨A2, k2, c2, rfl, H2, hk2, ex⟩
          refine ⟨_, rfl, ?_⟩
          replace HA := HA.ext ex
          replace HB := HB.ext ex
          replace HC := HC.ext ex
          replace HD := HD.ext ex
          replace E := E.ext ex
          replace H1 := H1.ext ex
          have l2 := H2.1
          refine wl_y (y_move rfl) rfl ?_
          refine wl_y (y_extract rfl rfl) rfl ?_
          refine wl_y (y_extract rfl rfl) rfl ?_
          refine wl_y (y_assign rfl) rfl ?_
          refine wl_y (y_assign rfl) rfl ?_
          refine wl_nil ?_
          refine wq_then_norm (hK11 ?_)
          refine wc_seq ?_; intro K12 hK12
          refine wc_seq ?_; intro K13 hK13
          refine wc_region ?_
          refine wl_y (y_move rfl) rfl ?_
          refine wl_y (y_len_slice rfl Try.underlying22) rfl ?_
          refine wl_y (y_neq rfl rfl) rfl ?_
          refine wl_nil ?_
          refine wq_then_norm (hK13 ?_)
          refine wc_dec rfl (fun hc3 => ?_) (fun hc3 => ?_)
          · skip
            refine wc_seq ?_; intro K14 hK14
            have e0 := dhS_one (xs := xs) (ys := ys) (by omega)
            have e1 := unw_of e0 (by omega)
            have e2 := op_of (is := is) (bx := bx) (ms := []) e0 (by omega)
            rw [e1] at l1; rw [e2] at l2
            have f1 : (unw xs ys).2 = 1 := by rw [e1]
            have f2 : (op xs ys is bx []).2 = 1 := by rw [e2]
            have z1 : k1 = 0 := l1.symm
            have z2 : k2 = 0 := l2.symm
            refine wc_region ?_
            refine wl_y (y_move rfl) rfl ?_
            refine wl_y (y_conv rfl Try.underlying27 Try.underlying3 (i64_ok (by omega) (by omega))) rfl ?_
            refine wl_y (Y.as (y_eql rfl rfl) (congrArg Value.bool (decide_eq_true (by omega)))) rfl ?_
            refine wl_y (y_move rfl) rfl ?_
            refine wl_gy 62 rfl rfl (y_move rfl) rfl ?_
            refine wl_gy 62 rfl rfl (y_conv rfl Try.underlying27 Try.underlying3 (i64_ok (by omega) (by omega))) rfl ?_
            refine wl_gy 62 rfl rfl (Y.as (y_eql rfl rfl) (congrArg Value.bool (decide_eq_true (by omega)))) rfl ?_
            refine wl_y (y_pickt rfl rfl) rfl ?_
            refine wl_y (y_move rfl) rfl ?_
            refine wl_gy 67 rfl rfl (y_move rfl) rfl ?_
            refine wl_gy 67 rfl rfl (y_len_slice rfl Try.underlying22) rfl ?_
            refine wl_gy 67 rfl rfl (y_move rfl) rfl ?_
            refine wl_gy 67 rfl rfl (y_len_slice rfl Try.underlying22) rfl ?_
            refine wl_gy 67 rfl rfl (y_add rfl rfl (i64_ok (by omega) (by omega))) rfl ?_
            refine wl_gy 67 rfl rfl (Y.as (y_eql rfl rfl) (congrArg Value.bool (decide_eq_true (by omega)))) rfl ?_
            refine wl_y (y_pickt rfl rfl) rfl ?_
            refine wl_y (y_assign rfl) rfl ?_
            refine wl_nil ?_
            refine wq_then_norm (hK14 ?_)
            refine wc_ret ?_
            refine wq_then_ret ?_
            refine hret rfl ?_
            exact ⟨rfl, E⟩
          · skip
            refine wc_skip ?_
            refine wq_then_norm (hK12 ?_)
            refine wc_seq ?_; intro K15 hK15
            refine wc_seq ?_; intro K16 hK16
            refine wc_region ?_
            refine wl_y (y_move rfl) rfl ?_
            refine wl_y (y_len_slice rfl Try.underlying22) rfl ?_
            refine wl_y (y_neq rfl rfl) rfl ?_
            refine wl_nil ?_
            refine wq_then_norm (hK16 ?_)
            refine wc_dec rfl (fun hc4 => ?_) (fun hc4 => ?_)
            · skip
              refine wc_seq ?_; intro K17 hK17
              have e0 := dhS_three (xs := xs) (ys := ys) (by omega) (by omega)
              have e1 := unw_of e0 (by omega)
              have e2 := op_of (is := is) (bx := bx) (ms := []) e0 (by omega)
              rw [e1] at l1; rw [e2] at l2
              have f1 : (unw xs ys).2 = 3 := by rw [e1]
              have f2 : (op xs ys is bx []).2 = 3 := by rw [e2]
              have z1 : k1 = 0 := l1.symm
              have z2 : k2 = 0 := l2.symm
              refine wc_region ?_
              refine wl_y (y_move rfl) rfl ?_
              refine wl_y (y_conv rfl Try.underlying27 Try.underlying3 (i64_ok (by omega) (by omega))) rfl ?_
              refine wl_y (Y.as (y_eql rfl rfl) (congrArg Value.bool (decide_eq_true (by omega)))) rfl ?_
              refine wl_y (y_move rfl) rfl ?_
              refine wl_gy 81 rfl rfl (y_move rfl) rfl ?_
              refine wl_gy 81 rfl rfl (y_conv rfl Try.underlying27 Try.underlying3 (i64_ok (by omega) (by omega))) rfl ?_
              refine wl_gy 81 rfl rfl (Y.as (y_eql rfl rfl) (congrArg Value.bool (decide_eq_true (by omega)))) rfl ?_
              refine wl_y (y_pickt rfl rfl) rfl ?_
              refine wl_y (y_move rfl) rfl ?_
              refine wl_gy 86 rfl rfl (y_move rfl) rfl ?_
              refine wl_gy 86 rfl rfl (y_len_slice rfl Try.underlying22) rfl ?_
              refine wl_gy 86 rfl rfl (y_move rfl) rfl ?_
              refine wl_gy 86 rfl rfl (y_len_slice rfl Try.underlying22) rfl ?_
              refine wl_gy 86 rfl rfl (y_add rfl rfl (i64_ok (by omega) (by omega))) rfl ?_
              refine wl_gy 86 rfl rfl (Y.as (y_eql rfl rfl) (congrArg Value.bool (decide_eq_true (by omega)))) rfl ?_
              refine wl_y (y_pickt rfl rfl) rfl ?_
              refine wl_y (y_assign rfl) rfl ?_
              refine wl_nil ?_
              refine wq_then_norm (hK17 ?_)
              refine wc_ret ?_
              refine wq_then_ret ?_
              refine hret rfl ?_
              exact ⟨rfl, E⟩
            · skip
              refine wc_skip ?_
              refine wq_then_norm (hK15 ?_)
              refine wc_seq ?_; intro K18 hK18
              refine wc_region ?_
              refine wl_y (y_move rfl) rfl ?_
              refine wl_y (y_move rfl) rfl ?_
              refine wl_call Try.func16 rfl rfl rfl (dhshared_any A B n c m d xs ys _ HA HB) rfl ?_
              rintro e w4 ⟨A4, k4, c4, rfl, H4, _, ex⟩
              refine ⟨_, rfl, ?_⟩
              replace HA := HA.ext ex
              replace HB := HB.ext ex
              replace HC := HC.ext ex
              replace HD := HD.ext ex
              replace E := E.ext ex
              replace H1 := H1.ext ex
              replace H2 := H2.ext ex
              have hcode := dhS_code xs ys; have l4 := H4.1; have hl4 := dhS_len (xs := xs) (ys := ys)
              refine wl_y (y_move rfl) rfl ?_
              refine wl_y (y_extract rfl rfl) rfl ?_
              refine wl_y (y_extract rfl rfl) rfl ?_
              refine wl_y (y_assign rfl) rfl ?_
              refine wl_y (y_assign rfl) rfl ?_
              refine wl_nil ?_
              refine wq_then_norm (hK18 ?_)
              refine wc_seq ?_; intro K19 hK19
              refine wc_seq ?_; intro K20 hK20
              refine wc_region ?_
              refine wl_y (y_move rfl) rfl ?_
              refine wl_y (y_conv rfl Try.underlying27 Try.underlying3 (i64_ok (by omega) (by omega))) rfl ?_
              refine wl_y (y_neq rfl rfl) rfl ?_
              refine wl_nil ?_
              refine wq_then_norm (hK20 ?_)
              refine wc_dec rfl (fun hc5 => ?_) (fun hc5 => ?_)
              · skip
                refine wc_seq ?_; intro K21 hK21
                have e0 := dhS_nine (xs := xs) (ys := ys) (by omega) (by omega) (by omega)
                have e1 := unw_of e0 (by omega)
                have e2 := op_of (is := is) (bx := bx) (ms := []) e0 (by omega)
                rw [e1] at l1; rw [e2] at l2
                have f1 : (unw xs ys).2 = 9 := by rw [e1]
                have f2 : (op xs ys is bx []).2 = 9 := by rw [e2]
                have z1 : k1 = 0 := l1.symm
                have z2 : k2 = 0 := l2.symm
                refine wc_region ?_
                refine wl_y (y_move rfl) rfl ?_
                refine wl_y (y_conv rfl Try.underlying27 Try.underlying3 (i64_ok (by omega) (by omega))) rfl ?_
                refine wl_y (Y.as (y_eql rfl rfl) (congrArg Value.bool (decide_eq_true (by omega)))) rfl ?_
                refine wl_y (y_move rfl) rfl ?_
                refine wl_gy 106 rfl rfl (y_move rfl) rfl ?_
                refine wl_gy 106 rfl rfl (y_conv rfl Try.underlying27 Try.underlying3 (i64_ok (by omega) (by omega))) rfl ?_
                refine wl_gy 106 rfl rfl (Y.as (y_eql rfl rfl) (congrArg Value.bool (decide_eq_true (by omega)))) rfl ?_
                refine wl_y (y_pickt rfl rfl) rfl ?_
                refine wl_y (y_move rfl) rfl ?_
                refine wl_gy 111 rfl rfl (y_move rfl) rfl ?_
                refine wl_gy 111 rfl rfl (y_len_slice rfl Try.underlying22) rfl ?_
                refine wl_gy 111 rfl rfl (y_move rfl) rfl ?_
                refine wl_gy 111 rfl rfl (y_len_slice rfl Try.underlying22) rfl ?_
                refine wl_gy 111 rfl rfl (y_add rfl rfl (i64_ok (by omega) (by omega))) rfl ?_
                refine wl_gy 111 rfl rfl (Y.as (y_eql rfl rfl) (congrArg Value.bool (decide_eq_true (by omega)))) rfl ?_
                refine wl_y (y_pickt rfl rfl) rfl ?_
                refine wl_y (y_assign rfl) rfl ?_
                refine wl_nil ?_
                refine wq_then_norm (hK21 ?_)
                refine wc_ret ?_
                refine wq_then_ret ?_
                refine hret rfl ?_
                exact ⟨rfl, E⟩
              · skip
                refine wc_skip ?_
                refine wq_then_norm (hK19 ?_)
                refine wc_seq ?_; intro K22 hK22
                refine wc_region ?_
                refine wl_y (y_move rfl) rfl ?_
                refine wl_call Try.func12 rfl rfl rfl (dhbase_any A n c xs _ HA) rfl ?_
                rintro e w5 ⟨A5, k5, c5, rfl, H5, _, ex⟩
                refine ⟨_, rfl, ?_⟩
                replace HA := HA.ext ex
                replace HB := HB.ext ex
                replace HC := HC.ext ex
                replace HD := HD.ext ex
                replace E := E.ext ex
                replace H1 := H1.ext ex
                replace H2 := H2.ext ex
                replace H4 := H4.ext ex
                have l5 := H5.1; have hl5 := dhM_len xs (Fp.le 32 9)
                refine wl_y (y_move rfl) rfl ?_
                refine wl_y (y_extract rfl rfl) rfl ?_
                refine wl_y (y_extract rfl rfl) rfl ?_
                refine wl_y (y_assign rfl) rfl ?_
                refine wl_y (y_assign rfl) rfl ?_
                refine wl_nil ?_
                refine wq_then_norm (hK22 ?_)
                refine wc_seq ?_; intro K23 hK23
                refine wc_region ?_
                refine wl_y (y_move rfl) rfl ?_
                refine wl_y (y_move rfl) rfl ?_
                refine wl_y (y_move rfl) rfl ?_
                refine wl_call Try.func17 rfl rfl rfl (rshared_any A4 B A5 k4 c4 m d k5 c5 _ ys _ _ H4 (by omega) HB (by omega) H5 (by omega)) rfl ?_
                rintro e w6 ⟨A6, c6, rfl, H6, ex⟩
                refine ⟨_, rfl, ?_⟩
                replace HA := HA.ext ex
                replace HB := HB.ext ex
                replace HC := HC.ext ex
                replace HD := HD.ext ex
                replace E := E.ext ex
                replace H1 := H1.ext ex
                replace H2 := H2.ext ex
                replace H4 := H4.ext ex
                replace H5 := H5.ext ex
                skip
                refine wl_y (y_assign rfl) rfl ?_
                refine wl_nil ?_
                refine wq_then_norm (hK23 ?_)
                refine wc_seq ?_; intro K24 hK24
                refine wc_seq ?_; intro K25 hK25
                have e1 : unw xs ys = (shd (dhS xs ys).1 ys (dhM xs (Fp.le 32 9)).1, 0) := by rw [unw, if_neg (by omega)]
                obtain ⟨s, hs⟩ : ∃ s, s = shd (dhS xs ys).1 ys (dhM xs (Fp.le 32 9)).1 := ⟨_, rfl⟩
                rw [← hs] at e1 H6
                have f1 : (unw xs ys).2 = 0 := by rw [e1]
                have f3 : (unw xs ys).1 = s := by rw [e1]
                rw [f3] at H1
                have e2 : op xs ys is bx [] = ob (opn (lkey s is) (lnon s is) bx []) := by unfold op; rw [if_neg (by omega), f3]
                obtain ⟨o, ho⟩ : ∃ o, o = opn (lkey s is) (lnon s is) bx [] := ⟨_, rfl⟩
                rw [← ho] at e2
                refine wc_region ?_
                refine wl_y (y_move rfl) rfl ?_
                refine wl_y (y_conv rfl Try.underlying27 Try.underlying3 (i64_ok (by omega) (by omega))) rfl ?_
                refine wl_y (Y.as (y_neq rfl rfl) (congrArg Value.bool (decide_eq_false (by omega)))) rfl ?_
                refine wl_y (y_move rfl) rfl ?_
                refine wl_gy 131 rfl rfl (y_move rfl) rfl ?_
                refine wl_gy 131 rfl rfl (y_move rfl) rfl ?_
                refine wl_gcall 131 rfl rfl Try.func13 rfl rfl rfl (sameE_any A1 A6 k1 32 c1 c6 _ _ _ H1 H6 (by omega) (by omega)) rfl ?_
                rintro e w7 ⟨rfl, ex⟩
                refine ⟨_, rfl, ?_⟩
                replace HA := HA.ext ex
                replace HB := HB.ext ex
                replace HC := HC.ext ex
                replace HD := HD.ext ex
                replace E := E.ext ex
                replace H1 := H1.ext ex
                replace H2 := H2.ext ex
                replace H4 := H4.ext ex
                replace H5 := H5.ext ex
                replace H6 := H6.ext ex
                rw [decide_eq_true rfl]
                refine wl_gy 131 rfl rfl (y_not rfl) rfl ?_
                refine wl_y (y_pickf rfl rfl) rfl ?_
                refine wl_nil ?_
                refine wq_then_norm (hK25 ?_)
                refine wc_false rfl rfl ?_
                refine wc_skip ?_
                refine wq_then_norm (hK24 ?_)
                refine wc_seq ?_; intro K26 hK26
                refine wc_region ?_
                refine wl_y (y_move rfl) rfl ?_
                refine wl_y (y_move rfl) rfl ?_
                refine wl_call Try.func18 rfl rfl rfl (rkey_any A6 C 32 c6 k q _ is _ H6 (by omega) HC (by omega)) rfl ?_
                rintro e w8 ⟨A8, c8, A9, c9, rfl, H8, H9, ex⟩
                refine ⟨_, rfl, ?_⟩
                replace HA := HA.ext ex
                replace HB := HB.ext ex
                replace HC := HC.ext ex
                replace HD := HD.ext ex
                replace E := E.ext ex
                replace H1 := H1.ext ex
                replace H2 := H2.ext ex
                replace H4 := H4.ext ex
                replace H5 := H5.ext ex
                replace H6 := H6.ext ex
                skip
                refine wl_y (y_move rfl) rfl ?_
                refine wl_y (y_extract rfl rfl) rfl ?_
                refine wl_y (y_extract rfl rfl) rfl ?_
                refine wl_y (y_assign rfl) rfl ?_
                refine wl_y (y_assign rfl) rfl ?_
                refine wl_nil ?_
                refine wq_then_norm (hK26 ?_)
                refine wc_seq ?_; intro K27 hK27
                refine wc_region ?_
                refine wl_y (y_move rfl) rfl ?_
                refine wl_y (y_move rfl) rfl ?_
                refine wl_y (y_move rfl) rfl ?_
                refine wl_call Try.func19 rfl rfl rfl (gopen_any _ H8 H9 HD (by omega) hzv (Bs.nil _ _) (by omega) (by omega)) rfl ?_
                rintro e w9 ⟨A10, k10, c10, rfl, R10, ex⟩
                refine ⟨_, rfl, ?_⟩
                replace HA := HA.ext ex
                replace HB := HB.ext ex
                replace HC := HC.ext ex
                replace HD := HD.ext ex
                replace E := E.ext ex
                replace H1 := H1.ext ex
                replace H2 := H2.ext ex
                replace H4 := H4.ext ex
                replace H5 := H5.ext ex
                replace H6 := H6.ext ex
                replace H8 := H8.ext ex
                replace H9 := H9.ext ex
                rw [← ho] at R10 ⊢; have H10 := R10.bs
                refine wl_y (y_move rfl) rfl ?_
                refine wl_y (y_extract rfl rfl) rfl ?_
                refine wl_y (y_extract rfl rfl) rfl ?_
                refine wl_y (y_assign rfl) rfl ?_
                refine wl_y (y_assign rfl) rfl ?_
                refine wl_nil ?_
                refine wq_then_norm (hK27 ?_)
                refine wc_seq ?_; intro K28 hK28
                by_cases hso : o = none
                · skip
                  refine wc_region ?_
                  subst hso
                  have f2 : (op xs ys is bx []).2 = 11 := by rw [e2]; rfl
                  have z2 : k2 = 0 := by rw [e2] at l2; exact l2.symm
                  refine wl_y (y_move rfl) rfl ?_
                  refine wl_y (y_move rfl) rfl ?_
                  refine wl_gno 151 rfl rfl rfl rfl ?_
                  refine wl_gno 151 rfl rfl rfl rfl ?_
                  refine wl_gno 151 rfl rfl rfl rfl ?_
                  refine wl_y (y_pickf rfl rfl) rfl ?_
                  refine wl_y (y_move rfl) rfl ?_
                  refine wl_gno 156 rfl rfl rfl rfl ?_
                  refine wl_gno 156 rfl rfl rfl rfl ?_
                  refine wl_gno 156 rfl rfl rfl rfl ?_
                  refine wl_y (y_pickf rfl rfl) rfl ?_
                  refine wl_y (y_move rfl) rfl ?_
                  refine wl_gy 161 rfl rfl (y_move rfl) rfl ?_
                  refine wl_gy 161 rfl rfl (y_not rfl) rfl ?_
                  refine wl_gy 161 rfl rfl (y_move rfl) rfl ?_
                  refine wl_gy 164 rfl rfl (y_move rfl) rfl ?_
                  refine wl_gy 164 rfl rfl (y_conv rfl Try.underlying27 Try.underlying3 (i64_ok (by omega) (by omega))) rfl ?_
                  refine wl_gy 164 rfl rfl (Y.as (y_eql rfl rfl) (congrArg Value.bool (decide_eq_true (by omega)))) rfl ?_
                  refine wl_gy 161 rfl rfl (y_pickt rfl rfl) rfl ?_
                  refine wl_gy 161 rfl rfl (y_move rfl) rfl ?_
                  refine wl_gy 169 rfl rfl (y_move rfl) rfl ?_
                  refine wl_gy 169 rfl rfl (y_len_slice rfl Try.underlying22) rfl ?_
                  refine wl_gy 169 rfl rfl (Y.as (y_eql rfl rfl) (congrArg Value.bool (decide_eq_true (by omega)))) rfl ?_
                  refine wl_gy 161 rfl rfl (y_pickt rfl rfl) rfl ?_
                  refine wl_y (y_pickf rfl rfl) rfl ?_
                  refine wl_y (y_assign rfl) rfl ?_
                  refine wl_nil ?_
                  refine wq_then_norm (hK28 ?_)
                  refine wc_ret ?_
                  refine hret rfl ?_
                  exact ⟨rfl, E⟩
                · skip
                  refine wc_region ?_
                  obtain ⟨t, rfl⟩ : ∃ t, o = some t := by
                    cases o with
                    | none => exact absurd rfl hso
                    | some t => exact ⟨t, rfl⟩
                  have f2 : (op xs ys is bx []).2 = 0 := by rw [e2]; rfl
                  have f4 : (op xs ys is bx []).1 = t := by rw [e2]; rfl
                  rw [f4] at H2 l2
                  replace H10 : Bs _ A10 k10 t := H10
                  have l10 := H10.1
                  refine wl_y (y_move rfl) rfl ?_
                  refine wl_y (y_move rfl) rfl ?_
                  refine wl_gy 151 rfl rfl (y_move rfl) rfl ?_
                  refine wl_gy 151 rfl rfl (y_conv rfl Try.underlying27 Try.underlying3 (i64_ok (by omega) (by omega))) rfl ?_
                  refine wl_gy 151 rfl rfl (Y.as (y_eql rfl rfl) (congrArg Value.bool (decide_eq_true (by omega)))) rfl ?_
                  refine wl_y (y_pickt rfl rfl) rfl ?_
                  refine wl_y (y_move rfl) rfl ?_
                  refine wl_gy 156 rfl rfl (y_move rfl) rfl ?_
                  refine wl_gy 156 rfl rfl (y_move rfl) rfl ?_
                  refine wl_gcall 156 rfl rfl Try.func13 rfl rfl rfl (sameE_any A2 A10 k2 k10 c2 c10 _ _ _ H2 H10 (by omega) (by omega)) rfl ?_
                  rintro e w11 ⟨rfl, ex⟩
                  refine ⟨_, rfl, ?_⟩
                  replace HA := HA.ext ex
                  replace HB := HB.ext ex
                  replace HC := HC.ext ex
                  replace HD := HD.ext ex
                  replace E := E.ext ex
                  replace H1 := H1.ext ex
                  replace H2 := H2.ext ex
                  replace H4 := H4.ext ex
                  replace H5 := H5.ext ex
                  replace H6 := H6.ext ex
                  replace H8 := H8.ext ex
                  replace H9 := H9.ext ex
                  replace H10 := H10.ext ex
                  rw [decide_eq_true rfl]
                  refine wl_y (y_pickt rfl rfl) rfl ?_
                  refine wl_y (y_move rfl) rfl ?_
                  refine wl_gno 161 rfl rfl rfl rfl ?_
                  refine wl_gno 161 rfl rfl rfl rfl ?_
                  refine wl_gno 161 rfl rfl rfl rfl ?_
                  refine wl_gun 164 rfl rfl rfl ?_
                  refine wl_gun 164 rfl rfl rfl ?_
                  refine wl_gun 164 rfl rfl rfl ?_
                  refine wl_gno 161 rfl rfl rfl rfl ?_
                  refine wl_gno 161 rfl rfl rfl rfl ?_
                  refine wl_gun 169 rfl rfl rfl ?_
                  refine wl_gun 169 rfl rfl rfl ?_
                  refine wl_gun 169 rfl rfl rfl ?_
                  refine wl_gno 161 rfl rfl rfl rfl ?_
                  refine wl_y (y_pickt rfl rfl) rfl ?_
                  refine wl_y (y_assign rfl) rfl ?_
                  refine wl_nil ?_
                  refine wq_then_norm (hK28 ?_)
                  refine wc_ret ?_
                  refine hret rfl ?_
                  exact ⟨rfl, E⟩
theorem hpkeSeals_law (A : Option Addr) (n c : Nat) (xs : List UInt8) (B : Option Addr) (m d : Nat) (ys : List UInt8) (C : Option Addr) (k q : Nat) (is : List UInt8) (D : Option Addr) (z v : Nat) (ts : List UInt8) (M : Option Addr) (i j : Nat) (ms : List UInt8) (w : World)
    (HA : Bs w A n xs) (_hn : n ≤ maxLen) (HB : Bs w B m ys) (_hm : m ≤ maxLen) (HC : Bs w C k is) (_hk : k ≤ maxLen) (HD : Bs w D z ts) (_hz : z ≤ maxLen) (HM : Bs w M i ms) (_hi : i ≤ maxLen) (hij : i ≤ j) :
    Calls Try.prog 6 #[.slice A n c, .slice B m d, .slice C k q, .slice D z v, .slice M i j] w fun e w' => e = .returned (.bool true) ∧ Below w.heap.size w w' := by
  have E := Ext.refl w
  have hxl := HA.1; have hyl := HB.1
  refine vc_enter1 118 Try.func6 rfl rfl rfl rfl ?_
  intro Q hret
  refine wc_seq ?_; intro K1 hK1
  refine wc_region ?_
  refine wl_y (y_assign rfl) rfl ?_
  refine wl_nil ?_
  refine wq_then_norm (hK1 ?_)
  refine wc_seq ?_; intro K2 hK2
  refine wc_seq ?_; intro K3 hK3
  refine wc_region ?_
  refine wl_call Try.func9 rfl rfl rfl (alive13_any _) rfl ?_
  rintro e w1 ⟨rfl, ex⟩
  refine ⟨_, rfl, ?_⟩
  replace HA := HA.ext ex
  replace HB := HB.ext ex
  replace HC := HC.ext ex
  replace HD := HD.ext ex
  replace HM := HM.ext ex
  replace E := E.ext ex
  refine wl_y (y_not rfl) rfl ?_
  refine wl_nil ?_
  refine wq_then_norm (hK3 ?_)
  refine wc_false rfl rfl ?_
  refine wc_skip ?_
  refine wq_then_norm (hK2 ?_)
  refine wc_seq ?_; intro K4 hK4
  refine wc_seq ?_; intro K5 hK5
  refine wc_region ?_
  refine wl_y (y_move rfl) rfl ?_
  refine wl_y (y_len_slice rfl Try.underlying22) rfl ?_
  refine wl_yask (y_gtr rfl rfl) rfl (fun q0 => ?_) (fun q0 => ?_)
  · skip
    refine wl_y (y_move rfl) rfl ?_
    refine wl_gno 26 rfl rfl rfl rfl ?_
    refine wl_gno 26 rfl rfl rfl rfl ?_
    refine wl_gno 26 rfl rfl rfl rfl ?_
    refine wl_y (y_pickt rfl rfl) rfl ?_
    refine wl_y (y_move rfl) rfl ?_
    refine wl_gno 31 rfl rfl rfl rfl ?_
    refine wl_gno 31 rfl rfl rfl rfl ?_
    refine wl_gno 31 rfl rfl rfl rfl ?_
    refine wl_y (y_pickt rfl rfl) rfl ?_
    refine wl_y (y_move rfl) rfl ?_
    refine wl_gno 36 rfl rfl rfl rfl ?_
    refine wl_gno 36 rfl rfl rfl rfl ?_
    refine wl_gno 36 rfl rfl rfl rfl ?_
    refine wl_y (y_pickt rfl rfl) rfl ?_
    refine wl_y (y_move rfl) rfl ?_
    refine wl_gno 41 rfl rfl rfl rfl ?_
    refine wl_gno 41 rfl rfl rfl rfl ?_
    refine wl_gno 41 rfl rfl rfl rfl ?_
    refine wl_y (y_pickt rfl rfl) rfl ?_
    refine wl_nil ?_
    refine wq_then_norm (hK5 ?_)
    refine wc_true rfl rfl ?_
    refine wc_seq ?_; intro K6 hK6
    refine wc_region ?_
    refine wl_y (y_assign rfl) rfl ?_
    refine wl_nil ?_
    refine wq_then_norm (hK6 ?_)
    refine wc_ret ?_
    refine wq_then_ret ?_
    refine hret rfl ?_
    exact ⟨rfl, E⟩
  · skip
    refine wl_y (y_move rfl) rfl ?_
    refine wl_gy 26 rfl rfl (y_move rfl) rfl ?_
    refine wl_gy 26 rfl rfl (y_len_slice rfl Try.underlying22) rfl ?_
    refine wl_gyask 26 rfl rfl (y_gtr rfl rfl) rfl (fun q1 => ?_) (fun q1 => ?_)
    · skip
      refine wl_y (y_pickf rfl rfl) rfl ?_
      refine wl_y (y_move rfl) rfl ?_
      refine wl_gno 31 rfl rfl rfl rfl ?_
      refine wl_gno 31 rfl rfl rfl rfl ?_
      refine wl_gno 31 rfl rfl rfl rfl ?_
      refine wl_y (y_pickt rfl rfl) rfl ?_
      refine wl_y (y_move rfl) rfl ?_
      refine wl_gno 36 rfl rfl rfl rfl ?_
      refine wl_gno 36 rfl rfl rfl rfl ?_
      refine wl_gno 36 rfl rfl rfl rfl ?_
      refine wl_y (y_pickt rfl rfl) rfl ?_
      refine wl_y (y_move rfl) rfl ?_
      refine wl_gno 41 rfl rfl rfl rfl ?_
      refine wl_gno 41 rfl rfl rfl rfl ?_
      refine wl_gno 41 rfl rfl rfl rfl ?_
      refine wl_y (y_pickt rfl rfl) rfl ?_
      refine wl_nil ?_
      refine wq_then_norm (hK5 ?_)
      refine wc_true rfl rfl ?_
      refine wc_seq ?_; intro K7 hK7
      refine wc_region ?_
      refine wl_y (y_assign rfl) rfl ?_
      refine wl_nil ?_
      refine wq_then_norm (hK7 ?_)
      refine wc_ret ?_
      refine wq_then_ret ?_
      refine hret rfl ?_
      exact ⟨rfl, E⟩
    · skip
      refine wl_y (y_pickf rfl rfl) rfl ?_
      refine wl_y (y_move rfl) rfl ?_
      refine wl_gy 31 rfl rfl (y_move rfl) rfl ?_
      refine wl_gy 31 rfl rfl (y_len_slice rfl Try.underlying22) rfl ?_
      refine wl_gyask 31 rfl rfl (y_gtr rfl rfl) rfl (fun q2 => ?_) (fun q2 => ?_)
      · skip
        refine wl_y (y_pickf rfl rfl) rfl ?_
        refine wl_y (y_move rfl) rfl ?_
        refine wl_gno 36 rfl rfl rfl rfl ?_
        refine wl_gno 36 rfl rfl rfl rfl ?_
        refine wl_gno 36 rfl rfl rfl rfl ?_
        refine wl_y (y_pickt rfl rfl) rfl ?_
        refine wl_y (y_move rfl) rfl ?_
        refine wl_gno 41 rfl rfl rfl rfl ?_
        refine wl_gno 41 rfl rfl rfl rfl ?_
        refine wl_gno 41 rfl rfl rfl rfl ?_
        refine wl_y (y_pickt rfl rfl) rfl ?_
        refine wl_nil ?_
        refine wq_then_norm (hK5 ?_)
        refine wc_true rfl rfl ?_
        refine wc_seq ?_; intro K8 hK8
        refine wc_region ?_
        refine wl_y (y_assign rfl) rfl ?_
        refine wl_nil ?_
        refine wq_then_norm (hK8 ?_)
        refine wc_ret ?_
        refine wq_then_ret ?_
        refine hret rfl ?_
        exact ⟨rfl, E⟩
      · skip
        refine wl_y (y_pickf rfl rfl) rfl ?_
        refine wl_y (y_move rfl) rfl ?_
        refine wl_gy 36 rfl rfl (y_move rfl) rfl ?_
        refine wl_gy 36 rfl rfl (y_len_slice rfl Try.underlying22) rfl ?_
        refine wl_gyask 36 rfl rfl (y_gtr rfl rfl) rfl (fun q3 => ?_) (fun q3 => ?_)
        · skip
          refine wl_y (y_pickf rfl rfl) rfl ?_
          refine wl_y (y_move rfl) rfl ?_
          refine wl_gno 41 rfl rfl rfl rfl ?_
          refine wl_gno 41 rfl rfl rfl rfl ?_
          refine wl_gno 41 rfl rfl rfl rfl ?_
          refine wl_y (y_pickt rfl rfl) rfl ?_
          refine wl_nil ?_
          refine wq_then_norm (hK5 ?_)
          refine wc_true rfl rfl ?_
          refine wc_seq ?_; intro K9 hK9
          refine wc_region ?_
          refine wl_y (y_assign rfl) rfl ?_
          refine wl_nil ?_
          refine wq_then_norm (hK9 ?_)
          refine wc_ret ?_
          refine wq_then_ret ?_
          refine hret rfl ?_
          exact ⟨rfl, E⟩
        · skip
          refine wl_y (y_pickf rfl rfl) rfl ?_
          refine wl_y (y_move rfl) rfl ?_
          refine wl_gy 41 rfl rfl (y_move rfl) rfl ?_
          refine wl_gy 41 rfl rfl (y_len_slice rfl Try.underlying22) rfl ?_
          refine wl_gyask 41 rfl rfl (y_gtr rfl rfl) rfl (fun q4 => ?_) (fun q4 => ?_)
          · skip
            refine wl_y (y_pickf rfl rfl) rfl ?_
            refine wl_nil ?_
            refine wq_then_norm (hK5 ?_)
            refine wc_true rfl rfl ?_
            refine wc_seq ?_; intro K10 hK10
            refine wc_region ?_
            refine wl_y (y_assign rfl) rfl ?_
            refine wl_nil ?_
            refine wq_then_norm (hK10 ?_)
            refine wc_ret ?_
            refine wq_then_ret ?_
            refine hret rfl ?_
            exact ⟨rfl, E⟩
          · skip
            refine wl_y (y_pickf rfl rfl) rfl ?_
            refine wl_nil ?_
            refine wq_then_norm (hK5 ?_)
            refine wc_false rfl rfl ?_
            refine wc_skip ?_
            refine wq_then_norm (hK4 ?_)
            refine wc_seq ?_; intro K11 hK11
            refine wc_region ?_
            refine wl_y (y_move rfl) rfl ?_
            refine wl_y (y_move rfl) rfl ?_
            refine wl_y (y_move rfl) rfl ?_
            refine wl_y (y_move rfl) rfl ?_
            refine wl_y (y_move rfl) rfl ?_
            refine wl_call Try.func21 rfl rfl rfl (hseal_any A B C D M n c m d k q z v i j xs ys is ts ms _ HA (by omega) HB (by omega) HC (by omega) HD (by omega) HM (by omega) hij) rfl ?_
            rintro e w2 ⟨A1, k1, c1, A2, k2, c2, rfl, H1, H2, hk1, hk2, hc2, ex⟩
            refine ⟨_, rfl, ?_⟩
            replace HA := HA.ext ex
            replace HB := HB.ext ex
            replace HC := HC.ext ex
            replace HD := HD.ext ex
            replace HM := HM.ext ex
            replace E := E.ext ex
            have l1 := H1.1; have l2 := H2.1; have hcode := wrp_code xs ys
            refine wl_y (y_move rfl) rfl ?_
            refine wl_y (y_extract rfl rfl) rfl ?_
            refine wl_y (y_extract rfl rfl) rfl ?_
            refine wl_y (y_extract rfl rfl) rfl ?_
            refine wl_y (y_assign rfl) rfl ?_
            refine wl_y (y_assign rfl) rfl ?_
            refine wl_y (y_assign rfl) rfl ?_
            refine wl_nil ?_
            refine wq_then_norm (hK11 ?_)
            refine wc_seq ?_; intro K12 hK12
            refine wc_region ?_
            refine wl_y (y_move rfl) rfl ?_
            refine wl_y (y_move rfl) rfl ?_
            refine wl_call Try.func20 rfl rfl rfl (hwrap_any A B n c m d xs ys _ HA (by omega) HB (by omega)) rfl ?_
            rintro e w3 ⟨A3, k3, c3, A4, k4, c4, rfl, H3, H4, hk3, hk4, ex⟩
            refine ⟨_, rfl, ?_⟩
            replace HA := HA.ext ex
            replace HB := HB.ext ex
            replace HC := HC.ext ex
            replace HD := HD.ext ex
            replace HM := HM.ext ex
            replace E := E.ext ex
            replace H1 := H1.ext ex
            replace H2 := H2.ext ex
            skip
            refine wl_y (y_move rfl) rfl ?_
            refine wl_y (y_extract rfl rfl) rfl ?_
            refine wl_y (y_extract rfl rfl) rfl ?_
            refine wl_y (y_extract rfl rfl) rfl ?_
            refine wl_y (y_assign rfl) rfl ?_
            refine wl_y (y_assign rfl) rfl ?_
            refine wl_y (y_assign rfl) rfl ?_
            refine wl_nil ?_
            refine wq_then_norm (hK12 ?_)
            refine wc_seq ?_; intro K13 hK13
            refine wc_seq ?_; intro K14 hK14
            refine wc_region ?_
            refine wl_y (y_move rfl) rfl ?_
            refine wl_y (y_conv rfl Try.underlying27 Try.underlying3 (i64_ok (by omega) (by omega))) rfl ?_
            refine wl_y (y_neq rfl rfl) rfl ?_
            refine wl_nil ?_
            refine wq_then_norm (hK14 ?_)
            refine wc_dec rfl (fun hc3 => ?_) (fun hc3 => ?_)
            · skip
              refine wc_seq ?_; intro K15 hK15
              have hne : (wrp xs ys).2.2 ≠ 0 := by omega
              have e1 : sl xs ys is ts ms = ([], [], (wrp xs ys).2.2) := by rw [sl, if_pos hne]
              rw [e1] at l1 l2
              have f1 : (sl xs ys is ts ms).2.2 = (wrp xs ys).2.2 := by rw [e1]
              have z1 : k1 = 0 := l1.symm
              have z2 : k2 = 0 := l2.symm
              have hthree : (n ≠ 32) ↔ (wrp xs ys).2.2 = 3 := by
                constructor
                · intro h; rw [wrp_bad (by omega)]
                · intro h hn
                  have h0 : (dhS (priv ys) xs).2 ≠ 0 := by
                    intro h0; rw [wrp, if_neg (by omega)] at h; cases h
                  have h9 := dhS_nine (xs := priv ys) (ys := xs) (priv_length ys) (by omega) h0
                  rw [wrp, if_pos h0, h9] at h
                  cases h
              refine wc_region ?_
              refine wl_y (y_move rfl) rfl ?_
              refine wl_y (y_conv rfl Try.underlying27 Try.underlying3 (i64_ok (by omega) (by omega))) rfl ?_
              refine wl_y (y_move rfl) rfl ?_
              refine wl_y (y_conv rfl Try.underlying27 Try.underlying3 (i64_ok (by omega) (by omega))) rfl ?_
              refine wl_y (Y.as (y_eql rfl rfl) (congrArg Value.bool (decide_eq_true (by omega)))) rfl ?_
              refine wl_y (y_move rfl) rfl ?_
              refine wl_gy 71 rfl rfl (y_move rfl) rfl ?_
              refine wl_gy 71 rfl rfl (y_len_slice rfl Try.underlying22) rfl ?_
              refine wl_gy 71 rfl rfl (y_move rfl) rfl ?_
              refine wl_gy 71 rfl rfl (y_len_slice rfl Try.underlying22) rfl ?_
              refine wl_gy 71 rfl rfl (y_add rfl rfl (i64_ok (by omega) (by omega))) rfl ?_
              refine wl_gy 71 rfl rfl (Y.as (y_eql rfl rfl) (congrArg Value.bool (decide_eq_true (by omega)))) rfl ?_
              refine wl_y (y_pickt rfl rfl) rfl ?_
              refine wl_y (y_move rfl) rfl ?_
              refine wl_gy 79 rfl rfl (y_move rfl) rfl ?_
              refine wl_gy 79 rfl rfl (y_len_slice rfl Try.underlying22) rfl ?_
              refine wl_gy 79 rfl rfl (y_neq rfl rfl) rfl ?_
              refine wl_gy 79 rfl rfl (y_move rfl) rfl ?_
              refine wl_gy 79 rfl rfl (y_conv rfl Try.underlying27 Try.underlying3 (i64_ok (by omega) (by omega))) rfl ?_
              refine wl_gy 79 rfl rfl (y_eql rfl rfl) rfl ?_
              refine wl_gy 79 rfl rfl (Y.as (y_eqlb rfl rfl Try.underlying4) (congrArg Value.bool (decide_eq_true (decide_eq_decide.2 (show ((n : Int) ≠ 32) ↔ (((wrp xs ys).2.2 : Nat) : Int) = 3 from by omega))))) rfl ?_
              refine wl_y (y_pickt rfl rfl) rfl ?_
              refine wl_y (y_assign rfl) rfl ?_
              refine wl_nil ?_
              refine wq_then_norm (hK15 ?_)
              refine wc_ret ?_
              refine wq_then_ret ?_
              refine hret rfl ?_
              exact ⟨rfl, E⟩
            · skip
              refine wc_skip ?_
              refine wq_then_norm (hK13 ?_)
              refine wc_seq ?_; intro K16 hK16
              have hz0 : (wrp xs ys).2.2 = 0 := by omega
              have e1 : sl xs ys is ts ms = ((wrp xs ys).2.1, seal' (lkey (wrp xs ys).1 is) (lnon (wrp xs ys).1 is) ts ms, 0) := by rw [sl, if_neg (by omega)]
              have f1 : (sl xs ys is ts ms).2.2 = 0 := by rw [e1]
              have f2 : (sl xs ys is ts ms).1 = (wrp xs ys).2.1 := by rw [e1]
              have f3 : (sl xs ys is ts ms).2.1 = seal' (lkey (wrp xs ys).1 is) (lnon (wrp xs ys).1 is) ts ms := by rw [e1]
              rw [f2] at H1
              rw [f3] at H2
              refine wc_region ?_
              refine wl_y (y_move rfl) rfl ?_
              refine wl_y (y_move rfl) rfl ?_
              refine wl_call Try.func18 rfl rfl rfl (rkey_any A3 C k3 c3 k q _ is _ H3 (by omega) HC (by omega)) rfl ?_
              rintro e w8 ⟨A8, c8, A9, c9, rfl, H8, H9, ex⟩
              refine ⟨_, rfl, ?_⟩
              replace HA := HA.ext ex
              replace HB := HB.ext ex
              replace HC := HC.ext ex
              replace HD := HD.ext ex
              replace HM := HM.ext ex
              replace E := E.ext ex
              replace H1 := H1.ext ex
              replace H2 := H2.ext ex
              replace H3 := H3.ext ex
              replace H4 := H4.ext ex
              skip
              refine wl_y (y_move rfl) rfl ?_
              refine wl_y (y_extract rfl rfl) rfl ?_
              refine wl_y (y_extract rfl rfl) rfl ?_
              refine wl_y (y_assign rfl) rfl ?_
              refine wl_y (y_assign rfl) rfl ?_
              refine wl_nil ?_
              refine wq_then_norm (hK16 ?_)
              refine wc_seq ?_; intro K17 hK17
              refine wc_region ?_
              refine wl_y (y_move rfl) rfl ?_
              refine wl_y (y_move rfl) rfl ?_
              refine wl_y (y_move rfl) rfl ?_
              refine wl_y (y_move rfl) rfl ?_
              refine wl_call Try.func22 rfl rfl rfl (gseal_any _ H8 H9 HD (by omega) HM (by omega) hij) rfl ?_
              rintro e w9 ⟨A10, c10, rfl, R10, ex⟩
              refine ⟨_, rfl, ?_⟩
              replace HA := HA.ext ex
              replace HB := HB.ext ex
              replace HC := HC.ext ex
              replace HD := HD.ext ex
              replace HM := HM.ext ex
              replace E := E.ext ex
              replace H1 := H1.ext ex
              replace H2 := H2.ext ex
              replace H3 := H3.ext ex
              replace H4 := H4.ext ex
              replace H8 := H8.ext ex
              replace H9 := H9.ext ex
              have H10 := R10.bs
              refine wl_y (y_move rfl) rfl ?_
              refine wl_y (y_extract rfl rfl) rfl ?_
              refine wl_y (y_extract rfl rfl) rfl ?_
              refine wl_y (y_assign rfl) rfl ?_
              refine wl_y (y_assign rfl) rfl ?_
              refine wl_nil ?_
              refine wq_then_norm (hK17 ?_)
              refine wc_seq ?_; intro K18 hK18
              refine wc_region ?_
              refine wl_y (y_move rfl) rfl ?_
              refine wl_y (y_conv rfl Try.underlying27 Try.underlying3 (i64_ok (by omega) (by omega))) rfl ?_
              refine wl_y (Y.as (y_eql rfl rfl) (congrArg Value.bool (decide_eq_true (by omega)))) rfl ?_
              refine wl_y (y_move rfl) rfl ?_
              refine wl_gy 105 rfl rfl (y_move rfl) rfl ?_
              refine wl_y (y_pickt rfl rfl) rfl ?_
              refine wl_y (y_move rfl) rfl ?_
              refine wl_gy 108 rfl rfl (y_move rfl) rfl ?_
              refine wl_gy 108 rfl rfl (y_move rfl) rfl ?_
              refine wl_gcall 108 rfl rfl Try.func13 rfl rfl rfl (sameE_any A1 A4 k1 k4 c1 c4 _ _ _ H1 H4 (by omega) (by omega)) rfl ?_
              rintro e w11 ⟨rfl, ex⟩
              refine ⟨_, rfl, ?_⟩
              replace HA := HA.ext ex
              replace HB := HB.ext ex
              replace HC := HC.ext ex
              replace HD := HD.ext ex
              replace HM := HM.ext ex
              replace E := E.ext ex
              replace H1 := H1.ext ex
              replace H2 := H2.ext ex
              replace H3 := H3.ext ex
              replace H4 := H4.ext ex
              replace H8 := H8.ext ex
              replace H9 := H9.ext ex
              replace H10 := H10.ext ex
              rw [decide_eq_true rfl]
              refine wl_y (y_pickt rfl rfl) rfl ?_
              refine wl_y (y_move rfl) rfl ?_
              refine wl_gy 113 rfl rfl (y_move rfl) rfl ?_
              refine wl_gy 113 rfl rfl (y_move rfl) rfl ?_
              refine wl_gcall 113 rfl rfl Try.func13 rfl rfl rfl (sameE_any A2 A10 k2 (z + 16) c2 c10 _ _ _ H2 H10 (by omega) (by omega)) rfl ?_
              rintro e w12 ⟨rfl, ex⟩
              refine ⟨_, rfl, ?_⟩
              replace HA := HA.ext ex
              replace HB := HB.ext ex
              replace HC := HC.ext ex
              replace HD := HD.ext ex
              replace HM := HM.ext ex
              replace E := E.ext ex
              replace H1 := H1.ext ex
              replace H2 := H2.ext ex
              replace H3 := H3.ext ex
              replace H4 := H4.ext ex
              replace H8 := H8.ext ex
              replace H9 := H9.ext ex
              replace H10 := H10.ext ex
              rw [decide_eq_true rfl]
              refine wl_y (y_pickt rfl rfl) rfl ?_
              refine wl_y (y_assign rfl) rfl ?_
              refine wl_nil ?_
              refine wq_then_norm (hK18 ?_)
              refine wc_ret ?_
              refine hret rfl ?_
              exact ⟨rfl, E⟩
theorem hpkeLabels_law (A : Option Addr) (n c : Nat) (xs : List UInt8) (B : Option Addr) (m d : Nat) (ys : List UInt8) (lb : ByteArray) (C : Option Addr) (k q : Nat) (cs : List UInt8) (D : Option Addr) (z v : Nat) (ts : List UInt8) (w : World)
    (HA : Bs w A n xs) (_hn : n ≤ maxLen) (HB : Bs w B m ys) (_hm : m ≤ maxLen) (_hlb : lb.size ≤ maxLen) (HC : Bs w C k cs) (_hk : k ≤ maxLen) (HD : Bs w D z ts) (_hz : z ≤ maxLen) :
    Calls Try.prog 7 #[.slice A n c, .slice B m d, .string lb, .slice C k q, .slice D z v] w fun e w' => e = .returned (.bool true) ∧ Below w.heap.size w w' := by
  have E := Ext.refl w
  refine vc_enter1 113 Try.func7 rfl rfl rfl rfl ?_
  intro Q hret
  refine wc_seq ?_; intro K1 hK1
  refine wc_region ?_
  refine wl_y (y_assign rfl) rfl ?_
  refine wl_nil ?_
  refine wq_then_norm (hK1 ?_)
  refine wc_seq ?_; intro K2 hK2
  refine wc_seq ?_; intro K3 hK3
  refine wc_region ?_
  refine wl_call Try.func9 rfl rfl rfl (alive13_any _) rfl ?_
  rintro e w1 ⟨rfl, ex⟩
  refine ⟨_, rfl, ?_⟩
  replace HA := HA.ext ex
  replace HB := HB.ext ex
  replace HC := HC.ext ex
  replace HD := HD.ext ex
  replace E := E.ext ex
  refine wl_y (y_not rfl) rfl ?_
  refine wl_nil ?_
  refine wq_then_norm (hK3 ?_)
  refine wc_false rfl rfl ?_
  refine wc_skip ?_
  refine wq_then_norm (hK2 ?_)
  refine wc_seq ?_; intro K4 hK4
  refine wc_seq ?_; intro K5 hK5
  refine wc_region ?_
  refine wl_y (y_move rfl) rfl ?_
  refine wl_y (y_len_slice rfl Try.underlying22) rfl ?_
  refine wl_yask (y_gtr rfl rfl) rfl (fun q0 => ?_) (fun q0 => ?_)
  · skip
    refine wl_y (y_move rfl) rfl ?_
    refine wl_gno 27 rfl rfl rfl rfl ?_
    refine wl_gno 27 rfl rfl rfl rfl ?_
    refine wl_gno 27 rfl rfl rfl rfl ?_
    refine wl_y (y_pickt rfl rfl) rfl ?_
    refine wl_y (y_move rfl) rfl ?_
    refine wl_gno 32 rfl rfl rfl rfl ?_
    refine wl_gno 32 rfl rfl rfl rfl ?_
    refine wl_gno 32 rfl rfl rfl rfl ?_
    refine wl_y (y_pickt rfl rfl) rfl ?_
    refine wl_y (y_move rfl) rfl ?_
    refine wl_gno 37 rfl rfl rfl rfl ?_
    refine wl_gno 37 rfl rfl rfl rfl ?_
    refine wl_gno 37 rfl rfl rfl rfl ?_
    refine wl_y (y_pickt rfl rfl) rfl ?_
    refine wl_y (y_move rfl) rfl ?_
    refine wl_gno 42 rfl rfl rfl rfl ?_
    refine wl_gno 42 rfl rfl rfl rfl ?_
    refine wl_gno 42 rfl rfl rfl rfl ?_
    refine wl_y (y_pickt rfl rfl) rfl ?_
    refine wl_nil ?_
    refine wq_then_norm (hK5 ?_)
    refine wc_true rfl rfl ?_
    refine wc_seq ?_; intro K6 hK6
    refine wc_region ?_
    refine wl_y (y_assign rfl) rfl ?_
    refine wl_nil ?_
    refine wq_then_norm (hK6 ?_)
    refine wc_ret ?_
    refine wq_then_ret ?_
    refine hret rfl ?_
    exact ⟨rfl, E⟩
  · skip
    refine wl_y (y_move rfl) rfl ?_
    refine wl_gy 27 rfl rfl (y_move rfl) rfl ?_
    refine wl_gy 27 rfl rfl (y_len_slice rfl Try.underlying22) rfl ?_
    refine wl_gyask 27 rfl rfl (y_gtr rfl rfl) rfl (fun q1 => ?_) (fun q1 => ?_)
    · skip
      refine wl_y (y_pickf rfl rfl) rfl ?_
      refine wl_y (y_move rfl) rfl ?_
      refine wl_gno 32 rfl rfl rfl rfl ?_
      refine wl_gno 32 rfl rfl rfl rfl ?_
      refine wl_gno 32 rfl rfl rfl rfl ?_
      refine wl_y (y_pickt rfl rfl) rfl ?_
      refine wl_y (y_move rfl) rfl ?_
      refine wl_gno 37 rfl rfl rfl rfl ?_
      refine wl_gno 37 rfl rfl rfl rfl ?_
      refine wl_gno 37 rfl rfl rfl rfl ?_
      refine wl_y (y_pickt rfl rfl) rfl ?_
      refine wl_y (y_move rfl) rfl ?_
      refine wl_gno 42 rfl rfl rfl rfl ?_
      refine wl_gno 42 rfl rfl rfl rfl ?_
      refine wl_gno 42 rfl rfl rfl rfl ?_
      refine wl_y (y_pickt rfl rfl) rfl ?_
      refine wl_nil ?_
      refine wq_then_norm (hK5 ?_)
      refine wc_true rfl rfl ?_
      refine wc_seq ?_; intro K7 hK7
      refine wc_region ?_
      refine wl_y (y_assign rfl) rfl ?_
      refine wl_nil ?_
      refine wq_then_norm (hK7 ?_)
      refine wc_ret ?_
      refine wq_then_ret ?_
      refine hret rfl ?_
      exact ⟨rfl, E⟩
    · skip
      refine wl_y (y_pickf rfl rfl) rfl ?_
      refine wl_y (y_move rfl) rfl ?_
      refine wl_gy 32 rfl rfl (y_move rfl) rfl ?_
      refine wl_gy 32 rfl rfl (y_len_str rfl Try.underlying9) rfl ?_
      refine wl_gyask 32 rfl rfl (y_gtr rfl rfl) rfl (fun q2 => ?_) (fun q2 => ?_)
      · skip
        refine wl_y (y_pickf rfl rfl) rfl ?_
        refine wl_y (y_move rfl) rfl ?_
        refine wl_gno 37 rfl rfl rfl rfl ?_
        refine wl_gno 37 rfl rfl rfl rfl ?_
        refine wl_gno 37 rfl rfl rfl rfl ?_
        refine wl_y (y_pickt rfl rfl) rfl ?_
        refine wl_y (y_move rfl) rfl ?_
        refine wl_gno 42 rfl rfl rfl rfl ?_
        refine wl_gno 42 rfl rfl rfl rfl ?_
        refine wl_gno 42 rfl rfl rfl rfl ?_
        refine wl_y (y_pickt rfl rfl) rfl ?_
        refine wl_nil ?_
        refine wq_then_norm (hK5 ?_)
        refine wc_true rfl rfl ?_
        refine wc_seq ?_; intro K8 hK8
        refine wc_region ?_
        refine wl_y (y_assign rfl) rfl ?_
        refine wl_nil ?_
        refine wq_then_norm (hK8 ?_)
        refine wc_ret ?_
        refine wq_then_ret ?_
        refine hret rfl ?_
        exact ⟨rfl, E⟩
      · skip
        refine wl_y (y_pickf rfl rfl) rfl ?_
        refine wl_y (y_move rfl) rfl ?_
        refine wl_gy 37 rfl rfl (y_move rfl) rfl ?_
        refine wl_gy 37 rfl rfl (y_len_slice rfl Try.underlying22) rfl ?_
        refine wl_gyask 37 rfl rfl (y_gtr rfl rfl) rfl (fun q3 => ?_) (fun q3 => ?_)
        · skip
          refine wl_y (y_pickf rfl rfl) rfl ?_
          refine wl_y (y_move rfl) rfl ?_
          refine wl_gno 42 rfl rfl rfl rfl ?_
          refine wl_gno 42 rfl rfl rfl rfl ?_
          refine wl_gno 42 rfl rfl rfl rfl ?_
          refine wl_y (y_pickt rfl rfl) rfl ?_
          refine wl_nil ?_
          refine wq_then_norm (hK5 ?_)
          refine wc_true rfl rfl ?_
          refine wc_seq ?_; intro K9 hK9
          refine wc_region ?_
          refine wl_y (y_assign rfl) rfl ?_
          refine wl_nil ?_
          refine wq_then_norm (hK9 ?_)
          refine wc_ret ?_
          refine wq_then_ret ?_
          refine hret rfl ?_
          exact ⟨rfl, E⟩
        · skip
          refine wl_y (y_pickf rfl rfl) rfl ?_
          refine wl_y (y_move rfl) rfl ?_
          refine wl_gy 42 rfl rfl (y_move rfl) rfl ?_
          refine wl_gy 42 rfl rfl (y_len_slice rfl Try.underlying22) rfl ?_
          refine wl_gyask 42 rfl rfl (y_gtr rfl rfl) rfl (fun q4 => ?_) (fun q4 => ?_)
          · skip
            refine wl_y (y_pickf rfl rfl) rfl ?_
            refine wl_nil ?_
            refine wq_then_norm (hK5 ?_)
            refine wc_true rfl rfl ?_
            refine wc_seq ?_; intro K10 hK10
            refine wc_region ?_
            refine wl_y (y_assign rfl) rfl ?_
            refine wl_nil ?_
            refine wq_then_norm (hK10 ?_)
            refine wc_ret ?_
            refine wq_then_ret ?_
            refine hret rfl ?_
            exact ⟨rfl, E⟩
          · skip
            refine wl_y (y_pickf rfl rfl) rfl ?_
            refine wl_nil ?_
            refine wq_then_norm (hK5 ?_)
            refine wc_false rfl rfl ?_
            refine wc_skip ?_
            refine wq_then_norm (hK4 ?_)
            refine wc_seq ?_; intro K11 hK11
            refine wc_region ?_
            refine wl_y (y_move rfl) rfl ?_
            refine wl_y (y_move rfl) rfl ?_
            refine wl_call Try.func23 rfl rfl rfl (rinfo_any lb C k q cs _ (by omega) HC (by omega)) rfl ?_
            rintro e w2 ⟨A1, k1, c1, rfl, R1, hk1, ex⟩
            refine ⟨_, rfl, ?_⟩
            replace HA := HA.ext ex
            replace HB := HB.ext ex
            replace HC := HC.ext ex
            replace HD := HD.ext ex
            replace E := E.ext ex
            have H1 := R1.bs
            refine wl_y (y_assign rfl) rfl ?_
            refine wl_nil ?_
            refine wq_then_norm (hK11 ?_)
            refine wc_seq ?_; intro K12 hK12
            refine wc_region ?_
            refine wl_y (y_move rfl) rfl ?_
            refine wl_y (y_move rfl) rfl ?_
            refine wl_y (y_move rfl) rfl ?_
            refine wl_y (y_move rfl) rfl ?_
            refine wl_y (y_move rfl) rfl ?_
            refine wl_call Try.func24 rfl rfl rfl (hseall_any A B C D lb n c m d k q z v xs ys cs ts _ (by omega) HA (by omega) HB (by omega) HC (by omega) HD (by omega)) rfl ?_
            rintro e w3 ⟨A2, k2, c2, A3, k3, c3, rfl, H2, H3, hk2, hk3, hc3, ex⟩
            refine ⟨_, rfl, ?_⟩
            replace HA := HA.ext ex
            replace HB := HB.ext ex
            replace HC := HC.ext ex
            replace HD := HD.ext ex
            replace E := E.ext ex
            replace H1 := H1.ext ex
            have l2 := H2.1; have l3 := H3.1
            refine wl_y (y_move rfl) rfl ?_
            refine wl_y (y_extract rfl rfl) rfl ?_
            refine wl_y (y_extract rfl rfl) rfl ?_
            refine wl_y (y_extract rfl rfl) rfl ?_
            refine wl_y (y_assign rfl) rfl ?_
            refine wl_y (y_assign rfl) rfl ?_
            refine wl_y (y_assign rfl) rfl ?_
            refine wl_nil ?_
            refine wq_then_norm (hK12 ?_)
            refine wc_seq ?_; intro K13 hK13
            refine wc_region ?_
            refine wl_y (y_move rfl) rfl ?_
            refine wl_y (y_move rfl) rfl ?_
            refine wl_y (y_move rfl) rfl ?_
            refine wl_y (y_move rfl) rfl ?_
            refine wl_call Try.func21 rfl rfl rfl (hseal_any A B A1 D none n c m d k1 c1 z v 0 0 xs ys _ ts [] _ HA (by omega) HB (by omega) H1 (by omega) HD (by omega) (Bs.nil _ _) (by omega) (by omega)) rfl ?_
            rintro e w4 ⟨A4, k4, c4, A5, k5, c5, rfl, H4, H5, hk4, hk5, hc5, ex⟩
            refine ⟨_, rfl, ?_⟩
            replace HA := HA.ext ex
            replace HB := HB.ext ex
            replace HC := HC.ext ex
            replace HD := HD.ext ex
            replace E := E.ext ex
            replace H1 := H1.ext ex
            replace H2 := H2.ext ex
            replace H3 := H3.ext ex
            have l4 := H4.1; have l5 := H5.1
            refine wl_y (y_move rfl) rfl ?_
            refine wl_y (y_extract rfl rfl) rfl ?_
            refine wl_y (y_extract rfl rfl) rfl ?_
            refine wl_y (y_extract rfl rfl) rfl ?_
            refine wl_y (y_assign rfl) rfl ?_
            refine wl_y (y_assign rfl) rfl ?_
            refine wl_y (y_assign rfl) rfl ?_
            refine wl_nil ?_
            refine wq_then_norm (hK13 ?_)
            refine wc_seq ?_; intro K14 hK14
            refine wc_region ?_
            refine wl_y (y_move rfl) rfl ?_
            refine wl_y (y_move rfl) rfl ?_
            refine wl_y (y_move rfl) rfl ?_
            refine wl_y (y_move rfl) rfl ?_
            refine wl_y (y_move rfl) rfl ?_
            refine wl_call Try.func25 rfl rfl rfl (hopenl_any B A2 C A3 lb m d k2 c2 k q k3 c3 ys _ cs _ _ (by omega) HB (by omega) H2 (by omega) HC (by omega) H3 (by omega) hc3) rfl ?_
            rintro e w5 ⟨A6, k6, c6, rfl, H6, hk6, ex⟩
            refine ⟨_, rfl, ?_⟩
            replace HA := HA.ext ex
            replace HB := HB.ext ex
            replace HC := HC.ext ex
            replace HD := HD.ext ex
            replace E := E.ext ex
            replace H1 := H1.ext ex
            replace H2 := H2.ext ex
            replace H3 := H3.ext ex
            replace H4 := H4.ext ex
            replace H5 := H5.ext ex
            have l6 := H6.1
            refine wl_y (y_move rfl) rfl ?_
            refine wl_y (y_extract rfl rfl) rfl ?_
            refine wl_y (y_extract rfl rfl) rfl ?_
            refine wl_y (y_assign rfl) rfl ?_
            refine wl_y (y_assign rfl) rfl ?_
            refine wl_nil ?_
            refine wq_then_norm (hK14 ?_)
            refine wc_seq ?_; intro K15 hK15
            refine wc_region ?_
            refine wl_y (y_move rfl) rfl ?_
            refine wl_y (y_move rfl) rfl ?_
            refine wl_y (y_move rfl) rfl ?_
            refine wl_y (y_move rfl) rfl ?_
            refine wl_call Try.func15 rfl rfl rfl (hopen_any B A4 A1 A5 none m d k4 c4 k1 c1 k5 c5 0 0 ys _ _ _ [] _ HB (by omega) H4 (by omega) H1 (by omega) H5 (by omega) hc5 (Bs.nil _ _) (by omega) (by omega)) rfl ?_
            rintro e w6 ⟨A7, k7, c7, rfl, H7, hk7, ex⟩
            refine ⟨_, rfl, ?_⟩
            replace HA := HA.ext ex
            replace HB := HB.ext ex
            replace HC := HC.ext ex
            replace HD := HD.ext ex
            replace E := E.ext ex
            replace H1 := H1.ext ex
            replace H2 := H2.ext ex
            replace H3 := H3.ext ex
            replace H4 := H4.ext ex
            replace H5 := H5.ext ex
            replace H6 := H6.ext ex
            have l7 := H7.1
            refine wl_y (y_move rfl) rfl ?_
            refine wl_y (y_extract rfl rfl) rfl ?_
            refine wl_y (y_extract rfl rfl) rfl ?_
            refine wl_y (y_assign rfl) rfl ?_
            refine wl_y (y_assign rfl) rfl ?_
            refine wl_nil ?_
            refine wq_then_norm (hK15 ?_)
            refine wc_seq ?_; intro K16 hK16
            refine wc_region ?_
            refine wl_y (y_move rfl) rfl ?_
            refine wl_y (y_conv rfl Try.underlying27 Try.underlying3 rfl) rfl ?_
            refine wl_y (y_move rfl) rfl ?_
            refine wl_y (y_conv rfl Try.underlying27 Try.underlying3 rfl) rfl ?_
            refine wl_y (Y.as (y_eql rfl rfl) (congrArg Value.bool (decide_eq_true rfl))) rfl ?_
            refine wl_y (y_move rfl) rfl ?_
            refine wl_gy 91 rfl rfl (y_move rfl) rfl ?_
            refine wl_gy 91 rfl rfl (y_move rfl) rfl ?_
            refine wl_gcall 91 rfl rfl Try.func13 rfl rfl rfl (sameE_any A2 A4 k2 k4 c2 c4 _ _ _ H2 H4 (by omega) (by omega)) rfl ?_
            rintro e w8 ⟨rfl, ex⟩
            refine ⟨_, rfl, ?_⟩
            replace HA := HA.ext ex
            replace HB := HB.ext ex
            replace HC := HC.ext ex
            replace HD := HD.ext ex
            replace E := E.ext ex
            replace H1 := H1.ext ex
            replace H2 := H2.ext ex
            replace H3 := H3.ext ex
            replace H4 := H4.ext ex
            replace H5 := H5.ext ex
            replace H6 := H6.ext ex
            replace H7 := H7.ext ex
            rw [decide_eq_true rfl]
            refine wl_y (y_pickt rfl rfl) rfl ?_
            refine wl_y (y_move rfl) rfl ?_
            refine wl_gy 96 rfl rfl (y_move rfl) rfl ?_
            refine wl_gy 96 rfl rfl (y_move rfl) rfl ?_
            refine wl_gcall 96 rfl rfl Try.func13 rfl rfl rfl (sameE_any A3 A5 k3 k5 c3 c5 _ _ _ H3 H5 (by omega) (by omega)) rfl ?_
            rintro e w9 ⟨rfl, ex⟩
            refine ⟨_, rfl, ?_⟩
            replace HA := HA.ext ex
            replace HB := HB.ext ex
            replace HC := HC.ext ex
            replace HD := HD.ext ex
            replace E := E.ext ex
            replace H1 := H1.ext ex
            replace H2 := H2.ext ex
            replace H3 := H3.ext ex
            replace H4 := H4.ext ex
            replace H5 := H5.ext ex
            replace H6 := H6.ext ex
            replace H7 := H7.ext ex
            rw [decide_eq_true rfl]
            refine wl_y (y_pickt rfl rfl) rfl ?_
            refine wl_y (y_move rfl) rfl ?_
            refine wl_gy 101 rfl rfl (y_move rfl) rfl ?_
            refine wl_gy 101 rfl rfl (y_conv rfl Try.underlying27 Try.underlying3 rfl) rfl ?_
            refine wl_gy 101 rfl rfl (y_move rfl) rfl ?_
            refine wl_gy 101 rfl rfl (y_conv rfl Try.underlying27 Try.underlying3 rfl) rfl ?_
            refine wl_gy 101 rfl rfl (Y.as (y_eql rfl rfl) (congrArg Value.bool (decide_eq_true rfl))) rfl ?_
            refine wl_y (y_pickt rfl rfl) rfl ?_
            refine wl_y (y_move rfl) rfl ?_
            refine wl_gy 108 rfl rfl (y_move rfl) rfl ?_
            refine wl_gy 108 rfl rfl (y_move rfl) rfl ?_
            refine wl_gcall 108 rfl rfl Try.func13 rfl rfl rfl (sameE_any A6 A7 k6 k7 c6 c7 _ _ _ H6 H7 (by omega) (by omega)) rfl ?_
            rintro e w10 ⟨rfl, ex⟩
            refine ⟨_, rfl, ?_⟩
            replace HA := HA.ext ex
            replace HB := HB.ext ex
            replace HC := HC.ext ex
            replace HD := HD.ext ex
            replace E := E.ext ex
            replace H1 := H1.ext ex
            replace H2 := H2.ext ex
            replace H3 := H3.ext ex
            replace H4 := H4.ext ex
            replace H5 := H5.ext ex
            replace H6 := H6.ext ex
            replace H7 := H7.ext ex
            rw [decide_eq_true rfl]
            refine wl_y (y_pickt rfl rfl) rfl ?_
            refine wl_y (y_assign rfl) rfl ?_
            refine wl_nil ?_
            refine wq_then_norm (hK16 ?_)
            refine wc_ret ?_
            refine hret rfl ?_
            exact ⟨rfl, E⟩
end Go.Proofs.Ytjllhimhiekchaa
