/- The laws HpkePairs and HpkeWraps. No conditions: contracts of functions. -/
import Derived.Test.YtjllhimhiekchaaHkD
namespace Go.Proofs.Ytjllhimhiekchaa
open Go.RowKit
attribute [local irreducible] Y Ef WL WC WK WQ WM OpM WN WF OpN
open Hk
theorem rshared_any (A B C : Option Addr) (n c m d k q : Nat) (xs ys zs : List UInt8) (w : World) (HA : Bs w A n xs) (hn : n ≤ 1000) (HB : Bs w B m ys) (hm : m ≤ 1000) (HC : Bs w C k zs) (hk : k ≤ 1000) :
    Calls Try.prog 17 #[.slice A n c, .slice B m d, .slice C k q] w fun e w' => ∃ A' c', e = .returned (.slice A' 32 c') ∧ Bs w' A' 32 (shd xs ys zs) ∧ Ext w w' := by
  have E := Ext.refl w
  refine vc_enter1 15 Try.func17 rfl rfl rfl rfl ?_
  intro Q hret
  refine wc_seq ?_; intro K1 hK1
  refine wc_region ?_
  refine wl_y (y_assign rfl) rfl ?_
  refine wl_nil ?_
  refine wq_then_norm (hK1 ?_)
  refine wc_seq ?_; intro K2 hK2
  refine wc_region ?_
  refine wl_call Try.func29 rfl rfl rfl (rpairs_any _) rfl ?_
  rintro e w1 ⟨g1, rfl, H1, ex⟩
  refine ⟨_, rfl, ?_⟩
  replace HA := HA.ext ex
  replace HB := HB.ext ex
  replace HC := HC.ext ex
  replace E := E.ext ex
  skip
  refine wl_call Try.func29 rfl rfl rfl (rpairs_any _) rfl ?_
  rintro e w2 ⟨g2, rfl, H2, ex⟩
  refine ⟨_, rfl, ?_⟩
  replace HA := HA.ext ex
  replace HB := HB.ext ex
  replace HC := HC.ext ex
  replace E := E.ext ex
  replace H1 := H1.ext ex
  skip
  refine wl_y (y_move rfl) rfl ?_
  refine wl_call Try.func30 rfl rfl rfl (rextract_any _ none A 5 5 0 0 n c _ [] xs eae _ H2 (by omega) (Bs.nil _ _) (by omega) HA (by omega) (by decide)) rfl ?_
  rintro e w3 ⟨A3, c3, rfl, H3, ex⟩
  refine ⟨_, rfl, ?_⟩
  replace HA := HA.ext ex
  replace HB := HB.ext ex
  replace HC := HC.ext ex
  replace E := E.ext ex
  replace H1 := H1.ext ex
  replace H2 := H2.ext ex
  skip
  refine wl_y (y_move rfl) rfl ?_
  refine wl_y (y_move rfl) rfl ?_
  refine wl_call Try.func38 rfl rfl rfl (hjoin_any B C m d k q ys zs _ HB (by omega) HC (by omega)) rfl ?_
  rintro e w4 ⟨A4, k4, c4, rfl, R4, hk4, ex⟩
  refine ⟨_, rfl, ?_⟩
  replace HA := HA.ext ex
  replace HB := HB.ext ex
  replace HC := HC.ext ex
  replace E := E.ext ex
  replace H1 := H1.ext ex
  replace H2 := H2.ext ex
  replace H3 := H3.ext ex
  have H4 := R4.bs
  refine wl_call Try.func28 rfl rfl rfl (rexpand_any _ A3 A4 5 5 32 c3 k4 c4 32 _ _ _ shs _ H1 (by omega) H3 (by omega) H4 (by omega) (by decide) (by omega)) rfl ?_
  rintro e w5 ⟨A5, c5, rfl, H5, ex⟩
  refine ⟨_, rfl, ?_⟩
  replace HA := HA.ext ex
  replace HB := HB.ext ex
  replace HC := HC.ext ex
  replace E := E.ext ex
  replace H1 := H1.ext ex
  replace H2 := H2.ext ex
  replace H3 := H3.ext ex
  replace H4 := H4.ext ex
  skip
  refine wl_y (y_assign rfl) rfl ?_
  refine wl_nil ?_
  refine wq_then_norm (hK2 ?_)
  refine wc_ret ?_
  refine hret rfl ?_
  exact ⟨A5, c5, rfl, H5, E⟩
theorem hpkePairs_law (A : Option Addr) (n c : Nat) (xs : List UInt8) (w : World) (HA : Bs w A n xs) (_hn : n ≤ maxLen) :
    Calls Try.prog 3 #[.slice A n c] w fun e w' => e = .returned (.bool true) ∧ Below w.heap.size w w' := by
  have E := Ext.refl w
  have hb := dhb_ok (priv_length xs)
  refine vc_enter1 38 Try.func3 rfl rfl rfl rfl ?_
  intro Q hret
  refine wc_seq ?_; intro K1 hK1
  refine wc_region ?_
  refine wl_y (y_assign rfl) rfl ?_
  refine wl_nil ?_
  refine wq_then_norm (hK1 ?_)
  refine wc_seq ?_; intro K2 hK2
  refine wc_seq ?_; intro K3 hK3
  refine wc_region ?_
  refine wl_call Try.func9 rfl rfl rfl (alive13_any _) rfl ?_
  rintro e w1 ⟨rfl, ex⟩
  refine ⟨_, rfl, ?_⟩
  replace HA := HA.ext ex
  replace E := E.ext ex
  refine wl_y (y_not rfl) rfl ?_
  refine wl_nil ?_
  refine wq_then_norm (hK3 ?_)
  refine wc_false rfl rfl ?_
  refine wc_skip ?_
  refine wq_then_norm (hK2 ?_)
  refine wc_seq ?_; intro K4 hK4
  refine wc_seq ?_; intro K5 hK5
  refine wc_region ?_
  refine wl_y (y_move rfl) rfl ?_
  refine wl_y (y_len_slice rfl Try.underlying22) rfl ?_
  refine wl_y (y_gtr rfl rfl) rfl ?_
  refine wl_nil ?_
  refine wq_then_norm (hK5 ?_)
  refine wc_dec rfl (fun hc2 => ?_) (fun hc2 => ?_)
  · skip
    refine wc_seq ?_; intro K6 hK6
    refine wc_region ?_
    refine wl_y (y_assign rfl) rfl ?_
    refine wl_nil ?_
    refine wq_then_norm (hK6 ?_)
    refine wc_ret ?_
    refine wq_then_ret ?_
    refine hret rfl ?_
    exact ⟨rfl, E⟩
  · skip
    refine wc_skip ?_
    refine wq_then_norm (hK4 ?_)
    refine wc_seq ?_; intro K7 hK7
    refine wc_region ?_
    refine wl_y (y_move rfl) rfl ?_
    refine wl_call Try.func10 rfl rfl rfl (hpair_any A n c xs _ HA (by omega)) rfl ?_
    rintro e w2 ⟨A2, c2, A3, c3, rfl, H2, H3, hc2, ex⟩
    refine ⟨_, rfl, ?_⟩
    replace HA := HA.ext ex
    replace E := E.ext ex
    skip
    refine wl_y (y_move rfl) rfl ?_
    refine wl_y (y_extract rfl rfl) rfl ?_
    refine wl_y (y_extract rfl rfl) rfl ?_
    refine wl_y (y_assign rfl) rfl ?_
    refine wl_y (y_assign rfl) rfl ?_
    refine wl_nil ?_
    refine wq_then_norm (hK7 ?_)
    refine wc_seq ?_; intro K8 hK8
    refine wc_region ?_
    refine wl_y (y_move rfl) rfl ?_
    refine wl_call Try.func11 rfl rfl rfl (rprivate_any A n c xs _ HA (by omega)) rfl ?_
    rintro e w3 ⟨A4, c4, rfl, H4, ex⟩
    refine ⟨_, rfl, ?_⟩
    replace HA := HA.ext ex
    replace E := E.ext ex
    replace H2 := H2.ext ex
    replace H3 := H3.ext ex
    skip
    refine wl_y (y_assign rfl) rfl ?_
    refine wl_nil ?_
    refine wq_then_norm (hK8 ?_)
    refine wc_seq ?_; intro K9 hK9
    refine wc_region ?_
    refine wl_y (y_move rfl) rfl ?_
    refine wl_call Try.func12 rfl rfl rfl (dhbase_any A4 32 c4 _ _ H4) rfl ?_
    rintro e w4 ⟨A5, k5, c5, rfl, H5, _, ex⟩
    refine ⟨_, rfl, ?_⟩
    replace HA := HA.ext ex
    replace E := E.ext ex
    replace H2 := H2.ext ex
    replace H3 := H3.ext ex
    replace H4 := H4.ext ex
    rw [hb.2]; have hk5 : k5 = 32 := by rw [← H5.1]; exact hb.1
    refine wl_y (y_move rfl) rfl ?_
    refine wl_y (y_extract rfl rfl) rfl ?_
    refine wl_y (y_extract rfl rfl) rfl ?_
    refine wl_y (y_assign rfl) rfl ?_
    refine wl_y (y_assign rfl) rfl ?_
    refine wl_nil ?_
    refine wq_then_norm (hK9 ?_)
    refine wc_seq ?_; intro K10 hK10
    refine wc_region ?_
    refine wl_y (y_move rfl) rfl ?_
    refine wl_y (y_conv rfl Try.underlying27 Try.underlying3 (i64_ok (by omega) (by omega))) rfl ?_
    refine wl_y (Y.as (y_eql rfl rfl) (congrArg Value.bool (decide_eq_true rfl))) rfl ?_
    refine wl_y (y_move rfl) rfl ?_
    refine wl_gy 28 rfl rfl (y_move rfl) rfl ?_
    refine wl_gy 28 rfl rfl (y_move rfl) rfl ?_
    refine wl_gcall 28 rfl rfl Try.func13 rfl rfl rfl (sameE_any A2 A4 32 32 c2 c4 _ _ _ H2 H4 (by omega) (by omega)) rfl ?_
    rintro e w5 ⟨rfl, ex⟩
    refine ⟨_, rfl, ?_⟩
    replace HA := HA.ext ex
    replace E := E.ext ex
    replace H2 := H2.ext ex
    replace H3 := H3.ext ex
    replace H4 := H4.ext ex
    replace H5 := H5.ext ex
    rw [decide_eq_true rfl]
    refine wl_y (y_pickt rfl rfl) rfl ?_
    refine wl_y (y_move rfl) rfl ?_
    refine wl_gy 33 rfl rfl (y_move rfl) rfl ?_
    refine wl_gy 33 rfl rfl (y_move rfl) rfl ?_
    refine wl_gcall 33 rfl rfl Try.func13 rfl rfl rfl (sameE_any A3 A5 32 k5 c3 c5 _ _ _ H3 H5 (by omega) (by omega)) rfl ?_
    rintro e w6 ⟨rfl, ex⟩
    refine ⟨_, rfl, ?_⟩
    replace HA := HA.ext ex
    replace E := E.ext ex
    replace H2 := H2.ext ex
    replace H3 := H3.ext ex
    replace H4 := H4.ext ex
    replace H5 := H5.ext ex
    rw [decide_eq_true (show pub xs = (dhM (priv xs) (Fp.le 32 9)).1 from rfl)]
    refine wl_y (y_pickt rfl rfl) rfl ?_
    refine wl_y (y_assign rfl) rfl ?_
    refine wl_nil ?_
    refine wq_then_norm (hK10 ?_)
    refine wc_ret ?_
    refine hret rfl ?_
    exact ⟨rfl, E⟩
theorem wrp_bad {xs ys : List UInt8} (h : xs.length ≠ 32) : wrp xs ys = ([], [], 3) := by
  have e1 : dhM (priv ys) xs = ([], 3) := by rw [dhM, if_neg (by rw [priv_length]; omega), if_pos h]
  have e2 : dhS (priv ys) xs = ([], 3) := by rw [dhS, e1, if_pos (show (3 : Nat) ≠ 0 by omega)]
  rw [wrp, e2, if_pos (show (3 : Nat) ≠ 0 by omega)]
theorem dhS_nine {xs ys : List UInt8} (hx : xs.length = 32) (hy : ys.length = 32) (h : (dhS xs ys).2 ≠ 0) : dhS xs ys = ([], 9) := by
  have e1 : (dhM xs ys).2 = 0 := by rw [dhM, if_neg (by omega), if_neg (by omega)]
  unfold dhS at h ⊢
  rw [if_neg (by omega)] at h ⊢
  split
  · rename_i h1; rw [if_pos h1] at h; exact absurd rfl h
  · rfl
theorem hpkeWraps_law (A : Option Addr) (n c : Nat) (xs : List UInt8) (B : Option Addr) (m d : Nat) (ys : List UInt8) (w : World) (HA : Bs w A n xs) (_hn : n ≤ maxLen) (HB : Bs w B m ys) (_hm : m ≤ maxLen) :
    Calls Try.prog 5 #[.slice A n c, .slice B m d] w fun e w' => e = .returned (.bool true) ∧ Below w.heap.size w w' := by
  have E := Ext.refl w
  have hxl := HA.1; have hyl := HB.1
  have hb := dhb_ok (priv_length ys)
  refine vc_enter1 92 Try.func5 rfl rfl rfl rfl ?_
  intro Q hret
  refine wc_seq ?_; intro K1 hK1
  refine wc_region ?_
  refine wl_y (y_assign rfl) rfl ?_
  refine wl_nil ?_
  refine wq_then_norm (hK1 ?_)
  refine wc_seq ?_; intro K2 hK2
  refine wc_seq ?_; intro K3 hK3
  refine wc_region ?_
  refine wl_call Try.func9 rfl rfl rfl (alive13_any _) rfl ?_
  rintro e w1 ⟨rfl, ex⟩
  refine ⟨_, rfl, ?_⟩
  replace HA := HA.ext ex
  replace HB := HB.ext ex
  replace E := E.ext ex
  refine wl_y (y_not rfl) rfl ?_
  refine wl_nil ?_
  refine wq_then_norm (hK3 ?_)
  refine wc_false rfl rfl ?_
  refine wc_skip ?_
  refine wq_then_norm (hK2 ?_)
  refine wc_seq ?_; intro K4 hK4
  refine wc_seq ?_; intro K5 hK5
  refine wc_region ?_
  refine wl_y (y_move rfl) rfl ?_
  refine wl_y (y_len_slice rfl Try.underlying22) rfl ?_
  refine wl_yask (y_gtr rfl rfl) rfl (fun q0 => ?_) (fun q0 => ?_)
  · skip
    refine wl_y (y_move rfl) rfl ?_
    refine wl_gno 18 rfl rfl rfl rfl ?_
    refine wl_gno 18 rfl rfl rfl rfl ?_
    refine wl_gno 18 rfl rfl rfl rfl ?_
    refine wl_y (y_pickt rfl rfl) rfl ?_
    refine wl_nil ?_
    refine wq_then_norm (hK5 ?_)
    refine wc_true rfl rfl ?_
    refine wc_seq ?_; intro K6 hK6
    refine wc_region ?_
    refine wl_y (y_assign rfl) rfl ?_
    refine wl_nil ?_
    refine wq_then_norm (hK6 ?_)
    refine wc_ret ?_
    refine wq_then_ret ?_
    refine hret rfl ?_
    exact ⟨rfl, E⟩
  · skip
    refine wl_y (y_move rfl) rfl ?_
    refine wl_gy 18 rfl rfl (y_move rfl) rfl ?_
    refine wl_gy 18 rfl rfl (y_len_slice rfl Try.underlying22) rfl ?_
    refine wl_gyask 18 rfl rfl (y_gtr rfl rfl) rfl (fun q1 => ?_) (fun q1 => ?_)
    · skip
      refine wl_y (y_pickf rfl rfl) rfl ?_
      refine wl_nil ?_
      refine wq_then_norm (hK5 ?_)
      refine wc_true rfl rfl ?_
      refine wc_seq ?_; intro K7 hK7
      refine wc_region ?_
      refine wl_y (y_assign rfl) rfl ?_
      refine wl_nil ?_
      refine wq_then_norm (hK7 ?_)
      refine wc_ret ?_
      refine wq_then_ret ?_
      refine hret rfl ?_
      exact ⟨rfl, E⟩
    · skip
      refine wl_y (y_pickf rfl rfl) rfl ?_
      refine wl_nil ?_
      refine wq_then_norm (hK5 ?_)
      refine wc_false rfl rfl ?_
      refine wc_skip ?_
      refine wq_then_norm (hK4 ?_)
      refine wc_seq ?_; intro K8 hK8
      refine wc_region ?_
      refine wl_y (y_move rfl) rfl ?_
      refine wl_y (y_move rfl) rfl ?_
      refine wl_call Try.func20 rfl rfl rfl (hwrap_any A B n c m d xs ys _ HA (by omega) HB (by omega)) rfl ?_
      rintro e w2 ⟨A1, k1, c1, A2, k2, c2, rfl, H1, H2, hk1, hk2, ex⟩
      refine ⟨_, rfl, ?_⟩
      replace HA := HA.ext ex
      replace HB := HB.ext ex
      replace E := E.ext ex
      have l1 := H1.1; have l2 := H2.1
      refine wl_y (y_move rfl) rfl ?_
      refine wl_y (y_extract rfl rfl) rfl ?_
      refine wl_y (y_extract rfl rfl) rfl ?_
      refine wl_y (y_extract rfl rfl) rfl ?_
      refine wl_y (y_assign rfl) rfl ?_
      refine wl_y (y_assign rfl) rfl ?_
      refine wl_y (y_assign rfl) rfl ?_
      refine wl_nil ?_
      refine wq_then_norm (hK8 ?_)
      refine wc_seq ?_; intro K9 hK9
      refine wc_seq ?_; intro K10 hK10
      refine wc_region ?_
      refine wl_y (y_move rfl) rfl ?_
      refine wl_y (y_len_slice rfl Try.underlying22) rfl ?_
      refine wl_y (y_neq rfl rfl) rfl ?_
      refine wl_nil ?_
      refine wq_then_norm (hK10 ?_)
      refine wc_dec rfl (fun hc3 => ?_) (fun hc3 => ?_)
      · skip
        refine wc_seq ?_; intro K11 hK11
        have e := wrp_bad (xs := xs) (ys := ys) (by omega)
        rw [e] at l1 l2
        have e2 : (wrp xs ys).2.2 = 3 := by rw [e]
        have z1 : k1 = 0 := l1.symm
        have z2 : k2 = 0 := l2.symm
        refine wc_region ?_
        refine wl_y (y_move rfl) rfl ?_
        refine wl_y (y_conv rfl Try.underlying27 Try.underlying3 (i64_ok (by omega) (by omega))) rfl ?_
        refine wl_y (Y.as (y_eql rfl rfl) (congrArg Value.bool (decide_eq_true (by omega)))) rfl ?_
        refine wl_y (y_move rfl) rfl ?_
        refine wl_gy 36 rfl rfl (y_move rfl) rfl ?_
        refine wl_gy 36 rfl rfl (y_len_slice rfl Try.underlying22) rfl ?_
        refine wl_gy 36 rfl rfl (y_move rfl) rfl ?_
        refine wl_gy 36 rfl rfl (y_len_slice rfl Try.underlying22) rfl ?_
        refine wl_gy 36 rfl rfl (y_add rfl rfl (i64_ok (by omega) (by omega))) rfl ?_
        refine wl_gy 36 rfl rfl (Y.as (y_eql rfl rfl) (congrArg Value.bool (decide_eq_true (by omega)))) rfl ?_
        refine wl_y (y_pickt rfl rfl) rfl ?_
        refine wl_y (y_assign rfl) rfl ?_
        refine wl_nil ?_
        refine wq_then_norm (hK11 ?_)
        refine wc_ret ?_
        refine wq_then_ret ?_
        refine hret rfl ?_
        exact ⟨rfl, E⟩
      · skip
        refine wc_skip ?_
        refine wq_then_norm (hK9 ?_)
        refine wc_seq ?_; intro K12 hK12
        refine wc_region ?_
        refine wl_y (y_move rfl) rfl ?_
        refine wl_call Try.func11 rfl rfl rfl (rprivate_any B m d ys _ HB (by omega)) rfl ?_
        rintro e w3 ⟨A3, c3, rfl, H3, ex⟩
        refine ⟨_, rfl, ?_⟩
        replace HA := HA.ext ex
        replace HB := HB.ext ex
        replace E := E.ext ex
        replace H1 := H1.ext ex
        replace H2 := H2.ext ex
        skip
        refine wl_y (y_assign rfl) rfl ?_
        refine wl_nil ?_
        refine wq_then_norm (hK12 ?_)
        refine wc_seq ?_; intro K13 hK13
        refine wc_region ?_
        refine wl_y (y_move rfl) rfl ?_
        refine wl_y (y_move rfl) rfl ?_
        refine wl_call Try.func16 rfl rfl rfl (dhshared_any A3 A 32 c3 n c (priv ys) xs _ H3 HA) rfl ?_
        rintro e w4 ⟨A4, k4, c4, rfl, H4, _, ex⟩
        refine ⟨_, rfl, ?_⟩
        replace HA := HA.ext ex
        replace HB := HB.ext ex
        replace E := E.ext ex
        replace H1 := H1.ext ex
        replace H2 := H2.ext ex
        replace H3 := H3.ext ex
        have hcode := dhS_code (priv ys) xs; have l4 := H4.1; have hl4 := dhS_len (xs := priv ys) (ys := xs)
        refine wl_y (y_move rfl) rfl ?_
        refine wl_y (y_extract rfl rfl) rfl ?_
        refine wl_y (y_extract rfl rfl) rfl ?_
        refine wl_y (y_assign rfl) rfl ?_
        refine wl_y (y_assign rfl) rfl ?_
        refine wl_nil ?_
        refine wq_then_norm (hK13 ?_)
        refine wc_seq ?_; intro K14 hK14
        refine wc_seq ?_; intro K15 hK15
        refine wc_region ?_
        refine wl_y (y_move rfl) rfl ?_
        refine wl_y (y_conv rfl Try.underlying27 Try.underlying3 (i64_ok (by omega) (by omega))) rfl ?_
        refine wl_y (y_neq rfl rfl) rfl ?_
        refine wl_nil ?_
        refine wq_then_norm (hK15 ?_)
        refine wc_dec rfl (fun hc4 => ?_) (fun hc4 => ?_)
        · skip
          refine wc_seq ?_; intro K16 hK16
          have hd := dhS_nine (xs := priv ys) (ys := xs) (priv_length ys) (by omega) (by omega)
          have e : wrp xs ys = ([], [], 9) := by rw [wrp, hd, if_pos (show (9 : Nat) ≠ 0 by omega)]
          rw [e] at l1 l2
          have e2 : (wrp xs ys).2.2 = 9 := by rw [e]
          have e3 : (dhS (priv ys) xs).2 = 9 := by rw [hd]
          have z1 : k1 = 0 := l1.symm
          have z2 : k2 = 0 := l2.symm
          refine wc_region ?_
          refine wl_y (y_move rfl) rfl ?_
          refine wl_y (y_conv rfl Try.underlying27 Try.underlying3 (i64_ok (by omega) (by omega))) rfl ?_
          refine wl_y (Y.as (y_eql rfl rfl) (congrArg Value.bool (decide_eq_true (by omega)))) rfl ?_
          refine wl_y (y_move rfl) rfl ?_
          refine wl_gy 58 rfl rfl (y_move rfl) rfl ?_
          refine wl_gy 58 rfl rfl (y_conv rfl Try.underlying27 Try.underlying3 (i64_ok (by omega) (by omega))) rfl ?_
          refine wl_gy 58 rfl rfl (Y.as (y_eql rfl rfl) (congrArg Value.bool (decide_eq_true (by omega)))) rfl ?_
          refine wl_y (y_pickt rfl rfl) rfl ?_
          refine wl_y (y_move rfl) rfl ?_
          refine wl_gy 63 rfl rfl (y_move rfl) rfl ?_
          refine wl_gy 63 rfl rfl (y_len_slice rfl Try.underlying22) rfl ?_
          refine wl_gy 63 rfl rfl (y_move rfl) rfl ?_
          refine wl_gy 63 rfl rfl (y_len_slice rfl Try.underlying22) rfl ?_
          refine wl_gy 63 rfl rfl (y_add rfl rfl (i64_ok (by omega) (by omega))) rfl ?_
          refine wl_gy 63 rfl rfl (Y.as (y_eql rfl rfl) (congrArg Value.bool (decide_eq_true (by omega)))) rfl ?_
          refine wl_y (y_pickt rfl rfl) rfl ?_
          refine wl_y (y_assign rfl) rfl ?_
          refine wl_nil ?_
          refine wq_then_norm (hK16 ?_)
          refine wc_ret ?_
          refine wq_then_ret ?_
          refine hret rfl ?_
          exact ⟨rfl, E⟩
        · skip
          refine wc_skip ?_
          refine wq_then_norm (hK14 ?_)
          refine wc_seq ?_; intro K17 hK17
          refine wc_region ?_
          refine wl_y (y_move rfl) rfl ?_
          refine wl_call Try.func12 rfl rfl rfl (dhbase_any A3 32 c3 _ _ H3) rfl ?_
          rintro e w5 ⟨A5, k5, c5, rfl, H5, _, ex⟩
          refine ⟨_, rfl, ?_⟩
          replace HA := HA.ext ex
          replace HB := HB.ext ex
          replace E := E.ext ex
          replace H1 := H1.ext ex
          replace H2 := H2.ext ex
          replace H3 := H3.ext ex
          replace H4 := H4.ext ex
          have hk5 : k5 = 32 := by rw [← H5.1]; exact hb.1
          refine wl_y (y_move rfl) rfl ?_
          refine wl_y (y_extract rfl rfl) rfl ?_
          refine wl_y (y_extract rfl rfl) rfl ?_
          refine wl_y (y_assign rfl) rfl ?_
          refine wl_y (y_assign rfl) rfl ?_
          refine wl_nil ?_
          refine wq_then_norm (hK17 ?_)
          refine wc_seq ?_; intro K18 hK18
          have e : wrp xs ys = (shd (dhS (priv ys) xs).1 (pub ys) xs, pub ys, 0) := by rw [wrp, if_neg (by omega)]
          rw [e] at H1 H2
          have e2 : (wrp xs ys).2.2 = 0 := by rw [e]
          refine wc_region ?_
          refine wl_y (y_move rfl) rfl ?_
          refine wl_y (y_conv rfl Try.underlying27 Try.underlying3 (i64_ok (by omega) (by omega))) rfl ?_
          refine wl_y (Y.as (y_eql rfl rfl) (congrArg Value.bool (decide_eq_true (by omega)))) rfl ?_
          refine wl_y (y_move rfl) rfl ?_
          refine wl_gy 79 rfl rfl (y_move rfl) rfl ?_
          refine wl_gy 79 rfl rfl (y_move rfl) rfl ?_
          refine wl_gcall 79 rfl rfl Try.func13 rfl rfl rfl (sameE_any A2 A5 k2 k5 c2 c5 _ _ _ H2 H5 (by omega) (by omega)) rfl ?_
          rintro e w6 ⟨rfl, ex⟩
          refine ⟨_, rfl, ?_⟩
          replace HA := HA.ext ex
          replace HB := HB.ext ex
          replace E := E.ext ex
          replace H1 := H1.ext ex
          replace H2 := H2.ext ex
          replace H3 := H3.ext ex
          replace H4 := H4.ext ex
          replace H5 := H5.ext ex
          rw [decide_eq_true (show pub ys = (dhM (priv ys) (Fp.le 32 9)).1 from rfl)]
          refine wl_y (y_pickt rfl rfl) rfl ?_
          refine wl_y (y_move rfl) rfl ?_
          refine wl_gy 84 rfl rfl (y_move rfl) rfl ?_
          refine wl_gy 84 rfl rfl (y_move rfl) rfl ?_
          refine wl_gy 84 rfl rfl (y_move rfl) rfl ?_
          refine wl_gy 84 rfl rfl (y_move rfl) rfl ?_
          refine wl_gcall 84 rfl rfl Try.func17 rfl rfl rfl (rshared_any A4 A5 A k4 c4 k5 c5 n c _ _ xs _ H4 (by omega) H5 (by omega) HA (by omega)) rfl ?_
          rintro e w7 ⟨A7, c7, rfl, H7, ex⟩
          refine ⟨_, rfl, ?_⟩
          replace HA := HA.ext ex
          replace HB := HB.ext ex
          replace E := E.ext ex
          replace H1 := H1.ext ex
          replace H2 := H2.ext ex
          replace H3 := H3.ext ex
          replace H4 := H4.ext ex
          replace H5 := H5.ext ex
          skip
          refine wl_gcall 84 rfl rfl Try.func13 rfl rfl rfl (sameE_any A1 A7 k1 32 c1 c7 _ _ _ H1 H7 (by omega) (by omega)) rfl ?_
          rintro e w8 ⟨rfl, ex⟩
          refine ⟨_, rfl, ?_⟩
          replace HA := HA.ext ex
          replace HB := HB.ext ex
          replace E := E.ext ex
          replace H1 := H1.ext ex
          replace H2 := H2.ext ex
          replace H3 := H3.ext ex
          replace H4 := H4.ext ex
          replace H5 := H5.ext ex
          replace H7 := H7.ext ex
          rw [decide_eq_true (show shd (dhS (priv ys) xs).1 (pub ys) xs = shd (dhS (priv ys) xs).1 (dhM (priv ys) (Fp.le 32 9)).1 xs from rfl)]
          refine wl_y (y_pickt rfl rfl) rfl ?_
          refine wl_y (y_assign rfl) rfl ?_
          refine wl_nil ?_
          refine wq_then_norm (hK18 ?_)
          refine wc_ret ?_
          refine hret rfl ?_
          exact ⟨rfl, E⟩
end Go.Proofs.Ytjllhimhiekchaa
