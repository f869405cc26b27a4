/- The walk of the law KdfLabels: it answers true whatever it is given. Lengths within an int. -/
import Derived.Test.YtijnolhjkdhecaaKdfC
namespace Go.Proofs.Ytijnolhjkdhecaa
open Go.RowKit
attribute [local irreducible] Y Ef WL WC WK WQ WM OpM
theorem kdfLabels_law (A : Option Addr) (n c : Nat) (ks : List UInt8) (s : ByteArray) (B : Option Addr) (m d : Nat) (cs : List UInt8) (z : Int) (w : World)
    (HA : Bs w A n ks) (hn : n ≤ maxLen) (hs : s.size ≤ maxLen) (HB : Bs w B m cs) (hm : m ≤ maxLen) (hz : (Lit.int .u8 z).wf = true) :
    Calls Try.prog 12 #[.slice A n c, .string s, .slice B m d, .int .u8 z] w fun e w' => e = .returned (.bool true) ∧ Below w.heap.size w w' := by
  unfold maxLen at hn hm hs
  have hz' : 0 ≤ z ∧ z ≤ 255 := bounds_u8 hz
  have E := Ext.refl w
  refine vc_enter1 96 Try.func12 rfl rfl rfl rfl ?_
  intro Q hret
  refine wc_seq ?_; intro K1 hK1
  refine wc_region ?_
  refine wl_y (y_assign rfl) rfl ?_
  refine wl_nil ?_
  refine wq_then_norm (hK1 ?_)
  refine wc_seq ?_; intro K2 hK2
  refine wc_seq ?_; intro K3 hK3
  refine wc_region ?_
  refine wl_call Try.func29 rfl rfl rfl (alive5_any _) rfl ?_
  rintro e w1 ⟨rfl, ex⟩
  refine ⟨_, rfl, ?_⟩
  replace HA := HA.ext ex
  replace HB := HB.ext ex
  replace E := E.ext ex
  refine wl_y (y_not rfl) rfl ?_
  refine wl_nil ?_
  refine wq_then_norm (hK3 ?_)
  refine wc_false rfl rfl ?_
  refine wc_skip ?_
  refine wq_then_norm (hK2 ?_)
  refine wc_seq ?_; intro K4 hK4
  refine wc_seq ?_; intro K5 hK5
  refine wc_region ?_
  refine wl_y (y_move rfl) rfl ?_
  refine wl_y (y_len_slice rfl Try.underlying22) rfl ?_
  refine wl_yask (y_gtr rfl rfl) rfl (fun h1 => ?_) (fun h1 => ?_)
  · skip
    refine wl_y (y_move rfl) rfl ?_
    refine wl_gno 21 rfl rfl rfl rfl ?_
    refine wl_gno 21 rfl rfl rfl rfl ?_
    refine wl_gno 21 rfl rfl rfl rfl ?_
    refine wl_y (y_pickt rfl rfl) rfl ?_
    refine wl_y (y_move rfl) rfl ?_
    refine wl_gno 26 rfl rfl rfl rfl ?_
    refine wl_gno 26 rfl rfl rfl rfl ?_
    refine wl_gno 26 rfl rfl rfl rfl ?_
    refine wl_y (y_pickt rfl rfl) rfl ?_
    refine wl_nil ?_
    refine wq_then_norm (hK5 ?_)
    refine wc_true rfl rfl ?_
    refine wc_seq ?_; intro K6 hK6
    refine wc_region ?_
    refine wl_y (y_assign rfl) rfl ?_
    refine wl_nil ?_
    refine wq_then_norm (hK6 ?_)
    refine wc_ret ?_
    refine wq_then_ret ?_
    refine hret rfl ?_
    exact ⟨rfl, E⟩
  · skip
    refine wl_y (y_move rfl) rfl ?_
    refine wl_gy 21 rfl rfl (y_move rfl) rfl ?_
    refine wl_gy 21 rfl rfl (y_len_str rfl Try.underlying9) rfl ?_
    refine wl_gyask 21 rfl rfl (y_gtr rfl rfl) rfl (fun h2 => ?_) (fun h2 => ?_)
    · skip
      refine wl_y (y_pickf rfl rfl) rfl ?_
      refine wl_y (y_move rfl) rfl ?_
      refine wl_gno 26 rfl rfl rfl rfl ?_
      refine wl_gno 26 rfl rfl rfl rfl ?_
      refine wl_gno 26 rfl rfl rfl rfl ?_
      refine wl_y (y_pickt rfl rfl) rfl ?_
      refine wl_nil ?_
      refine wq_then_norm (hK5 ?_)
      refine wc_true rfl rfl ?_
      refine wc_seq ?_; intro K7 hK7
      refine wc_region ?_
      refine wl_y (y_assign rfl) rfl ?_
      refine wl_nil ?_
      refine wq_then_norm (hK7 ?_)
      refine wc_ret ?_
      refine wq_then_ret ?_
      refine hret rfl ?_
      exact ⟨rfl, E⟩
    · skip
      refine wl_y (y_pickf rfl rfl) rfl ?_
      refine wl_y (y_move rfl) rfl ?_
      refine wl_gy 26 rfl rfl (y_move rfl) rfl ?_
      refine wl_gy 26 rfl rfl (y_len_slice rfl Try.underlying22) rfl ?_
      refine wl_gyask 26 rfl rfl (y_gtr rfl rfl) rfl (fun h3 => ?_) (fun h3 => ?_)
      · skip
        refine wl_y (y_pickf rfl rfl) rfl ?_
        refine wl_nil ?_
        refine wq_then_norm (hK5 ?_)
        refine wc_true rfl rfl ?_
        refine wc_seq ?_; intro K8 hK8
        refine wc_region ?_
        refine wl_y (y_assign rfl) rfl ?_
        refine wl_nil ?_
        refine wq_then_norm (hK8 ?_)
        refine wc_ret ?_
        refine wq_then_ret ?_
        refine hret rfl ?_
        exact ⟨rfl, E⟩
      · skip
        refine wl_y (y_pickf rfl rfl) rfl ?_
        refine wl_nil ?_
        refine wq_then_norm (hK5 ?_)
        refine wc_false rfl rfl ?_
        refine wc_skip ?_
        refine wq_then_norm (hK4 ?_)
        refine wc_seq ?_; intro K9 hK9
        refine wc_region ?_
        refine wl_y (y_move rfl) rfl ?_
        refine wl_y (y_conv rfl Try.underlying5 Try.underlying3 (i64_ok (by omega) (by omega))) rfl ?_
        obtain ⟨k, hk⟩ : ∃ k : Nat, z % 70 = k := Int.eq_ofNat_of_zero_le (by omega)
        refine wl_y (y_rem rfl rfl (by omega) (show z.tmod 70 = (k : Int) by rw [← hk]; exact IntWalk.rem_in _ _ (by omega))) rfl ?_
        refine wl_y (y_assign rfl) rfl ?_
        refine wl_nil ?_
        refine wq_then_norm (hK9 ?_)
        refine wc_seq ?_; intro K10 hK10
        refine wc_region ?_
        refine wl_y (y_move rfl) rfl ?_
        refine wl_y (y_move rfl) rfl ?_
        refine wl_y (y_move rfl) rfl ?_
        refine wl_y (y_move rfl) rfl ?_
        refine wl_call Try.func33 rfl rfl rfl (label_any A B n c m d k s ks cs _ HA (by omega) (by omega) HB (by omega) (by omega)) rfl ?_
        rintro e w2 ⟨A2, c2, rfl, H2, hc2, ex⟩
        refine ⟨_, rfl, ?_⟩
        replace HA := HA.ext ex
        replace HB := HB.ext ex
        replace E := E.ext ex
        skip
        refine wl_y (y_move rfl) rfl ?_
        refine wl_y (y_extract rfl rfl) rfl ?_
        refine wl_y (y_extract rfl rfl) rfl ?_
        refine wl_y (y_assign rfl) rfl ?_
        refine wl_y (y_assign rfl) rfl ?_
        refine wl_nil ?_
        refine wq_then_norm (hK10 ?_)
        refine wc_seq ?_; intro K11 hK11
        refine wc_region ?_
        refine wl_y (y_move rfl) rfl ?_
        refine wl_y (y_move rfl) rfl ?_
        refine wl_y (y_move rfl) rfl ?_
        refine wl_call Try.func33 rfl rfl rfl (label_bad A B n c m d s (-1) _ (by omega)) rfl ?_
        rintro e w3 ⟨rfl, ex⟩
        refine ⟨_, rfl, ?_⟩
        replace HA := HA.ext ex
        replace HB := HB.ext ex
        replace E := E.ext ex
        replace H2 := H2.ext ex
        skip
        refine wl_y (y_move rfl) rfl ?_
        refine wl_y (y_extract rfl rfl) rfl ?_
        refine wl_y (y_extract rfl rfl) rfl ?_
        refine wl_y (y_assign rfl) rfl ?_
        refine wl_y (y_assign rfl) rfl ?_
        refine wl_nil ?_
        refine wq_then_norm (hK11 ?_)
        refine wc_seq ?_; intro K12 hK12
        refine wc_region ?_
        refine wl_y (y_move rfl) rfl ?_
        refine wl_y (y_move rfl) rfl ?_
        refine wl_y (y_move rfl) rfl ?_
        refine wl_call Try.func33 rfl rfl rfl (label_bad A B n c m d s 8161 _ (by omega)) rfl ?_
        rintro e w4 ⟨rfl, ex⟩
        refine ⟨_, rfl, ?_⟩
        replace HA := HA.ext ex
        replace HB := HB.ext ex
        replace E := E.ext ex
        replace H2 := H2.ext ex
        skip
        refine wl_y (y_move rfl) rfl ?_
        refine wl_y (y_extract rfl rfl) rfl ?_
        refine wl_y (y_extract rfl rfl) rfl ?_
        refine wl_y (y_assign rfl) rfl ?_
        refine wl_y (y_assign rfl) rfl ?_
        refine wl_nil ?_
        refine wq_then_norm (hK12 ?_)
        refine wc_seq ?_; intro K13 hK13
        refine wc_region ?_
        refine wl_y (y_move rfl) rfl ?_
        refine wl_y (y_conv rfl Try.underlying45 Try.underlying3 (i64_ok (by omega) (by omega))) rfl ?_
        refine wl_y (Y.as (y_eql rfl rfl) (congrArg Value.bool (decide_eq_true rfl))) rfl ?_
        refine wl_y (y_move rfl) rfl ?_
        refine wl_gy 59 rfl rfl (y_move rfl) rfl ?_
        refine wl_gy 59 rfl rfl (y_conv rfl Try.underlying45 Try.underlying3 (i64_ok (by omega) (by omega))) rfl ?_
        refine wl_gy 59 rfl rfl (Y.as (y_eql rfl rfl) (congrArg Value.bool (decide_eq_true rfl))) rfl ?_
        refine wl_y (y_pickt rfl rfl) rfl ?_
        refine wl_y (y_move rfl) rfl ?_
        refine wl_gy 64 rfl rfl (y_move rfl) rfl ?_
        refine wl_gy 64 rfl rfl (y_conv rfl Try.underlying45 Try.underlying3 (i64_ok (by omega) (by omega))) rfl ?_
        refine wl_gy 64 rfl rfl (Y.as (y_eql rfl rfl) (congrArg Value.bool (decide_eq_true rfl))) rfl ?_
        refine wl_y (y_pickt rfl rfl) rfl ?_
        refine wl_y (y_move rfl) rfl ?_
        refine wl_gy 69 rfl rfl (y_move rfl) rfl ?_
        refine wl_gy 69 rfl rfl (y_move rfl) rfl ?_
        refine wl_gy 69 rfl rfl (y_move rfl) rfl ?_
        refine wl_gy 69 rfl rfl (y_move rfl) rfl ?_
        refine wl_gy 69 rfl rfl (y_move rfl) rfl ?_
        refine wl_gcall 69 rfl rfl Try.func34 rfl rfl rfl (refLabel_any A B n c m d k s ks cs _ HA (by omega) (by omega) HB (by omega) (by omega)) rfl ?_
        rintro e w5 ⟨A5, c5, rfl, H5, ex⟩
        refine ⟨_, rfl, ?_⟩
        replace HA := HA.ext ex
        replace HB := HB.ext ex
        replace E := E.ext ex
        replace H2 := H2.ext ex
        skip
        refine wl_gcall 69 rfl rfl Try.func16 rfl rfl rfl (same_any A2 A5 k k c2 c5 _ _ _ H2 H5 (by omega) (by omega)) rfl ?_
        rintro e w6 ⟨rfl, k6, rfl⟩
        have ex := Ext.drewN w5 k6
        refine ⟨_, rfl, ?_⟩
        replace HA := HA.ext ex
        replace HB := HB.ext ex
        replace E := E.ext ex
        replace H2 := H2.ext ex
        replace H5 := H5.ext ex
        rw [decide_eq_true rfl]
        refine wl_y (y_pickt rfl rfl) rfl ?_
        refine wl_y (y_move rfl) rfl ?_
        refine wl_gy 78 rfl rfl (y_move rfl) rfl ?_
        refine wl_gy 78 rfl rfl (y_move rfl) rfl ?_
        refine wl_gcall 78 rfl rfl Try.func35 rfl rfl rfl (secret_any A n c s ks _ HA (by omega) (by omega)) rfl ?_
        rintro e w7 ⟨A7, c7, rfl, H7, ex⟩
        refine ⟨_, rfl, ?_⟩
        replace HA := HA.ext ex
        replace HB := HB.ext ex
        replace E := E.ext ex
        replace H2 := H2.ext ex
        replace H5 := H5.ext ex
        skip
        refine wl_gy 78 rfl rfl (y_move rfl) rfl ?_
        refine wl_gy 78 rfl rfl (y_move rfl) rfl ?_
        refine wl_gcall 78 rfl rfl Try.func34 rfl rfl rfl (refLabel_any A none n c 0 0 32 s ks [] _ HA (by omega) (by omega) (Bs.nil _ _) (by omega) (by omega)) rfl ?_
        rintro e w8 ⟨A8, c8, rfl, H8, ex⟩
        refine ⟨_, rfl, ?_⟩
        replace HA := HA.ext ex
        replace HB := HB.ext ex
        replace E := E.ext ex
        replace H2 := H2.ext ex
        replace H5 := H5.ext ex
        replace H7 := H7.ext ex
        skip
        refine wl_gcall 78 rfl rfl Try.func16 rfl rfl rfl (same_any A7 A8 32 32 c7 c8 _ _ _ H7 H8 (by omega) (by omega)) rfl ?_
        rintro e w9 ⟨rfl, k9, rfl⟩
        have ex := Ext.drewN w8 k9
        refine ⟨_, rfl, ?_⟩
        replace HA := HA.ext ex
        replace HB := HB.ext ex
        replace E := E.ext ex
        replace H2 := H2.ext ex
        replace H5 := H5.ext ex
        replace H7 := H7.ext ex
        replace H8 := H8.ext ex
        rw [decide_eq_true rfl]
        refine wl_y (y_pickt rfl rfl) rfl ?_
        refine wl_y (y_move rfl) rfl ?_
        refine wl_gy 87 rfl rfl (y_move rfl) rfl ?_
        refine wl_gy 87 rfl rfl (y_move rfl) rfl ?_
        refine wl_gcall 87 rfl rfl Try.func36 rfl rfl rfl (ref_any B m d s cs _ HB (by omega) (by omega)) rfl ?_
        rintro e w10 ⟨A10, c10, rfl, H10, ex⟩
        refine ⟨_, rfl, ?_⟩
        replace HA := HA.ext ex
        replace HB := HB.ext ex
        replace E := E.ext ex
        replace H2 := H2.ext ex
        replace H5 := H5.ext ex
        replace H7 := H7.ext ex
        replace H8 := H8.ext ex
        skip
        refine wl_gy 87 rfl rfl (y_move rfl) rfl ?_
        refine wl_gy 87 rfl rfl (y_move rfl) rfl ?_
        refine wl_gcall 87 rfl rfl Try.func37 rfl rfl rfl (refRef_any B m d s cs _ HB (by omega) (by omega)) rfl ?_
        rintro e w11 ⟨A11, c11, rfl, H11, ex⟩
        refine ⟨_, rfl, ?_⟩
        replace HA := HA.ext ex
        replace HB := HB.ext ex
        replace E := E.ext ex
        replace H2 := H2.ext ex
        replace H5 := H5.ext ex
        replace H7 := H7.ext ex
        replace H8 := H8.ext ex
        replace H10 := H10.ext ex
        skip
        refine wl_gcall 87 rfl rfl Try.func16 rfl rfl rfl (same_any A10 A11 32 32 c10 c11 _ _ _ H10 H11 (by omega) (by omega)) rfl ?_
        rintro e w12 ⟨rfl, k12, rfl⟩
        have ex := Ext.drewN w11 k12
        refine ⟨_, rfl, ?_⟩
        replace HA := HA.ext ex
        replace HB := HB.ext ex
        replace E := E.ext ex
        replace H2 := H2.ext ex
        replace H5 := H5.ext ex
        replace H7 := H7.ext ex
        replace H8 := H8.ext ex
        replace H10 := H10.ext ex
        replace H11 := H11.ext ex
        rw [decide_eq_true rfl]
        refine wl_y (y_pickt rfl rfl) rfl ?_
        refine wl_y (y_assign rfl) rfl ?_
        refine wl_nil ?_
        refine wq_then_norm (hK13 ?_)
        refine wc_ret ?_
        refine hret rfl ?_
        exact ⟨rfl, E⟩
end Go.Proofs.Ytijnolhjkdhecaa
