/- hpke: Seal, Open, and both with labels. No conditions: contracts of functions. -/
import Derived.Test.YtjllhimhiekchaaGmG
namespace Go.Proofs.Ytjllhimhiekchaa
open Go.RowKit
attribute [local irreducible] Y Ef WL WC WK WQ WM OpM WN WF OpN WJ OpJ WR WLr
open Ae Gm Hk
namespace Hk
/-- What Seal hands back: an enc, a box, an error. -/
def sl (pb sd is ts ms : List UInt8) : List UInt8 × List UInt8 × Nat :=
  if (wrp pb sd).2.2 ≠ 0 then ([], [], (wrp pb sd).2.2) else ((wrp pb sd).2.1, seal' (lkey (wrp pb sd).1 is) (lnon (wrp pb sd).1 is) ts ms, 0)
/-- What Open hands back: a text, an error. -/
def ob (o : Option (List UInt8)) : List UInt8 × Nat := (o.getD [], if o.isSome then 0 else 11)
def op (pv en is bx ms : List UInt8) : List UInt8 × Nat :=
  if (unw pv en).2 ≠ 0 then ([], (unw pv en).2) else ob (opn (lkey (unw pv en).1 is) (lnon (unw pv en).1 is) bx ms)
end Hk
theorem wrp_code (xs ys : List UInt8) : (wrp xs ys).2.2 < 256 := by
  unfold wrp; split
  · exact dhS_code _ _
  · show 0 < 256; omega
theorem unw_code (xs ys : List UInt8) : (unw xs ys).2 < 256 := by
  unfold unw; split
  · exact dhS_code _ _
  · show 0 < 256; omega
theorem hseal_any (A B C D M : Option Addr) (n c m d k q z v i j : Nat) (xs ys is ts ms : List UInt8) (w : World) (HA : Bs w A n xs) (hn : n ≤ 1000) (HB : Bs w B m ys) (hm : m ≤ 1000) (HC : Bs w C k is) (hk : k ≤ 8000)
    (HD : Bs w D z ts) (hz : z ≤ 80000) (HM : Bs w M i ms) (hi : i ≤ 80000) (hij : i ≤ j) :
    Calls Try.prog 21 #[.slice A n c, .slice B m d, .slice C k q, .slice D z v, .slice M i j] w fun e w' => ∃ A1 k1 c1 A2 k2 c2, e = .returned (.tuple #[.slice A1 k1 c1, .slice A2 k2 c2, .int .u8 ((sl xs ys is ts ms).2.2 : Int)]) ∧ Bs w' A1 k1 (sl xs ys is ts ms).1 ∧
      Bs w' A2 k2 (sl xs ys is ts ms).2.1 ∧ k1 ≤ 32 ∧ k2 ≤ z + 16 ∧ k2 ≤ c2 ∧ Ext w w' := by
  have E := Ext.refl w
  refine vc_enter3 40 Try.func21 rfl rfl rfl rfl ?_
  intro Q hret
  refine wc_seq ?_; intro K1 hK1
  refine wc_region ?_
  refine wl_y (y_assign rfl) rfl ?_
  refine wl_y (y_assign rfl) rfl ?_
  refine wl_y (y_assign rfl) rfl ?_
  refine wl_nil ?_
  refine wq_then_norm (hK1 ?_)
  refine wc_seq ?_; intro K2 hK2
  refine wc_region ?_
  refine wl_y (y_move rfl) rfl ?_
  refine wl_y (y_move rfl) rfl ?_
  refine wl_call Try.func20 rfl rfl rfl (hwrap_any A B n c m d xs ys _ HA hn HB hm) rfl ?_
  rintro e w1 ⟨A1, k1, c1, A2, k2, c2, rfl, H1, H2, hk1, hk2, ex⟩
  refine ⟨_, rfl, ?_⟩
  replace HC := HC.ext ex
  replace HD := HD.ext ex
  replace HM := HM.ext ex
  replace E := E.ext ex
  have hcode := wrp_code xs ys
  refine wl_y (y_move rfl) rfl ?_
  refine wl_y (y_extract rfl rfl) rfl ?_
  refine wl_y (y_extract rfl rfl) rfl ?_
  refine wl_y (y_extract rfl rfl) rfl ?_
  refine wl_y (y_assign rfl) rfl ?_
  refine wl_y (y_assign rfl) rfl ?_
  refine wl_y (y_assign rfl) rfl ?_
  refine wl_nil ?_
  refine wq_then_norm (hK2 ?_)
  refine wc_seq ?_; intro K3 hK3
  refine wc_seq ?_; intro K4 hK4
  refine wc_region ?_
  refine wl_y (y_move rfl) rfl ?_
  refine wl_y (y_neq rfl rfl) rfl ?_
  refine wl_nil ?_
  refine wq_then_norm (hK4 ?_)
  refine wc_dec rfl (fun hc1 => ?_) (fun hc1 => ?_)
  · skip
    refine wc_seq ?_; intro K5 hK5
    refine wc_region ?_
    refine wl_y (y_move rfl) rfl ?_
    refine wl_y (y_assign rfl) rfl ?_
    refine wl_y (y_assign rfl) rfl ?_
    refine wl_y (y_assign rfl) rfl ?_
    refine wl_nil ?_
    refine wq_then_norm (hK5 ?_)
    refine wc_ret ?_
    refine wq_then_ret ?_
    refine hret rfl rfl rfl ?_
    exact ⟨none, 0, 0, none, 0, 0, by rw [sl, if_pos (by omega)], by rw [sl, if_pos (by omega)]; exact Bs.nil _ _, by rw [sl, if_pos (by omega)]; exact Bs.nil _ _, by omega, by omega, by omega, E⟩
  · skip
    refine wc_skip ?_
    refine wq_then_norm (hK3 ?_)
    refine wc_seq ?_; intro K6 hK6
    refine wc_region ?_
    refine wl_y (y_move rfl) rfl ?_
    refine wl_y (y_move rfl) rfl ?_
    refine wl_call Try.func35 rfl rfl rfl (hlock_any A1 C k1 c1 k q _ is _ H1 (by omega) HC hk) rfl ?_
    rintro e w2 ⟨A3, c3, A4, c4, rfl, H3, H4, hc3, hc4, ex⟩
    refine ⟨_, rfl, ?_⟩
    replace HC := HC.ext ex
    replace HD := HD.ext ex
    replace HM := HM.ext ex
    replace E := E.ext ex
    replace H1 := H1.ext ex
    replace H2 := H2.ext ex
    skip
    refine wl_ef (ef_alloc (Z := #[.slice none 0 0, .slice none 0 0]) (by kernel_rfl)) rfl ?_
    rintro _ wA14 ⟨gB14, rfl, D14, hgB14, exA⟩
    refine wl_ef (ef_storeP (o := 0) rfl rfl (by kernel_rfl) D14 (Nat.le_of_ble_eq_true rfl) (all_ones rfl)) rfl ?_
    rintro _ wB14 ⟨rfl, B14, cg⟩
    have ex := exA.chg cg hgB14; clear cg exA D14
    have lB14 := B14.lt; have zB14 := ex.size
    replace HC := HC.ext ex
    replace HD := HD.ext ex
    replace HM := HM.ext ex
    replace E := E.ext ex
    replace H1 := H1.ext ex
    replace H2 := H2.ext ex
    replace H3 := H3.ext ex
    replace H4 := H4.ext ex
    refine wl_nil ?_
    refine wq_then_norm (hK6 ?_)
    refine wc_seq ?_; intro K7 hK7
    refine wc_region ?_
    refine wl_y (y_fieldAddr (o := 0) (s := 1) (off := 0) (o' := 0) rfl Try.underlying58 rfl (by kernel_rfl) rfl rfl) rfl ?_
    refine wl_y (y_load1 rfl Try.underlying22 rfl (B14.get (i := 0) rfl)) rfl ?_
    refine wl_y (y_fieldAddr (o := 1) (s := 1) (off := 0) (o' := 1) rfl Try.underlying58 rfl (by kernel_rfl) rfl rfl) rfl ?_
    refine wl_y (y_load1 rfl Try.underlying22 rfl (B14.get (i := 1) rfl)) rfl ?_
    refine wl_y (y_move rfl) rfl ?_
    refine wl_y (y_move rfl) rfl ?_
    refine wl_call Try.func22 rfl rfl rfl (gseal_any _ H3 H4 HD (by omega) HM (by omega) hij) rfl ?_
    rintro e w3 ⟨A5, c5, rfl, R5, ex⟩
    refine ⟨_, rfl, ?_⟩
    replace HC := HC.ext ex
    replace HD := HD.ext ex
    replace HM := HM.ext ex
    replace E := E.ext ex
    replace H1 := H1.ext ex
    replace H2 := H2.ext ex
    replace H3 := H3.ext ex
    replace H4 := H4.ext ex
    replace B14 := B14.ext ex
    have H5 := R5.bs
    refine wl_y (y_move rfl) rfl ?_
    refine wl_y (y_extract rfl rfl) rfl ?_
    refine wl_y (y_extract rfl rfl) rfl ?_
    refine wl_y (y_assign rfl) rfl ?_
    refine wl_nil ?_
    refine wq_then_norm (hK7 ?_)
    refine wc_seq ?_; intro K8 hK8
    refine wc_region ?_
    refine wl_y (y_move rfl) rfl ?_
    refine wl_y (y_move rfl) rfl ?_
    refine wl_y (y_assign rfl) rfl ?_
    refine wl_y (y_assign rfl) rfl ?_
    refine wl_y (y_assign rfl) rfl ?_
    refine wl_nil ?_
    refine wq_then_norm (hK8 ?_)
    refine wc_ret ?_
    refine hret rfl rfl rfl ?_
    exact ⟨A2, k2, c2, A5, z + 16, c5, by rw [sl, if_neg (by omega)]; rfl, by rw [sl, if_neg (by omega)]; exact H2, by rw [sl, if_neg (by omega)]; exact H5, hk2, Nat.le_refl _, R5.cap, E⟩
theorem hopen_any (A B C D M : Option Addr) (n c m d k q z v i j : Nat) (xs ys is bx ms : List UInt8) (w : World) (HA : Bs w A n xs) (hn : n ≤ 1000) (HB : Bs w B m ys) (hm : m ≤ 1000) (HC : Bs w C k is) (hk : k ≤ 8000)
    (HD : Bs w D z bx) (hz : z ≤ 80000) (hzv : z ≤ v) (HM : Bs w M i ms) (hi : i ≤ 80000) (hij : i ≤ j) :
    Calls Try.prog 15 #[.slice A n c, .slice B m d, .slice C k q, .slice D z v, .slice M i j] w fun e w' => ∃ A1 k1 c1, e = .returned (.tuple #[.slice A1 k1 c1, .int .u8 ((op xs ys is bx ms).2 : Int)]) ∧ Bs w' A1 k1 (op xs ys is bx ms).1 ∧ k1 ≤ z ∧ Ext w w' := by
  have E := Ext.refl w
  have hbl := HD.1
  refine vc_enter2 42 Try.func15 rfl rfl rfl rfl ?_
  intro Q hret
  refine wc_seq ?_; intro K1 hK1
  refine wc_region ?_
  refine wl_y (y_assign rfl) rfl ?_
  refine wl_y (y_assign rfl) rfl ?_
  refine wl_nil ?_
  refine wq_then_norm (hK1 ?_)
  refine wc_seq ?_; intro K2 hK2
  refine wc_region ?_
  refine wl_y (y_move rfl) rfl ?_
  refine wl_y (y_move rfl) rfl ?_
  refine wl_call Try.func14 rfl rfl rfl (hunwrap_any A B n c m d xs ys _ HA hn HB hm) rfl ?_
  rintro e w1 ⟨A1, k1, c1, rfl, H1, hk1, ex⟩
  refine ⟨_, rfl, ?_⟩
  replace HC := HC.ext ex
  replace HD := HD.ext ex
  replace HM := HM.ext ex
  replace E := E.ext ex
  have hcode := unw_code xs ys
  refine wl_y (y_move rfl) rfl ?_
  refine wl_y (y_extract rfl rfl) rfl ?_
  refine wl_y (y_extract rfl rfl) rfl ?_
  refine wl_y (y_assign rfl) rfl ?_
  refine wl_y (y_assign rfl) rfl ?_
  refine wl_nil ?_
  refine wq_then_norm (hK2 ?_)
  refine wc_seq ?_; intro K3 hK3
  refine wc_seq ?_; intro K4 hK4
  refine wc_region ?_
  refine wl_y (y_move rfl) rfl ?_
  refine wl_y (y_neq rfl rfl) rfl ?_
  refine wl_nil ?_
  refine wq_then_norm (hK4 ?_)
  refine wc_dec rfl (fun hc1 => ?_) (fun hc1 => ?_)
  · skip
    refine wc_seq ?_; intro K5 hK5
    refine wc_region ?_
    refine wl_y (y_move rfl) rfl ?_
    refine wl_y (y_assign rfl) rfl ?_
    refine wl_y (y_assign rfl) rfl ?_
    refine wl_nil ?_
    refine wq_then_norm (hK5 ?_)
    refine wc_ret ?_
    refine wq_then_ret ?_
    refine hret rfl rfl ?_
    exact ⟨none, 0, 0, by rw [op, if_pos (by omega)], by rw [op, if_pos (by omega)]; exact Bs.nil _ _, by omega, E⟩
  · skip
    refine wc_skip ?_
    refine wq_then_norm (hK3 ?_)
    refine wc_seq ?_; intro K6 hK6
    have hop : op xs ys is bx ms = ob (opn (lkey (unw xs ys).1 is) (lnon (unw xs ys).1 is) bx ms) := by rw [op, if_neg (by omega)]
    obtain ⟨o, ho⟩ : ∃ o, o = opn (lkey (unw xs ys).1 is) (lnon (unw xs ys).1 is) bx ms := ⟨_, rfl⟩
    have hol : (o.getD []).length ≤ z := by
      rw [ho]; unfold opn
      split
      · exact Nat.zero_le _
      · split
        · show (mkd _ _ _).length ≤ z
          rw [mkd_length, List.length_take]; omega
        · exact Nat.zero_le _
    rw [← ho] at hop
    refine wc_region ?_
    refine wl_y (y_move rfl) rfl ?_
    refine wl_y (y_move rfl) rfl ?_
    refine wl_call Try.func35 rfl rfl rfl (hlock_any A1 C k1 c1 k q _ is _ H1 (by omega) HC hk) rfl ?_
    rintro e w2 ⟨A3, c3, A4, c4, rfl, H3, H4, hc3, hc4, ex⟩
    refine ⟨_, rfl, ?_⟩
    replace HC := HC.ext ex
    replace HD := HD.ext ex
    replace HM := HM.ext ex
    replace E := E.ext ex
    replace H1 := H1.ext ex
    skip
    refine wl_ef (ef_alloc (Z := #[.slice none 0 0, .slice none 0 0]) (by kernel_rfl)) rfl ?_
    rintro _ wA14 ⟨gB14, rfl, D14, hgB14, exA⟩
    refine wl_ef (ef_storeP (o := 0) rfl rfl (by kernel_rfl) D14 (Nat.le_of_ble_eq_true rfl) (all_ones rfl)) rfl ?_
    rintro _ wB14 ⟨rfl, B14, cg⟩
    have ex := exA.chg cg hgB14; clear cg exA D14
    have lB14 := B14.lt; have zB14 := ex.size
    replace HC := HC.ext ex
    replace HD := HD.ext ex
    replace HM := HM.ext ex
    replace E := E.ext ex
    replace H1 := H1.ext ex
    replace H3 := H3.ext ex
    replace H4 := H4.ext ex
    refine wl_nil ?_
    refine wq_then_norm (hK6 ?_)
    refine wc_seq ?_; intro K7 hK7
    refine wc_region ?_
    refine wl_y (y_fieldAddr (o := 0) (s := 1) (off := 0) (o' := 0) rfl Try.underlying58 rfl (by kernel_rfl) rfl rfl) rfl ?_
    refine wl_y (y_load1 rfl Try.underlying22 rfl (B14.get (i := 0) rfl)) rfl ?_
    refine wl_y (y_fieldAddr (o := 1) (s := 1) (off := 0) (o' := 1) rfl Try.underlying58 rfl (by kernel_rfl) rfl rfl) rfl ?_
    refine wl_y (y_load1 rfl Try.underlying22 rfl (B14.get (i := 1) rfl)) rfl ?_
    refine wl_y (y_move rfl) rfl ?_
    refine wl_y (y_move rfl) rfl ?_
    refine wl_call Try.func19 rfl rfl rfl (gopen_any _ H3 H4 HD (by omega) hzv HM (by omega) hij) rfl ?_
    rintro e w3 ⟨A5, k5, c5, rfl, R5, ex⟩
    refine ⟨_, rfl, ?_⟩
    replace HC := HC.ext ex
    replace HD := HD.ext ex
    replace HM := HM.ext ex
    replace E := E.ext ex
    replace H1 := H1.ext ex
    replace H3 := H3.ext ex
    replace H4 := H4.ext ex
    replace B14 := B14.ext ex
    rw [← ho] at R5 ⊢; have H5 := R5.bs; have hk5 := H5.1
    refine wl_y (y_move rfl) rfl ?_
    refine wl_y (y_extract rfl rfl) rfl ?_
    refine wl_y (y_extract rfl rfl) rfl ?_
    refine wl_y (y_assign rfl) rfl ?_
    refine wl_y (y_assign rfl) rfl ?_
    refine wl_nil ?_
    refine wq_then_norm (hK7 ?_)
    refine wc_seq ?_; intro K8 hK8
    refine wc_seq ?_; intro K9 hK9
    refine wc_region ?_
    refine wl_y (y_move rfl) rfl ?_
    refine wl_y (y_not rfl) rfl ?_
    refine wl_nil ?_
    refine wq_then_norm (hK9 ?_)
    refine wc_cond rfl (fun hc2 => ?_) (fun hc2 => ?_)
    · skip
      refine wc_seq ?_; intro K10 hK10
      refine wc_region ?_
      refine wl_y (y_assign rfl) rfl ?_
      refine wl_y (y_assign rfl) rfl ?_
      refine wl_nil ?_
      refine wq_then_norm (hK10 ?_)
      refine wc_ret ?_
      refine wq_then_ret ?_
      refine hret rfl rfl ?_
      have : o.isSome = false := by simpa using hc2
      have hn : o = none := by cases o with | none => rfl | some x => cases this
      subst hn
      rw [hop]
      exact ⟨none, 0, 0, rfl, Bs.nil _ _, by omega, E⟩
    · skip
      refine wc_skip ?_
      refine wq_then_norm (hK8 ?_)
      refine wc_seq ?_; intro K11 hK11
      refine wc_region ?_
      refine wl_y (y_move rfl) rfl ?_
      refine wl_y (y_assign rfl) rfl ?_
      refine wl_y (y_assign rfl) rfl ?_
      refine wl_nil ?_
      refine wq_then_norm (hK11 ?_)
      refine wc_ret ?_
      refine hret rfl rfl ?_
      have hs : o.isSome = true := by simpa using hc2
      rw [hop]
      exact ⟨A5, k5, c5, by unfold ob; rw [if_pos hs]; rfl, H5, by omega, E⟩
theorem hlabelled_any (lb : ByteArray) (B : Option Addr) (m d : Nat) (cs : List UInt8) (w : World) (h2 : lb.size ≤ 100) (HB : Bs w B m cs) (hm : m ≤ 6000) :
    Calls Try.prog 44 #[.string lb, .slice B m d] w fun e w' => ∃ A' k c', e = .returned (.slice A' k c') ∧ Bs w' A' k (info lb cs) ∧ k ≤ 1000 + m ∧ Ext w w' := by
  have E := Ext.refl w
  have hl1 := Wire.lsz_le (8 + lb.size); have hl2 := Wire.lsz_le m
  have hcat : cat [⟨#[77, 76, 83, 32, 49, 46, 48, 32]⟩, lb] = mls ++ sb lb := by rw [cat_cons, cat_cons]; show mls ++ (sb lb ++ []) = _; rw [List.append_nil]
  have hcl : (mls ++ sb lb).length = 8 + lb.size := by rw [List.length_append, sb_len]; rfl
  refine vc_enter1 11 Try.func44 rfl rfl rfl rfl ?_
  intro Q hret
  refine wc_seq ?_; intro K1 hK1
  refine wc_region ?_
  refine wl_y (y_assign rfl) rfl ?_
  refine wl_nil ?_
  refine wq_then_norm (hK1 ?_)
  refine wc_seq ?_; intro K2 hK2
  refine wc_region ?_
  refine wl_y (y_move rfl) rfl ?_
  refine wl_ef (ef_lit (z := .string ByteArray.empty) Try.underlying89 (by kernel_rfl) rfl rfl rfl rfl rfl) rfl ?_
  rintro _ w1 ⟨g1, rfl, B1, hg1, ex⟩
  replace HB := HB.ext ex
  replace E := E.ext ex
  skip
  refine wl_call Try.func47 rfl rfl rfl (hrow_any [⟨#[77, 76, 83, 32, 49, 46, 48, 32]⟩, lb] 2 _ (B1.congr rfl) rfl (by omega) (by rw [hcat, hcl]; omega)) rfl ?_
  rintro e w2 ⟨A2, m2, c2, rfl, R2, ex⟩
  refine ⟨_, rfl, ?_⟩
  replace HB := HB.ext ex
  replace E := E.ext ex
  have H2 := R2.bs; rw [hcat] at H2; have hm2 := H2.1; rw [hcl] at hm2; subst hm2
  refine wl_call Try.func67 rfl rfl rfl (putVec_any none A2 0 0 _ c2 [] _ _ (Bs.nil _ _) (by omega) H2 (by omega)) rfl ?_
  rintro e w3 ⟨A3, k3, c3, rfl, R3, hk3, ex⟩
  refine ⟨_, rfl, ?_⟩
  replace HB := HB.ext ex
  replace E := E.ext ex
  replace H2 := H2.ext ex
  have H3 := R3.bs; rw [List.nil_append] at H3
  refine wl_y (y_move rfl) rfl ?_
  refine wl_call Try.func67 rfl rfl rfl (putVec_any A3 B k3 c3 m d _ cs _ H3 (by omega) HB (by omega)) rfl ?_
  rintro e w4 ⟨A4, k4, c4, rfl, R4, hk4, ex⟩
  refine ⟨_, rfl, ?_⟩
  replace HB := HB.ext ex
  replace E := E.ext ex
  replace H2 := H2.ext ex
  replace H3 := H3.ext ex
  have H4 := R4.bs
  refine wl_y (y_assign rfl) rfl ?_
  refine wl_nil ?_
  refine wq_then_norm (hK2 ?_)
  refine wc_ret ?_
  refine hret rfl ?_
  exact ⟨A4, k4, c4, rfl, H4, by omega, E⟩
theorem hseall_any (A B C D : Option Addr) (lb : ByteArray) (n c m d k q z v : Nat) (xs ys cs ts : List UInt8) (w : World) (hlb : lb.size ≤ 100) (HA : Bs w A n xs) (hn : n ≤ 1000) (HB : Bs w B m ys) (hm : m ≤ 1000) (HC : Bs w C k cs) (hk : k ≤ 6000)
    (HD : Bs w D z ts) (hz : z ≤ 80000) :
    Calls Try.prog 24 #[.slice A n c, .slice B m d, .string lb, .slice C k q, .slice D z v] w fun e w' => ∃ A1 k1 c1 A2 k2 c2, e = .returned (.tuple #[.slice A1 k1 c1, .slice A2 k2 c2, .int .u8 ((sl xs ys (info lb cs) ts []).2.2 : Int)]) ∧ Bs w' A1 k1 (sl xs ys (info lb cs) ts []).1 ∧
      Bs w' A2 k2 (sl xs ys (info lb cs) ts []).2.1 ∧ k1 ≤ 32 ∧ k2 ≤ z + 16 ∧ k2 ≤ c2 ∧ Ext w w' := by
  have E := Ext.refl w
  have hcode := wrp_code xs ys
  refine vc_enter3 23 Try.func24 rfl rfl rfl rfl ?_
  intro Q hret
  refine wc_seq ?_; intro K1 hK1
  refine wc_region ?_
  refine wl_y (y_assign rfl) rfl ?_
  refine wl_y (y_assign rfl) rfl ?_
  refine wl_y (y_assign rfl) rfl ?_
  refine wl_nil ?_
  refine wq_then_norm (hK1 ?_)
  refine wc_seq ?_; intro K2 hK2
  refine wc_region ?_
  refine wl_y (y_move rfl) rfl ?_
  refine wl_y (y_move rfl) rfl ?_
  refine wl_y (y_move rfl) rfl ?_
  refine wl_y (y_move rfl) rfl ?_
  refine wl_call Try.func44 rfl rfl rfl (hlabelled_any lb C k q cs _ hlb HC (by omega)) rfl ?_
  rintro e w1 ⟨A1, k1, c1, rfl, H1, hk1, ex⟩
  refine ⟨_, rfl, ?_⟩
  replace HA := HA.ext ex
  replace HB := HB.ext ex
  replace HC := HC.ext ex
  replace HD := HD.ext ex
  replace E := E.ext ex
  skip
  refine wl_y (y_move rfl) rfl ?_
  refine wl_call Try.func21 rfl rfl rfl (hseal_any A B A1 D none n c m d k1 c1 z v 0 0 xs ys _ ts [] _ HA hn HB hm H1 (by omega) HD (by omega) (Bs.nil _ _) (by omega) (by omega)) rfl ?_
  rintro e w2 ⟨A2, k2, c2, A3, k3, c3, rfl, H2, H3, hk2, hk3, hc3, ex⟩
  refine ⟨_, rfl, ?_⟩
  replace HA := HA.ext ex
  replace HB := HB.ext ex
  replace HC := HC.ext ex
  replace HD := HD.ext ex
  replace E := E.ext ex
  replace H1 := H1.ext ex
  skip
  refine wl_y (y_extract rfl rfl) rfl ?_
  refine wl_y (y_extract rfl rfl) rfl ?_
  refine wl_y (y_extract rfl rfl) rfl ?_
  refine wl_y (y_assign rfl) rfl ?_
  refine wl_y (y_assign rfl) rfl ?_
  refine wl_y (y_assign rfl) rfl ?_
  refine wl_nil ?_
  refine wq_then_norm (hK2 ?_)
  refine wc_ret ?_
  refine hret rfl rfl rfl ?_
  exact ⟨A2, k2, c2, A3, k3, c3, rfl, H2, H3, hk2, hk3, hc3, E⟩
theorem hopenl_any (A B C D : Option Addr) (lb : ByteArray) (n c m d k q z v : Nat) (xs ys cs bx : List UInt8) (w : World) (hlb : lb.size ≤ 100) (HA : Bs w A n xs) (hn : n ≤ 1000) (HB : Bs w B m ys) (hm : m ≤ 1000) (HC : Bs w C k cs) (hk : k ≤ 6000)
    (HD : Bs w D z bx) (hz : z ≤ 80000) (hzv : z ≤ v) :
    Calls Try.prog 25 #[.slice A n c, .slice B m d, .string lb, .slice C k q, .slice D z v] w fun e w' => ∃ A1 k1 c1, e = .returned (.tuple #[.slice A1 k1 c1, .int .u8 ((op xs ys (info lb cs) bx []).2 : Int)]) ∧ Bs w' A1 k1 (op xs ys (info lb cs) bx []).1 ∧ k1 ≤ z ∧ Ext w w' := by
  have E := Ext.refl w
  refine vc_enter2 21 Try.func25 rfl rfl rfl rfl ?_
  intro Q hret
  refine wc_seq ?_; intro K1 hK1
  refine wc_region ?_
  refine wl_y (y_assign rfl) rfl ?_
  refine wl_y (y_assign rfl) rfl ?_
  refine wl_nil ?_
  refine wq_then_norm (hK1 ?_)
  refine wc_seq ?_; intro K2 hK2
  refine wc_region ?_
  refine wl_y (y_move rfl) rfl ?_
  refine wl_y (y_move rfl) rfl ?_
  refine wl_y (y_move rfl) rfl ?_
  refine wl_y (y_move rfl) rfl ?_
  refine wl_call Try.func44 rfl rfl rfl (hlabelled_any lb C k q cs _ hlb HC (by omega)) rfl ?_
  rintro e w1 ⟨A1, k1, c1, rfl, H1, hk1, ex⟩
  refine ⟨_, rfl, ?_⟩
  replace HA := HA.ext ex
  replace HB := HB.ext ex
  replace HC := HC.ext ex
  replace HD := HD.ext ex
  replace E := E.ext ex
  skip
  refine wl_y (y_move rfl) rfl ?_
  refine wl_call Try.func15 rfl rfl rfl (hopen_any A B A1 D none n c m d k1 c1 z v 0 0 xs ys _ bx [] _ HA hn HB hm H1 (by omega) HD (by omega) hzv (Bs.nil _ _) (by omega) (by omega)) rfl ?_
  rintro e w2 ⟨A2, k2, c2, rfl, H2, hk2, ex⟩
  refine ⟨_, rfl, ?_⟩
  replace HA := HA.ext ex
  replace HB := HB.ext ex
  replace HC := HC.ext ex
  replace HD := HD.ext ex
  replace E := E.ext ex
  replace H1 := H1.ext ex
  skip
  refine wl_y (y_extract rfl rfl) rfl ?_
  refine wl_y (y_extract rfl rfl) rfl ?_
  refine wl_y (y_assign rfl) rfl ?_
  refine wl_y (y_assign rfl) rfl ?_
  refine wl_nil ?_
  refine wq_then_norm (hK2 ?_)
  refine wc_ret ?_
  refine hret rfl rfl ?_
  exact ⟨A2, k2, c2, rfl, H2, hk2, E⟩
end Go.Proofs.Ytjllhimhiekchaa
