/- The laws MsgReads and MsgParts. No conditions: contracts of functions. -/
import Derived.Test.YtpgalbgonmclaaaGreatMvD
namespace Go.Proofs.YtpgalbgonmclaaaGreat
open Go.RowKit
attribute [local irreducible] Y Ef WL WC WK WQ WM OpM WN WF OpN WJ OpJ
open Wire Nd M20
theorem whole_fit {α : Type} {F : α → Prop} {z : α} {p : α × St} {ok : Bool} (hz : F z) (hp : F p.1) : F (wholeX z p ok).1 := by
  unfold wholeX
  split
  · exact hz
  · split
    · exact hp
    · exact hz
theorem msgParts_law (A : Option Addr) (n c : Nat) (b : List UInt8) (w : World) (HB : Bs w A n b) (_hn : n ≤ maxLen) (hc : n ≤ c) :
    Calls Tryz.prog 3 #[.slice A n c] w fun e w' => e = .returned (.bool true) ∧ Below w.heap.size w w' := by
  have hbl := HB.1
  have E := Ext.refl w
  refine vc_enter1 81 Tryz.func3 rfl rfl rfl rfl ?_
  intro Q hret
  refine wc_seq ?_; intro K1 hK1
  refine wc_region ?_
  refine wl_y (y_assign rfl) rfl ?_
  refine wl_nil ?_
  refine wq_then_norm (hK1 ?_)
  refine wc_seq ?_; intro K2 hK2
  refine wc_seq ?_; intro K3 hK3
  refine wc_region ?_
  refine wl_call Tryz.func6 rfl rfl rfl (alive20_any _) rfl ?_
  rintro e w1 ⟨rfl, ex⟩
  refine ⟨_, rfl, ?_⟩
  replace E := E.ext ex
  refine wl_y (y_not rfl) rfl ?_
  refine wl_nil ?_
  refine wq_then_norm (hK3 ?_)
  refine wc_false rfl rfl ?_
  refine wc_skip ?_
  refine wq_then_norm (hK2 ?_)
  refine wc_seq ?_; intro K4 hK4
  refine wc_seq ?_; intro K5 hK5
  refine wc_region ?_
  refine wl_y (y_move rfl) rfl ?_
  refine wl_y (y_len_slice rfl Tryz.underlying22) rfl ?_
  refine wl_y (y_gtr rfl rfl) rfl ?_
  refine wl_nil ?_
  refine wq_then_norm (hK5 ?_)
  refine wc_dec rfl (fun hc2 => ?_) (fun hc2 => ?_)
  · skip
    refine wc_seq ?_; intro K6 hK6
    refine wc_region ?_
    refine wl_y (y_assign rfl) rfl ?_
    refine wl_nil ?_
    refine wq_then_norm (hK6 ?_)
    refine wc_ret ?_
    refine wq_then_ret ?_
    refine hret rfl ?_
    exact ⟨rfl, E⟩
  · skip
    refine wc_skip ?_
    refine wq_then_norm (hK4 ?_)
    refine wc_seq ?_; intro K7 hK7
    have fp : (packX (.ok b)).1.Fit := pack_fit (by show b.length ≤ 10000; omega)
    have fq : (propX (.ok b)).1.Fit := prop_fit (by show b.length ≤ 10000; omega)
    have fc : (comX (.ok b)).1.Fit := com_fit (by show b.length ≤ 10000; omega)
    have gp : (packOf b).1.Fit := whole_fit pack0_fit fp
    have gq : (propOf b).1.Fit := whole_fit prop0_fit fq
    have gc : (comOf b).1.Fit := whole_fit com0_fit fc
    refine wc_region ?_
    refine wl_y (y_move rfl) rfl ?_
    refine wl_call Tryz.func7 rfl rfl rfl (packOf_any _ (HB.ext E) hc (by omega) fp) rfl ?_
    rintro e w2 ⟨ds, rfl, HN, h256, ex⟩
    refine ⟨_, rfl, ?_⟩
    replace E := E.ext ex
    have HP1 := HN.at; obtain ⟨a0, a1, a2, a3, a4, a5, a6, rfl, _⟩ := HN
    refine wl_y (y_move rfl) rfl ?_
    refine wl_y (y_extract rfl rfl) rfl ?_
    refine wl_y (y_extract rfl rfl) rfl ?_
    refine wl_ef (ef_alloc (Z := #[.slice none 0 0, .slice none 0 0, .slice none 0 0, .slice none 0 0, .int .u8 0, .slice none 0 0, .slice none 0 0, .slice none 0 0]) (by kernel_rfl)) rfl ?_
    rintro _ wA3 ⟨gB3, rfl, D3, hgB3, exA⟩
    refine wl_ef (ef_storeP (o := 0) rfl rfl (by kernel_rfl) D3 (Nat.le_of_ble_eq_true rfl) (all_ones rfl)) rfl ?_
    rintro _ wB3 ⟨rfl, B3, cg⟩
    have ex := exA.chg cg hgB3; clear cg exA D3
    have lB3 := B3.lt; have zB3 := ex.size
    replace E := E.ext ex
    replace HP1 := HP1.ext ex
    refine wl_y (y_assign rfl) rfl ?_
    refine wl_nil ?_
    refine wq_then_norm (hK7 ?_)
    refine wc_seq ?_; intro K8 hK8
    refine wc_region ?_
    refine wl_y (y_move rfl) rfl ?_
    refine wl_call Tryz.func8 rfl rfl rfl (propOf_any _ (HB.ext E) hc (by omega) fq) rfl ?_
    rintro e w3 ⟨ds, rfl, HN, h257, ex⟩
    refine ⟨_, rfl, ?_⟩
    replace E := E.ext ex
    replace HP1 := HP1.ext ex
    replace B3 := B3.ext ex
    have HQ1 := HN.at; obtain ⟨b0, b1, b2, b3, b4, b5, b6, b7, b8, b9, b10, b11, rfl, _⟩ := HN
    refine wl_y (y_move rfl) rfl ?_
    refine wl_y (y_extract rfl rfl) rfl ?_
    refine wl_y (y_extract rfl rfl) rfl ?_
    refine wl_ef (ef_alloc (Z := #[.int .u8 0, .slice none 0 0, .slice none 0 0, .slice none 0 0, .slice none 0 0, .int .u8 0, .slice none 0 0, .slice none 0 0, .slice none 0 0, .slice none 0 0, .slice none 0 0, .slice none 0 0, .int .u8 0, .slice none 0 0, .slice none 0 0, .int .i64 0]) (by kernel_rfl)) rfl ?_
    rintro _ wA5 ⟨gB5, rfl, D5, hgB5, exA⟩
    refine wl_ef (ef_storeP (o := 0) rfl rfl (by kernel_rfl) D5 (Nat.le_of_ble_eq_true rfl) (all_ones rfl)) rfl ?_
    rintro _ wB5 ⟨rfl, B5, cg⟩
    have ex := exA.chg cg hgB5; clear cg exA D5
    have lB5 := B5.lt; have zB5 := ex.size
    replace E := E.ext ex
    replace HP1 := HP1.ext ex
    replace B3 := B3.ext ex
    replace HQ1 := HQ1.ext ex
    refine wl_y (y_assign rfl) rfl ?_
    refine wl_nil ?_
    refine wq_then_norm (hK8 ?_)
    refine wc_seq ?_; intro K9 hK9
    refine wc_region ?_
    refine wl_y (y_move rfl) rfl ?_
    refine wl_call Tryz.func9 rfl rfl rfl (comOf_any _ (HB.ext E) hc (by omega) fc) rfl ?_
    rintro e w4 ⟨ds, rfl, HN, h258, ex⟩
    refine ⟨_, rfl, ?_⟩
    replace E := E.ext ex
    replace HP1 := HP1.ext ex
    replace B3 := B3.ext ex
    replace HQ1 := HQ1.ext ex
    replace B5 := B5.ext ex
    have HC1 := HN.at; obtain ⟨d0, d1, d2, d3, d4, d5, d6, d7, rfl, _⟩ := HN
    refine wl_y (y_move rfl) rfl ?_
    refine wl_y (y_extract rfl rfl) rfl ?_
    refine wl_y (y_extract rfl rfl) rfl ?_
    refine wl_ef (ef_alloc (Z := #[.slice none 0 0, .bool false, .slice none 0 0, .slice none 0 0, .slice none 0 0, .int .u8 0, .slice none 0 0, .slice none 0 0, .slice none 0 0]) (by kernel_rfl)) rfl ?_
    rintro _ wA7 ⟨gB7, rfl, D7, hgB7, exA⟩
    refine wl_ef (ef_storeP (o := 0) rfl rfl (by kernel_rfl) D7 (Nat.le_of_ble_eq_true rfl) (all_ones rfl)) rfl ?_
    rintro _ wB7 ⟨rfl, B7, cg⟩
    have ex := exA.chg cg hgB7; clear cg exA D7
    have lB7 := B7.lt; have zB7 := ex.size
    replace E := E.ext ex
    replace HP1 := HP1.ext ex
    replace B3 := B3.ext ex
    replace HQ1 := HQ1.ext ex
    replace B5 := B5.ext ex
    replace HC1 := HC1.ext ex
    refine wl_y (y_assign rfl) rfl ?_
    refine wl_nil ?_
    refine wq_then_norm (hK9 ?_)
    refine wc_seq ?_; intro K10 hK10
    refine wc_region ?_
    refine wl_y (y_move rfl) rfl ?_
    refine wl_call Tryz.func10 rfl rfl rfl (rPackageOf_any _ (HB.ext E) hc (by omega)) rfl ?_
    rintro e w5 ⟨es, rfl, HR, ex⟩
    refine ⟨_, rfl, ?_⟩
    replace E := E.ext ex
    replace HP1 := HP1.ext ex
    replace B3 := B3.ext ex
    replace HQ1 := HQ1.ext ex
    replace B5 := B5.ext ex
    replace HC1 := HC1.ext ex
    replace B7 := B7.ext ex
    have HP2 := HR.at (HB.ext E); obtain ⟨f0, f1, f2, f3, f4, f5, f6, rfl, _⟩ := HR
    refine wl_y (y_move rfl) rfl ?_
    refine wl_y (y_extract rfl rfl) rfl ?_
    refine wl_y (y_extract rfl rfl) rfl ?_
    refine wl_ef (ef_alloc (Z := #[.slice none 0 0, .slice none 0 0, .slice none 0 0, .slice none 0 0, .int .u8 0, .slice none 0 0, .slice none 0 0, .slice none 0 0]) (by kernel_rfl)) rfl ?_
    rintro _ wA9 ⟨gB9, rfl, D9, hgB9, exA⟩
    refine wl_ef (ef_storeP (o := 0) rfl rfl (by kernel_rfl) D9 (Nat.le_of_ble_eq_true rfl) (all_ones rfl)) rfl ?_
    rintro _ wB9 ⟨rfl, B9, cg⟩
    have ex := exA.chg cg hgB9; clear cg exA D9
    have lB9 := B9.lt; have zB9 := ex.size
    replace E := E.ext ex
    replace HP1 := HP1.ext ex
    replace B3 := B3.ext ex
    replace HQ1 := HQ1.ext ex
    replace B5 := B5.ext ex
    replace HC1 := HC1.ext ex
    replace B7 := B7.ext ex
    replace HP2 := HP2.ext ex
    refine wl_y (y_assign rfl) rfl ?_
    refine wl_nil ?_
    refine wq_then_norm (hK10 ?_)
    refine wc_seq ?_; intro K11 hK11
    refine wc_region ?_
    refine wl_y (y_move rfl) rfl ?_
    refine wl_call Tryz.func11 rfl rfl rfl (rProposalOf_any _ (HB.ext E) hc (by omega)) rfl ?_
    rintro e w6 ⟨es, rfl, HR, ex⟩
    refine ⟨_, rfl, ?_⟩
    replace E := E.ext ex
    replace HP1 := HP1.ext ex
    replace B3 := B3.ext ex
    replace HQ1 := HQ1.ext ex
    replace B5 := B5.ext ex
    replace HC1 := HC1.ext ex
    replace B7 := B7.ext ex
    replace HP2 := HP2.ext ex
    replace B9 := B9.ext ex
    have HQ2 := HR.at (HB.ext E); obtain ⟨k0, k1, k2, k3, k4, k5, k6, k7, k8, k9, k10, k11, rfl, _⟩ := HR
    refine wl_y (y_move rfl) rfl ?_
    refine wl_y (y_extract rfl rfl) rfl ?_
    refine wl_y (y_extract rfl rfl) rfl ?_
    refine wl_ef (ef_alloc (Z := #[.int .u8 0, .slice none 0 0, .slice none 0 0, .slice none 0 0, .slice none 0 0, .int .u8 0, .slice none 0 0, .slice none 0 0, .slice none 0 0, .slice none 0 0, .slice none 0 0, .slice none 0 0, .int .u8 0, .slice none 0 0, .slice none 0 0, .int .i64 0]) (by kernel_rfl)) rfl ?_
    rintro _ wA11 ⟨gB11, rfl, D11, hgB11, exA⟩
    refine wl_ef (ef_storeP (o := 0) rfl rfl (by kernel_rfl) D11 (Nat.le_of_ble_eq_true rfl) (all_ones rfl)) rfl ?_
    rintro _ wB11 ⟨rfl, B11, cg⟩
    have ex := exA.chg cg hgB11; clear cg exA D11
    have lB11 := B11.lt; have zB11 := ex.size
    replace E := E.ext ex
    replace HP1 := HP1.ext ex
    replace B3 := B3.ext ex
    replace HQ1 := HQ1.ext ex
    replace B5 := B5.ext ex
    replace HC1 := HC1.ext ex
    replace B7 := B7.ext ex
    replace HP2 := HP2.ext ex
    replace B9 := B9.ext ex
    replace HQ2 := HQ2.ext ex
    refine wl_y (y_assign rfl) rfl ?_
    refine wl_nil ?_
    refine wq_then_norm (hK11 ?_)
    refine wc_seq ?_; intro K12 hK12
    refine wc_region ?_
    refine wl_y (y_move rfl) rfl ?_
    refine wl_call Tryz.func12 rfl rfl rfl (rCommitOf_any _ (HB.ext E) hc (by omega)) rfl ?_
    rintro e w7 ⟨es, rfl, HR, ex⟩
    refine ⟨_, rfl, ?_⟩
    replace E := E.ext ex
    replace HP1 := HP1.ext ex
    replace B3 := B3.ext ex
    replace HQ1 := HQ1.ext ex
    replace B5 := B5.ext ex
    replace HC1 := HC1.ext ex
    replace B7 := B7.ext ex
    replace HP2 := HP2.ext ex
    replace B9 := B9.ext ex
    replace HQ2 := HQ2.ext ex
    replace B11 := B11.ext ex
    have HC2 := HR.at (HB.ext E); obtain ⟨l0, l1, l2, l3, l4, l5, l6, l7, rfl, _⟩ := HR
    refine wl_y (y_move rfl) rfl ?_
    refine wl_y (y_extract rfl rfl) rfl ?_
    refine wl_y (y_extract rfl rfl) rfl ?_
    refine wl_ef (ef_alloc (Z := #[.slice none 0 0, .bool false, .slice none 0 0, .slice none 0 0, .slice none 0 0, .int .u8 0, .slice none 0 0, .slice none 0 0, .slice none 0 0]) (by kernel_rfl)) rfl ?_
    rintro _ wA13 ⟨gB13, rfl, D13, hgB13, exA⟩
    refine wl_ef (ef_storeP (o := 0) rfl rfl (by kernel_rfl) D13 (Nat.le_of_ble_eq_true rfl) (all_ones rfl)) rfl ?_
    rintro _ wB13 ⟨rfl, B13, cg⟩
    have ex := exA.chg cg hgB13; clear cg exA D13
    have lB13 := B13.lt; have zB13 := ex.size
    replace E := E.ext ex
    replace HP1 := HP1.ext ex
    replace B3 := B3.ext ex
    replace HQ1 := HQ1.ext ex
    replace B5 := B5.ext ex
    replace HC1 := HC1.ext ex
    replace B7 := B7.ext ex
    replace HP2 := HP2.ext ex
    replace B9 := B9.ext ex
    replace HQ2 := HQ2.ext ex
    replace B11 := B11.ext ex
    replace HC2 := HC2.ext ex
    refine wl_y (y_assign rfl) rfl ?_
    refine wl_nil ?_
    refine wq_then_norm (hK12 ?_)
    refine wc_seq ?_; intro K13 hK13
    refine wc_region ?_
    refine wl_y (y_move rfl) rfl ?_
    refine wl_y (y_conv rfl Tryz.underlying28 Tryz.underlying3 (i64_ok (by omega) (by omega))) rfl ?_
    refine wl_y (y_move rfl) rfl ?_
    refine wl_y (Y.as (y_eql rfl rfl) (congrArg Value.bool (decide_eq_true rfl))) rfl ?_
    refine wl_y (y_move rfl) rfl ?_
    refine wl_gy 54 rfl rfl (y_move rfl) rfl ?_
    refine wl_gy 54 rfl rfl (y_conv rfl Tryz.underlying28 Tryz.underlying3 (i64_ok (by omega) (by omega))) rfl ?_
    refine wl_gy 54 rfl rfl (y_move rfl) rfl ?_
    refine wl_gy 54 rfl rfl (Y.as (y_eql rfl rfl) (congrArg Value.bool (decide_eq_true rfl))) rfl ?_
    refine wl_y (y_pickt rfl rfl) rfl ?_
    refine wl_y (y_move rfl) rfl ?_
    refine wl_gy 60 rfl rfl (y_move rfl) rfl ?_
    refine wl_gy 60 rfl rfl (y_conv rfl Tryz.underlying28 Tryz.underlying3 (i64_ok (by omega) (by omega))) rfl ?_
    refine wl_gy 60 rfl rfl (y_move rfl) rfl ?_
    refine wl_gy 60 rfl rfl (Y.as (y_eql rfl rfl) (congrArg Value.bool (decide_eq_true rfl))) rfl ?_
    refine wl_y (y_pickt rfl rfl) rfl ?_
    refine wl_y (y_move rfl) rfl ?_
    refine wl_gy 66 rfl rfl (y_loadx (o := 0) (s := 8) rfl Tryz.underlying27 rfl (by kernel_rfl) B3 rfl) rfl ?_
    refine wl_gy 66 rfl rfl (y_loadx (o := 0) (s := 8) rfl Tryz.underlying27 rfl (by kernel_rfl) B9 rfl) rfl ?_
    refine wl_gcall 66 rfl rfl Tryz.func13 rfl rfl rfl (samePack_any _ HP1 HP2 gp gp) rfl ?_
    rintro e w8 ⟨rfl, ex⟩
    refine ⟨_, rfl, ?_⟩
    replace E := E.ext ex
    replace HP1 := HP1.ext ex
    replace B3 := B3.ext ex
    replace HQ1 := HQ1.ext ex
    replace B5 := B5.ext ex
    replace HC1 := HC1.ext ex
    replace B7 := B7.ext ex
    replace HP2 := HP2.ext ex
    replace B9 := B9.ext ex
    replace HQ2 := HQ2.ext ex
    replace B11 := B11.ext ex
    replace HC2 := HC2.ext ex
    replace B13 := B13.ext ex
    rw [decide_eq_true rfl]
    refine wl_y (y_pickt rfl rfl) rfl ?_
    refine wl_y (y_move rfl) rfl ?_
    refine wl_gy 71 rfl rfl (y_loadx (o := 0) (s := 16) rfl Tryz.underlying32 rfl (by kernel_rfl) B5 rfl) rfl ?_
    refine wl_gy 71 rfl rfl (y_loadx (o := 0) (s := 16) rfl Tryz.underlying32 rfl (by kernel_rfl) B11 rfl) rfl ?_
    refine wl_gcall 71 rfl rfl Tryz.func14 rfl rfl rfl (sameProp_any _ HQ1 HQ2 gq gq) rfl ?_
    rintro e w9 ⟨rfl, ex⟩
    refine ⟨_, rfl, ?_⟩
    replace E := E.ext ex
    replace HP1 := HP1.ext ex
    replace B3 := B3.ext ex
    replace HQ1 := HQ1.ext ex
    replace B5 := B5.ext ex
    replace HC1 := HC1.ext ex
    replace B7 := B7.ext ex
    replace HP2 := HP2.ext ex
    replace B9 := B9.ext ex
    replace HQ2 := HQ2.ext ex
    replace B11 := B11.ext ex
    replace HC2 := HC2.ext ex
    replace B13 := B13.ext ex
    rw [decide_eq_true rfl]
    refine wl_y (y_pickt rfl rfl) rfl ?_
    refine wl_y (y_move rfl) rfl ?_
    refine wl_gy 76 rfl rfl (y_loadx (o := 0) (s := 9) rfl Tryz.underlying40 rfl (by kernel_rfl) B7 rfl) rfl ?_
    refine wl_gy 76 rfl rfl (y_loadx (o := 0) (s := 9) rfl Tryz.underlying40 rfl (by kernel_rfl) B13 rfl) rfl ?_
    refine wl_gcall 76 rfl rfl Tryz.func15 rfl rfl rfl (sameCom_any _ HC1 HC2 gc gc) rfl ?_
    rintro e w10 ⟨rfl, ex⟩
    refine ⟨_, rfl, ?_⟩
    replace E := E.ext ex
    replace HP1 := HP1.ext ex
    replace B3 := B3.ext ex
    replace HQ1 := HQ1.ext ex
    replace B5 := B5.ext ex
    replace HC1 := HC1.ext ex
    replace B7 := B7.ext ex
    replace HP2 := HP2.ext ex
    replace B9 := B9.ext ex
    replace HQ2 := HQ2.ext ex
    replace B11 := B11.ext ex
    replace HC2 := HC2.ext ex
    replace B13 := B13.ext ex
    rw [decide_eq_true rfl]
    refine wl_y (y_pickt rfl rfl) rfl ?_
    refine wl_y (y_assign rfl) rfl ?_
    refine wl_nil ?_
    refine wq_then_norm (hK13 ?_)
    refine wc_ret ?_
    refine hret rfl ?_
    exact ⟨rfl, E⟩
end Go.Proofs.YtpgalbgonmclaaaGreat
