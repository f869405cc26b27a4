/- The law MsgInfos. -/
import Derived.Test.YtpgalbgonmclaaaMuD
import Derived.Test.YtpgalbgonmclaaaMsE
import Derived.Test.YtpgalbgonmclaaaVg
namespace Go.Proofs.Ytpgalbgonmclaaa
open Go.RowKit
attribute [local irreducible] Y Ef WL WC WK WQ WM OpM WN WF OpN WJ OpJ WG OpG
open Wire Nd M20
theorem fit_inf0 : Inf.zero.Fit := ⟨Nat.zero_le _, Nat.zero_le _, Nat.zero_le _, Nat.zero_le _, Nat.zero_le _⟩
theorem infOf_fit {b : List UInt8} (h : b.length ≤ 10000) : (infOf b).1.Fit := by
  unfold infOf wholeX
  split
  · exact fit_inf0
  · split
    · exact inf_fit h
    · exact fit_inf0
theorem msgInfos_law (cs : Array Value) (i : Inf) (A : Option Addr) (n c : Nat) (b : List UInt8) (w : World) (H : InfAt w cs i) (HB : Bs w A n b) (_hn : n ≤ maxLen) (hc : n ≤ c) :
    Calls Try.prog 7 #[.agg cs, .slice A n c] w fun e w' => e = .returned (.bool true) ∧ Below w.heap.size w w' := by
  have HI := H
  have HC := (InfC.ctx H).at
  have hbl := HB.1
  obtain ⟨gr, tr, u, tg, sg, rfl, he, hz, a1, a2, a3, a4, a5⟩ := H
  have n4 := a4.1; have n5 := a5.1
  have E := Ext.refl w
  refine vc_enter1 90 Try.func7 rfl rfl rfl rfl ?_
  intro Q hret
  refine wc_seq ?_; intro K1 hK1
  refine wc_region ?_
  refine wl_ef (ef_box rfl rfl) rfl ?_
  rintro _ wB2 ⟨gB2, rfl, B2, hgB2, ex⟩
  have lB2 := B2.lt; have zB2 := ex.size
  replace E := E.ext ex
  refine wl_y (y_assign rfl) rfl ?_
  refine wl_nil ?_
  refine wq_then_norm (hK1 ?_)
  refine wc_seq ?_; intro K2 hK2
  refine wc_seq ?_; intro K3 hK3
  refine wc_region ?_
  refine wl_call Try.func10 rfl rfl rfl (alive20_any _) rfl ?_
  rintro e w1 ⟨rfl, ex⟩
  refine ⟨_, rfl, ?_⟩
  replace E := E.ext ex
  replace B2 := B2.ext ex
  refine wl_y (y_not rfl) rfl ?_
  refine wl_nil ?_
  refine wq_then_norm (hK3 ?_)
  refine wc_false rfl rfl ?_
  refine wc_skip ?_
  refine wq_then_norm (hK2 ?_)
  refine wc_seq ?_; intro K4 hK4
  refine wc_seq ?_; intro K5 hK5
  refine wc_region ?_
  refine wl_y (y_fieldAddr (o := 0) (s := 4) (off := 0) (o' := 0) rfl Try.underlying67 rfl (by kernel_rfl) rfl rfl) rfl ?_
  refine wl_y (y_loadx (o := 0) (s := 4) rfl Try.underlying50 rfl (by kernel_rfl) B2 rfl) rfl ?_
  refine wl_call Try.func21 rfl rfl rfl (smallCtx20_any _ (HC.ext E) he) rfl ?_
  rintro e w2 ⟨rfl, ex⟩
  refine ⟨_, rfl, ?_⟩
  replace E := E.ext ex
  replace B2 := B2.ext ex
  skip
  refine wl_y (y_not rfl) rfl ?_
  refine wl_yaskb (y_move rfl) rfl (fun q0 => ?_) (fun q0 => ?_)
  · skip
    refine wl_gno 21 rfl rfl rfl rfl ?_
    refine wl_gno 21 rfl rfl rfl rfl ?_
    refine wl_gno 21 rfl rfl rfl rfl ?_
    refine wl_gno 21 rfl rfl rfl rfl ?_
    refine wl_y (y_pickt rfl rfl) rfl ?_
    refine wl_y (y_move rfl) rfl ?_
    refine wl_gno 27 rfl rfl rfl rfl ?_
    refine wl_gno 27 rfl rfl rfl rfl ?_
    refine wl_gno 27 rfl rfl rfl rfl ?_
    refine wl_gno 27 rfl rfl rfl rfl ?_
    refine wl_y (y_pickt rfl rfl) rfl ?_
    refine wl_y (y_move rfl) rfl ?_
    refine wl_gno 33 rfl rfl rfl rfl ?_
    refine wl_gno 33 rfl rfl rfl rfl ?_
    refine wl_gno 33 rfl rfl rfl rfl ?_
    refine wl_y (y_pickt rfl rfl) rfl ?_
    refine wl_nil ?_
    refine wq_then_norm (hK5 ?_)
    refine wc_true rfl rfl ?_
    refine wc_seq ?_; intro K6 hK6
    refine wc_region ?_
    refine wl_y (y_assign rfl) rfl ?_
    refine wl_nil ?_
    refine wq_then_norm (hK6 ?_)
    refine wc_ret ?_
    refine wq_then_ret ?_
    refine hret rfl ?_
    exact ⟨rfl, E⟩
  · skip
    refine wl_gy 21 rfl rfl (y_fieldAddr (o := 4) (s := 1) (off := 0) (o' := 4) rfl Try.underlying67 rfl (by kernel_rfl) rfl rfl) rfl ?_
    refine wl_gy 21 rfl rfl (y_load1 rfl Try.underlying22 rfl (B2.get (i := 4) rfl)) rfl ?_
    refine wl_gy 21 rfl rfl (y_len_slice rfl Try.underlying22) rfl ?_
    refine wl_gyask 21 rfl rfl (y_gtr rfl rfl) rfl (fun q1 => ?_) (fun q1 => ?_)
    · skip
      refine wl_y (y_pickf rfl rfl) rfl ?_
      refine wl_y (y_move rfl) rfl ?_
      refine wl_gno 27 rfl rfl rfl rfl ?_
      refine wl_gno 27 rfl rfl rfl rfl ?_
      refine wl_gno 27 rfl rfl rfl rfl ?_
      refine wl_gno 27 rfl rfl rfl rfl ?_
      refine wl_y (y_pickt rfl rfl) rfl ?_
      refine wl_y (y_move rfl) rfl ?_
      refine wl_gno 33 rfl rfl rfl rfl ?_
      refine wl_gno 33 rfl rfl rfl rfl ?_
      refine wl_gno 33 rfl rfl rfl rfl ?_
      refine wl_y (y_pickt rfl rfl) rfl ?_
      refine wl_nil ?_
      refine wq_then_norm (hK5 ?_)
      refine wc_true rfl rfl ?_
      refine wc_seq ?_; intro K7 hK7
      refine wc_region ?_
      refine wl_y (y_assign rfl) rfl ?_
      refine wl_nil ?_
      refine wq_then_norm (hK7 ?_)
      refine wc_ret ?_
      refine wq_then_ret ?_
      refine hret rfl ?_
      exact ⟨rfl, E⟩
    · skip
      refine wl_y (y_pickf rfl rfl) rfl ?_
      refine wl_y (y_move rfl) rfl ?_
      refine wl_gy 27 rfl rfl (y_fieldAddr (o := 6) (s := 1) (off := 0) (o' := 6) rfl Try.underlying67 rfl (by kernel_rfl) rfl rfl) rfl ?_
      refine wl_gy 27 rfl rfl (y_load1 rfl Try.underlying22 rfl (B2.get (i := 6) rfl)) rfl ?_
      refine wl_gy 27 rfl rfl (y_len_slice rfl Try.underlying22) rfl ?_
      refine wl_gyask 27 rfl rfl (y_gtr rfl rfl) rfl (fun q2 => ?_) (fun q2 => ?_)
      · skip
        refine wl_y (y_pickf rfl rfl) rfl ?_
        refine wl_y (y_move rfl) rfl ?_
        refine wl_gno 33 rfl rfl rfl rfl ?_
        refine wl_gno 33 rfl rfl rfl rfl ?_
        refine wl_gno 33 rfl rfl rfl rfl ?_
        refine wl_y (y_pickt rfl rfl) rfl ?_
        refine wl_nil ?_
        refine wq_then_norm (hK5 ?_)
        refine wc_true rfl rfl ?_
        refine wc_seq ?_; intro K8 hK8
        refine wc_region ?_
        refine wl_y (y_assign rfl) rfl ?_
        refine wl_nil ?_
        refine wq_then_norm (hK8 ?_)
        refine wc_ret ?_
        refine wq_then_ret ?_
        refine hret rfl ?_
        exact ⟨rfl, E⟩
      · skip
        refine wl_y (y_pickf rfl rfl) rfl ?_
        refine wl_y (y_move rfl) rfl ?_
        refine wl_gy 33 rfl rfl (y_move rfl) rfl ?_
        refine wl_gy 33 rfl rfl (y_len_slice rfl Try.underlying22) rfl ?_
        refine wl_gy 33 rfl rfl (y_gtr rfl rfl) rfl ?_
        refine wl_y (y_pickf rfl rfl) rfl ?_
        refine wl_nil ?_
        refine wq_then_norm (hK5 ?_)
        refine wc_dec rfl (fun hc2 => ?_) (fun hc2 => ?_)
        · skip
          refine wc_seq ?_; intro K9 hK9
          refine wc_region ?_
          refine wl_y (y_assign rfl) rfl ?_
          refine wl_nil ?_
          refine wq_then_norm (hK9 ?_)
          refine wc_ret ?_
          refine wq_then_ret ?_
          refine hret rfl ?_
          exact ⟨rfl, E⟩
        · skip
          refine wc_skip ?_
          refine wq_then_norm (hK4 ?_)
          refine wc_seq ?_; intro K10 hK10
          have hs : i.ctx.Small := by simpa using q0
          have hfb := infOf_fit (b := b) (by omega)
          refine wc_region ?_
          refine wl_y (y_loadx (o := 0) (s := 7) rfl Try.underlying67 rfl (by kernel_rfl) B2 rfl) rfl ?_
          refine wl_call Try.func44 rfl rfl rfl (rInfo_any _ (HI.ext E)) rfl ?_
          rintro e w3 ⟨rfl, ex⟩
          refine ⟨_, rfl, ?_⟩
          replace E := E.ext ex
          replace B2 := B2.ext ex
          skip
          refine wl_y (y_assign rfl) rfl ?_
          refine wl_nil ?_
          refine wq_then_norm (hK10 ?_)
          refine wc_seq ?_; intro K11 hK11
          refine wc_region ?_
          refine wl_y (y_loadx (o := 0) (s := 7) rfl Try.underlying67 rfl (by kernel_rfl) B2 rfl) rfl ?_
          refine wl_call Try.func45 rfl rfl rfl (InfoText_any _ (HI.ext E) hs (by omega)) rfl ?_
          rintro e w4 ⟨A6, k6, c6, z6, rfl, T6, hk6, hl6, ex⟩
          refine ⟨_, rfl, ?_⟩
          replace E := E.ext ex
          replace B2 := B2.ext ex
          skip
          refine wl_y (y_move rfl) rfl ?_
          refine wl_y (y_extract rfl rfl) rfl ?_
          refine wl_y (y_extract rfl rfl) rfl ?_
          refine wl_y (y_assign rfl) rfl ?_
          refine wl_y (y_assign rfl) rfl ?_
          refine wl_nil ?_
          refine wq_then_norm (hK11 ?_)
          refine wc_seq ?_; intro K12 hK12
          refine wc_region ?_
          refine wl_y (y_loadx (o := 0) (s := 7) rfl Try.underlying67 rfl (by kernel_rfl) B2 rfl) rfl ?_
          refine wl_call Try.func46 rfl rfl rfl (InfoBytes_any _ (HI.ext E) hs (by omega) (by omega)) rfl ?_
          rintro e w5 ⟨A7, k7, c7, z7, rfl, T7, hk7, hl7, ex⟩
          refine ⟨_, rfl, ?_⟩
          replace E := E.ext ex
          replace B2 := B2.ext ex
          replace T6 := T6.ext ex
          skip
          refine wl_y (y_move rfl) rfl ?_
          refine wl_y (y_extract rfl rfl) rfl ?_
          refine wl_y (y_extract rfl rfl) rfl ?_
          refine wl_y (y_assign rfl) rfl ?_
          refine wl_y (y_assign rfl) rfl ?_
          refine wl_nil ?_
          refine wq_then_norm (hK12 ?_)
          refine wc_seq ?_; intro K13 hK13
          refine wc_region ?_
          refine wl_y (y_move rfl) rfl ?_
          refine wl_call Try.func47 rfl rfl rfl (infOf_any _ (HB.ext E) hc (by omega)) rfl ?_
          rintro e w6 ⟨ds, rfl, HN, h256, ex⟩
          refine ⟨_, rfl, ?_⟩
          replace E := E.ext ex
          replace B2 := B2.ext ex
          replace T6 := T6.ext ex
          replace T7 := T7.ext ex
          have HN2 := HN.at; obtain ⟨gr', tr', u', tg', sg', rfl, _⟩ := HN
          refine wl_y (y_move rfl) rfl ?_
          refine wl_y (y_extract rfl rfl) rfl ?_
          refine wl_y (y_extract rfl rfl) rfl ?_
          refine wl_ef (ef_alloc (Z := #[.slice none 0 0, .int .u64 0, .slice none 0 0, .slice none 0 0, .slice none 0 0, .int .i64 0, .slice none 0 0]) (by kernel_rfl)) rfl ?_
          rintro _ wA10 ⟨gB10, rfl, D10, hgB10, exA⟩
          refine wl_ef (ef_storeP (o := 0) rfl rfl (by kernel_rfl) D10 (Nat.le_of_ble_eq_true rfl) (all_ones rfl)) rfl ?_
          rintro _ wB10 ⟨rfl, B10, cg⟩
          have ex := exA.chg cg hgB10; clear cg exA D10
          have lB10 := B10.lt; have zB10 := ex.size
          replace E := E.ext ex
          replace B2 := B2.ext ex
          replace T6 := T6.ext ex
          replace T7 := T7.ext ex
          replace HN2 := HN2.ext ex
          refine wl_y (y_assign rfl) rfl ?_
          refine wl_nil ?_
          refine wq_then_norm (hK13 ?_)
          refine wc_seq ?_; intro K14 hK14
          refine wc_region ?_
          refine wl_y (y_move rfl) rfl ?_
          refine wl_call Try.func48 rfl rfl rfl (rInfoOf_any _ (HB.ext E) hc (by omega)) rfl ?_
          rintro e w7 ⟨es, rfl, HR, ex⟩
          refine ⟨_, rfl, ?_⟩
          replace E := E.ext ex
          replace B2 := B2.ext ex
          replace T6 := T6.ext ex
          replace T7 := T7.ext ex
          replace HN2 := HN2.ext ex
          replace B10 := B10.ext ex
          have HR2 := HR; obtain ⟨gr'', tr'', u'', tg'', sg'', rfl, _⟩ := HR
          refine wl_y (y_move rfl) rfl ?_
          refine wl_y (y_extract rfl rfl) rfl ?_
          refine wl_y (y_extract rfl rfl) rfl ?_
          refine wl_ef (ef_alloc (Z := #[.slice none 0 0, .int .u64 0, .slice none 0 0, .slice none 0 0, .slice none 0 0, .int .i64 0, .slice none 0 0]) (by kernel_rfl)) rfl ?_
          rintro _ wA12 ⟨gB12, rfl, D12, hgB12, exA⟩
          refine wl_ef (ef_storeP (o := 0) rfl rfl (by kernel_rfl) D12 (Nat.le_of_ble_eq_true rfl) (all_ones rfl)) rfl ?_
          rintro _ wB12 ⟨rfl, B12, cg⟩
          have ex := exA.chg cg hgB12; clear cg exA D12
          have lB12 := B12.lt; have zB12 := ex.size
          replace E := E.ext ex
          replace B2 := B2.ext ex
          replace T6 := T6.ext ex
          replace T7 := T7.ext ex
          replace HN2 := HN2.ext ex
          replace B10 := B10.ext ex
          refine wl_y (y_assign rfl) rfl ?_
          refine wl_nil ?_
          refine wq_then_norm (hK14 ?_)
          refine wc_seq ?_; intro K15 hK15
          refine wc_seq ?_; intro K16 hK16
          refine wc_region ?_
          refine wl_y (y_move rfl) rfl ?_
          refine wl_y (y_conv rfl Try.underlying38 Try.underlying3 (i64_ok (by omega) (by omega))) rfl ?_
          refine wl_y (y_move rfl) rfl ?_
          refine wl_y (Y.as (y_neq rfl rfl) (congrArg Value.bool (decide_eq_false (fun h => h rfl)))) rfl ?_
          refine wl_y (y_move rfl) rfl ?_
          refine wl_gy 64 rfl rfl (y_loadx (o := 0) (s := 7) rfl Try.underlying67 rfl (by kernel_rfl) B10 rfl) rfl ?_
          refine wl_gy 64 rfl rfl (y_loadx (o := 0) (s := 7) rfl Try.underlying67 rfl (by kernel_rfl) B12 rfl) rfl ?_
          refine wl_gcall 64 rfl rfl Try.func49 rfl rfl rfl (sameInf_any _ HN2 (HR2.at (HB.ext E)) hfb hfb) rfl ?_
          rintro e w8 ⟨rfl, ex⟩
          refine ⟨_, rfl, ?_⟩
          replace E := E.ext ex
          replace B2 := B2.ext ex
          replace T6 := T6.ext ex
          replace T7 := T7.ext ex
          replace HN2 := HN2.ext ex
          replace B10 := B10.ext ex
          replace B12 := B12.ext ex
          rw [decide_eq_true rfl]
          refine wl_gy 64 rfl rfl (y_not rfl) rfl ?_
          refine wl_y (y_pickf rfl rfl) rfl ?_
          refine wl_nil ?_
          refine wq_then_norm (hK16 ?_)
          refine wc_false rfl rfl ?_
          refine wc_skip ?_
          refine wq_then_norm (hK15 ?_)
          refine wc_seq ?_; intro K17 hK17
          refine wc_region ?_
          refine wl_y (y_loadx (o := 0) (s := 7) rfl Try.underlying67 rfl (by kernel_rfl) B2 rfl) rfl ?_
          refine wl_call Try.func50 rfl rfl rfl (rInfText_any _ (HI.ext E) hs (by omega)) rfl ?_
          rintro e w12 ⟨A12, k12, c12, rfl, R12, hk12, ex⟩
          refine ⟨_, rfl, ?_⟩
          replace E := E.ext ex
          replace B2 := B2.ext ex
          replace T6 := T6.ext ex
          replace T7 := T7.ext ex
          replace HN2 := HN2.ext ex
          replace B10 := B10.ext ex
          replace B12 := B12.ext ex
          have H14 := R12.bs
          refine wl_y (y_assign rfl) rfl ?_
          refine wl_nil ?_
          refine wq_then_norm (hK17 ?_)
          refine wc_seq ?_; intro K18 hK18
          have X := Ext.refl w12
          have hb2 := B2.lt
          have Eo := E
          have m14 := H14.1
          refine wc_drawG [gB2] (by kernel_rfl) 19 rfl ?_; intro wd13 ex hd13
          replace B2 := B2.ext ex
          replace X := X.ext ex
          refine wg_y 0 rfl (by kernel_rfl) (fun wr (kr : Kept [gB2] _ wr) => y_move rfl) rfl ?_
          refine wg_y 1 rfl (by kernel_rfl) (fun wr (kr : Kept [gB2] _ wr) => y_move rfl) rfl ?_
          refine wg_y 2 rfl (by kernel_rfl) (fun wr (kr : Kept [gB2] _ wr) => y_move rfl) rfl ?_
          refine wg_y 3 rfl (by kernel_rfl) (fun wr (kr : Kept [gB2] _ wr) => y_move rfl) rfl ?_
          refine wg_one 4 (by kernel_rfl) ?_; refine og_call rfl Try.func15 rfl rfl rfl (ltold_any _ (T6.ext X) (H14.ext X) (fun _ => rfl) (by omega)) rfl ?_
          rintro e w13 ⟨rfl, ex⟩
          refine ⟨_, rfl, Kept.ext ex (kin B2.lt kno), ?_⟩
          replace B2 := B2.ext ex
          replace X := X.ext ex
          refine wg_y 5 rfl (by kernel_rfl) (fun wr (kr : Kept [gB2] _ wr) => y_move rfl) rfl ?_
          refine wg_gy 6 rfl (by kernel_rfl) 77 rfl rfl (fun wr (kr : Kept [gB2] _ wr) => y_move rfl) rfl ?_
          refine wg_gy 7 rfl (by kernel_rfl) 77 rfl rfl (fun wr (kr : Kept [gB2] _ wr) => y_move rfl) rfl ?_
          refine wg_gy 8 rfl (by kernel_rfl) 77 rfl rfl (fun wr (kr : Kept [gB2] _ wr) => y_move rfl) rfl ?_
          refine wg_gy 10 rfl (by kernel_rfl) 77 rfl rfl (fun wr (kr : Kept [gB2] _ wr) => y_move rfl) rfl ?_
          refine wg_gy 12 rfl (by kernel_rfl) 77 rfl rfl (fun wr (kr : Kept [gB2] _ wr) => y_fieldAddr (o := 6) (s := 1) (off := 0) (o' := 6) rfl Try.underlying67 rfl (by kernel_rfl) rfl rfl) rfl ?_
          refine wg_gy 13 rfl (by kernel_rfl) 77 rfl rfl (fun wr (kr : Kept [gB2] _ wr) => y_load1 rfl Try.underlying22 rfl ((B2.kep kr).get (i := 6) rfl)) rfl ?_
          have hz9 := X.size
          refine wg_one 9 (by kernel_rfl) ?_; refine og_gef rfl 77 rfl rfl (ef_lit (z := .int .u8 0) Try.underlying22 (by kernel_rfl) rfl rfl rfl rfl rfl) rfl ?_
          rintro _ w14 ⟨g1, rfl, B1, hg1, ex⟩
          refine ⟨Kept.ext ex (kin B2.lt kno), ?_⟩
          replace B2 := B2.ext ex
          replace X := X.ext ex
          have R0 : Row w14 w13.heap.size 5 (some ⟨g1, 0, none⟩) 0 0 [] := Row.new B1 hg1 rfl (by unfold maxLen; omega); have R1 := R0.lower hz9
          refine wg_one 11 (by kernel_rfl) ?_; refine og_gef rfl 77 rfl rfl (ef_app0 rfl rfl eltB R1 (Bs.ext H14 X).2 (by rw [List.length_map, H14.1]) (by intro u hu; exact bv_one u hu) (by omega) (by omega) X.size) rfl ?_
          rintro _ w15 ⟨A2, c2, rfl, R2, be, gr2, hgl⟩
          have kp := Kept.own gr2 (kin B2.lt kno) (kin (R1.sepLo hb2) kno)
          refine ⟨kp, ?_⟩
          replace B2 := B2.kep kp
          replace X := X.trans be
          refine wg_one 14 (by kernel_rfl) ?_; refine og_gcall rfl 77 rfl rfl Try.func51 rfl rfl rfl (refVec_any sg.A sg.n sg.c _ _ (Bs.ext a5 (Eo.ext X)) (by omega)) rfl ?_
          rintro e w16 ⟨A3, k3, c3, rfl, R3, hk3, ex⟩
          refine ⟨_, rfl, Kept.ext ex (kin B2.lt kno), ?_⟩
          replace B2 := B2.ext ex
          replace X := X.ext ex
          replace R2 := R2.ext ex
          have hl3 := lsz_le sg.n; have KS3 := R3.fb.kp (S := []) (by simp)
          have n3 := KS3.out.1
          refine wg_one 15 (by kernel_rfl) ?_; refine og_gef rfl 77 rfl rfl (ef_app rfl rfl eltB R2 KS3.out.2 (by rw [List.length_map]; omega) (by intro u hu; exact bv_one u hu) (by omega) (by omega) X.size) rfl ?_
          rintro _ w17 ⟨A4, c4, rfl, R4, be, gr4, hgl4⟩
          have kp := Kept.own gr4 (kin B2.lt kno) (kin (R2.sepLo hb2) kno)
          refine ⟨kp, ?_⟩
          replace B2 := B2.kep kp
          replace X := X.trans be; have H4 := R4.cat.bs
          have m4 := H4.1
          refine wg_one 16 (by kernel_rfl) ?_; refine og_gcall rfl 77 rfl rfl Try.func15 rfl rfl rfl (ltold_any _ (T7.ext X) H4 (fun _ => by unfold infB; simp) (by omega)) rfl ?_
          rintro e w18 ⟨rfl, ex⟩
          refine ⟨_, rfl, Kept.ext ex (kin B2.lt kno), ?_⟩
          replace B2 := B2.ext ex
          replace X := X.ext ex
          replace H4 := H4.ext ex
          refine wg_y 17 rfl (by kernel_rfl) (fun wr (kr : Kept [gB2] _ wr) => y_pickt rfl rfl) rfl ?_
          refine wg_y 18 rfl (by kernel_rfl) (fun wr (kr : Kept [gB2] _ wr) => y_assign rfl) rfl ?_
          refine wg_done (by kernel_rfl) ?_
          refine wq_nop ?_
          refine wq_then_norm (hK18 ?_)
          refine wc_ret ?_
          refine hret rfl ?_
          exact ⟨rfl, Eo.ext X⟩
end Go.Proofs.Ytpgalbgonmclaaa
