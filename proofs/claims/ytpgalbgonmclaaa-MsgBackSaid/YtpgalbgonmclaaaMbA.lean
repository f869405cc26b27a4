/- Messages: there and back; the law MsgBack. -/
import Derived.Test.YtpgalbgonmclaaaMsW
import Derived.Test.YtpgalbgonmclaaaMsO
namespace Go.Proofs.Ytpgalbgonmclaaa
open Go.RowKit
attribute [local irreducible] Y Ef WL WC WK WQ WM OpM WN WF OpN WJ OpJ WG OpG
open Wire Nd M20
theorem messB_sm {m : Mess} (h : okMsg m) (hs : m.Small) : (messB m).length ≤ 260000 := by
  have h1 := headB_sm h hs
  have h2 := vec_le m.sig; have h3 := vec_le m.tag; have h4 := vec_le m.member
  obtain ⟨_, _, _, k1, k2, k3⟩ := hs
  unfold messB sealB
  simp only [List.length_append]
  split
  · omega
  · simp only [List.length_nil]; omega
theorem messOf_there {m : Mess} (ok : okMsg m) (hf : m.Fit) (he : m.epoch < 18446744073709551616) : messOf (messB m) = (m, 0) := by
  have e := messX_there ok hf he []
  rw [List.append_nil] at e
  unfold messOf
  rw [e]
  exact wholeX_there (decide_eq_true ok)
theorem messOf_back {b : List UInt8} (h : (messOf b).2 = 0) : okMsg (messOf b).1 ∧ messB (messOf b).1 = b ∧ (messOf b).1 = (messX (.ok b)).1 := by
  obtain ⟨h1, h2, h3⟩ := wholeX_ok (good_mess (good_ok b)) h
  have h3' : (messOf b).1 = (messX (.ok b)).1 := h3
  have ok := of_decide_eq_true h2
  have e := messX_back h1 ok
  rw [List.append_nil] at e
  injection e with e
  rw [h3']
  exact ⟨ok, e.symm, rfl⟩
theorem fit_mess0 : Mess.zero.Fit := ⟨Nat.zero_le _, prop0_fit, com0_fit, Nat.zero_le _, Nat.zero_le _, Nat.zero_le _⟩
theorem msgBack_law (cs : Array Value) (m : Mess) (A : Option Addr) (n c : Nat) (b : List UInt8) (w : World) (H : MsgAt w cs m) (HB : Bs w A n b) (_hn : n ≤ maxLen) (hc : n ≤ c) :
    Calls Try.prog 9 #[.agg cs, .slice A n c] w fun e w' => e = .returned (.bool true) ∧ Below w.heap.size w w' := by
  have HM := H
  have hbl := HB.1
  obtain ⟨gr, i, h0, h1, h2, s, h4, h5, g, l0, l1, l2, t, l4, l5, it, c0, c1, c2, q, c4, c5, ct, sg, tg, mb, rfl, hep, _⟩ := H
  have E := Ext.refl w
  refine vc_enter1 69 Try.func9 rfl rfl rfl rfl ?_
  intro Q hret
  refine wc_seq ?_; intro K1 hK1
  refine wc_region ?_
  refine wl_ef (ef_box rfl rfl) rfl ?_
  rintro _ wB2 ⟨gB2, rfl, B2, hgB2, ex⟩
  have lB2 := B2.lt; have zB2 := ex.size
  replace E := E.ext ex
  refine wl_y (y_assign rfl) rfl ?_
  refine wl_nil ?_
  refine wq_then_norm (hK1 ?_)
  refine wc_seq ?_; intro K2 hK2
  refine wc_seq ?_; intro K3 hK3
  refine wc_region ?_
  refine wl_call Try.func10 rfl rfl rfl (alive20_any _) rfl ?_
  rintro e w1 ⟨rfl, ex⟩
  refine ⟨_, rfl, ?_⟩
  replace E := E.ext ex
  replace B2 := B2.ext ex
  refine wl_y (y_not rfl) rfl ?_
  refine wl_nil ?_
  refine wq_then_norm (hK3 ?_)
  refine wc_false rfl rfl ?_
  refine wc_skip ?_
  refine wq_then_norm (hK2 ?_)
  refine wc_seq ?_; intro K4 hK4
  refine wc_seq ?_; intro K5 hK5
  refine wc_region ?_
  refine wl_y (y_loadx (o := 0) (s := 32) rfl Try.underlying48 rfl (by kernel_rfl) B2 rfl) rfl ?_
  refine wl_call Try.func20 rfl rfl rfl (smallMsg_any _ (HM.ext E)) rfl ?_
  rintro e w2 ⟨rfl, ex⟩
  refine ⟨_, rfl, ?_⟩
  replace E := E.ext ex
  replace B2 := B2.ext ex
  skip
  refine wl_y (y_not rfl) rfl ?_
  refine wl_yaskb (y_move rfl) rfl (fun q0 => ?_) (fun q0 => ?_)
  · skip
    refine wl_gno 18 rfl rfl rfl rfl ?_
    refine wl_gno 18 rfl rfl rfl rfl ?_
    refine wl_gno 18 rfl rfl rfl rfl ?_
    refine wl_y (y_pickt rfl rfl) rfl ?_
    refine wl_nil ?_
    refine wq_then_norm (hK5 ?_)
    refine wc_true rfl rfl ?_
    refine wc_seq ?_; intro K6 hK6
    refine wc_region ?_
    refine wl_y (y_assign rfl) rfl ?_
    refine wl_nil ?_
    refine wq_then_norm (hK6 ?_)
    refine wc_ret ?_
    refine wq_then_ret ?_
    refine hret rfl ?_
    exact ⟨rfl, E⟩
  · skip
    refine wl_gy 18 rfl rfl (y_move rfl) rfl ?_
    refine wl_gy 18 rfl rfl (y_len_slice rfl Try.underlying22) rfl ?_
    refine wl_gy 18 rfl rfl (y_gtr rfl rfl) rfl ?_
    refine wl_y (y_pickf rfl rfl) rfl ?_
    refine wl_nil ?_
    refine wq_then_norm (hK5 ?_)
    refine wc_dec rfl (fun hc2 => ?_) (fun hc2 => ?_)
    · skip
      refine wc_seq ?_; intro K7 hK7
      refine wc_region ?_
      refine wl_y (y_assign rfl) rfl ?_
      refine wl_nil ?_
      refine wq_then_norm (hK7 ?_)
      refine wc_ret ?_
      refine wq_then_ret ?_
      refine hret rfl ?_
      exact ⟨rfl, E⟩
    · skip
      refine wc_skip ?_
      refine wq_then_norm (hK4 ?_)
      refine wc_seq ?_; intro K8 hK8
      have hs : m.Small := by simpa using q0
      have hf := hs.fit
      have hfb : (messX (.ok b)).1.Fit := mess_fit (by show b.length ≤ 10000; omega)
      refine wc_region ?_
      refine wl_y (y_loadx (o := 0) (s := 32) rfl Try.underlying48 rfl (by kernel_rfl) B2 rfl) rfl ?_
      refine wl_call Try.func28 rfl rfl rfl (MsgBytes_any _ (HM.ext E) hf) rfl ?_
      rintro e w5 ⟨A6, k6, c6, z6, rfl, ⟨T6, hk6⟩, ex⟩
      refine ⟨_, rfl, ?_⟩
      replace E := E.ext ex
      replace B2 := B2.ext ex
      skip
      refine wl_y (y_move rfl) rfl ?_
      refine wl_y (y_extract rfl rfl) rfl ?_
      refine wl_y (y_extract rfl rfl) rfl ?_
      refine wl_y (y_assign rfl) rfl ?_
      refine wl_y (y_assign rfl) rfl ?_
      refine wl_nil ?_
      refine wq_then_norm (hK8 ?_)
      refine wc_seq ?_; intro K9 hK9
      refine wc_seq ?_; intro K10 hK10
      by_cases okm : okMsg m
      · skip
        refine wc_region ?_
        obtain ⟨hz6, HB6⟩ := T6.1 okm
        subst hz6
        refine wl_y (y_move rfl) rfl ?_
        refine wl_y (y_conv rfl Try.underlying38 Try.underlying3 (i64_ok (by omega) (by omega))) rfl ?_
        refine wl_y (Y.as (y_eql rfl rfl) (congrArg Value.bool (decide_eq_true rfl))) rfl ?_
        refine wl_nil ?_
        refine wq_then_norm (hK10 ?_)
        refine wc_true rfl rfl ?_
        refine wc_seq ?_; intro K11 hK11
        refine wc_region ?_
        refine wl_y (y_move rfl) rfl ?_
        have hth := messOf_there okm hf hep
        have hlb := messB_sm okm hs
        have hl6 := HB6.1
        have hX6 : messX (.ok (messB m)) = (m, .ok []) := by have e := messX_there okm hf hep []; rw [List.append_nil] at e; exact e
        refine wl_call Try.func63 rfl rfl rfl (messOf_any _ HB6 hk6 (by omega) (by rw [hX6]; exact hf)) rfl ?_
        rintro e w6 ⟨ds, rfl, HN, _, ex⟩
        refine ⟨_, rfl, ?_⟩
        replace E := E.ext ex
        replace B2 := B2.ext ex
        replace T6 := T6.ext ex
        rw [hth] at HN ⊢; have HN2 := HN.at; obtain ⟨gr', i', h0', h1', h2', s', h4', h5', g', l0', l1', l2', t', l4', l5', it', c0', c1', c2', q', c4', c5', ct', sg', tg', mb', rfl, _⟩ := HN
        refine wl_y (y_move rfl) rfl ?_
        refine wl_y (y_extract rfl rfl) rfl ?_
        refine wl_y (y_extract rfl rfl) rfl ?_
        refine wl_ef (ef_alloc (Z := #[.slice none 0 0, .int .u64 0, .int .i64 0, .int .u8 0, .int .u8 0, .slice none 0 0, .slice none 0 0, .slice none 0 0, .slice none 0 0, .int .u8 0, .slice none 0 0, .slice none 0 0, .slice none 0 0, .slice none 0 0, .slice none 0 0, .slice none 0 0, .int .u8 0, .slice none 0 0, .slice none 0 0, .int .i64 0, .slice none 0 0, .bool false, .slice none 0 0, .slice none 0 0, .slice none 0 0, .int .u8 0, .slice none 0 0, .slice none 0 0, .slice none 0 0, .slice none 0 0, .slice none 0 0, .slice none 0 0]) (by kernel_rfl)) rfl ?_
        rintro _ wA7 ⟨gB7, rfl, D7, hgB7, exA⟩
        refine wl_ef (ef_storeP (o := 0) rfl rfl (by kernel_rfl) D7 (Nat.le_of_ble_eq_true rfl) (all_ones rfl)) rfl ?_
        rintro _ wB7 ⟨rfl, B7, cg⟩
        have ex := exA.chg cg hgB7; clear cg exA D7
        have lB7 := B7.lt; have zB7 := ex.size
        replace E := E.ext ex
        replace B2 := B2.ext ex
        replace T6 := T6.ext ex
        replace HN2 := HN2.ext ex
        refine wl_y (y_assign rfl) rfl ?_
        refine wl_nil ?_
        refine wq_then_norm (hK11 ?_)
        refine wc_seq ?_; intro K12 hK12
        refine wc_region ?_
        refine wl_y (y_move rfl) rfl ?_
        refine wl_y (y_conv rfl Try.underlying38 Try.underlying3 (i64_ok (by omega) (by omega))) rfl ?_
        refine wl_y (Y.as (y_neq rfl rfl) (congrArg Value.bool (decide_eq_false (by omega)))) rfl ?_
        refine wl_y (y_move rfl) rfl ?_
        refine wl_gy 39 rfl rfl (y_loadx (o := 0) (s := 32) rfl Try.underlying48 rfl (by kernel_rfl) B2 rfl) rfl ?_
        refine wl_gy 39 rfl rfl (y_loadx (o := 0) (s := 32) rfl Try.underlying48 rfl (by kernel_rfl) B7 rfl) rfl ?_
        refine wl_gcall 39 rfl rfl Try.func64 rfl rfl rfl (sameMsg_any _ (HM.ext E) HN2 hf hf) rfl ?_
        rintro e w7 ⟨rfl, ex⟩
        refine ⟨_, rfl, ?_⟩
        replace E := E.ext ex
        replace B2 := B2.ext ex
        replace T6 := T6.ext ex
        replace HN2 := HN2.ext ex
        replace B7 := B7.ext ex
        rw [decide_eq_true rfl]
        refine wl_gy 39 rfl rfl (y_not rfl) rfl ?_
        refine wl_y (y_pickf rfl rfl) rfl ?_
        refine wl_nil ?_
        refine wq_then_norm (hK12 ?_)
        refine wc_false rfl rfl ?_
        refine wc_skip ?_
        refine wq_then_norm (hK9 ?_)
        refine wc_seq ?_; intro K13 hK13
        refine wc_region ?_
        refine wl_y (y_move rfl) rfl ?_
        refine wl_call Try.func63 rfl rfl rfl (messOf_any _ (HB.ext E) hc (by omega) hfb) rfl ?_
        rintro e w8 ⟨es, rfl, HR, h256, ex⟩
        refine ⟨_, rfl, ?_⟩
        replace E := E.ext ex
        replace B2 := B2.ext ex
        replace T6 := T6.ext ex
        replace HN2 := HN2.ext ex
        replace B7 := B7.ext ex
        have HR2 := HR.at; obtain ⟨gr'', i'', h0'', h1'', h2'', s'', h4'', h5'', g'', l0'', l1'', l2'', t'', l4'', l5'', it'', c0'', c1'', c2'', q'', c4'', c5'', ct'', sg'', tg'', mb'', rfl, _⟩ := HR
        refine wl_y (y_move rfl) rfl ?_
        refine wl_y (y_extract rfl rfl) rfl ?_
        refine wl_y (y_extract rfl rfl) rfl ?_
        refine wl_ef (ef_alloc (Z := #[.slice none 0 0, .int .u64 0, .int .i64 0, .int .u8 0, .int .u8 0, .slice none 0 0, .slice none 0 0, .slice none 0 0, .slice none 0 0, .int .u8 0, .slice none 0 0, .slice none 0 0, .slice none 0 0, .slice none 0 0, .slice none 0 0, .slice none 0 0, .int .u8 0, .slice none 0 0, .slice none 0 0, .int .i64 0, .slice none 0 0, .bool false, .slice none 0 0, .slice none 0 0, .slice none 0 0, .int .u8 0, .slice none 0 0, .slice none 0 0, .slice none 0 0, .slice none 0 0, .slice none 0 0, .slice none 0 0]) (by kernel_rfl)) rfl ?_
        rintro _ wA9 ⟨gB9, rfl, D9, hgB9, exA⟩
        refine wl_ef (ef_storeP (o := 0) rfl rfl (by kernel_rfl) D9 (Nat.le_of_ble_eq_true rfl) (all_ones rfl)) rfl ?_
        rintro _ wB9 ⟨rfl, B9, cg⟩
        have ex := exA.chg cg hgB9; clear cg exA D9
        have lB9 := B9.lt; have zB9 := ex.size
        replace E := E.ext ex
        replace B2 := B2.ext ex
        replace T6 := T6.ext ex
        replace HN2 := HN2.ext ex
        replace B7 := B7.ext ex
        replace HR2 := HR2.ext ex
        refine wl_y (y_assign rfl) rfl ?_
        refine wl_nil ?_
        refine wq_then_norm (hK13 ?_)
        refine wc_seq ?_; intro K14 hK14
        refine wc_seq ?_; intro K15 hK15
        refine wc_region ?_
        refine wl_y (y_move rfl) rfl ?_
        refine wl_y (y_conv rfl Try.underlying38 Try.underlying3 (i64_ok (by omega) (by omega))) rfl ?_
        refine wl_y (y_neq rfl rfl) rfl ?_
        refine wl_nil ?_
        refine wq_then_norm (hK15 ?_)
        refine wc_dec rfl (fun hc5 => ?_) (fun hc5 => ?_)
        · skip
          refine wc_seq ?_; intro K16 hK16
          refine wc_region ?_
          refine wl_y (y_loadx (o := 0) (s := 32) rfl Try.underlying48 rfl (by kernel_rfl) B9 rfl) rfl ?_
          refine wl_y (y_build rfl (cells := zMsgV) (by kernel_rfl)) rfl ?_
          have hz0 : (messOf b).1 = Mess.zero := wholeX_zero (show (messOf b).2 ≠ 0 by omega)
          refine wl_call Try.func64 rfl rfl rfl (sameMsg_any _ HR2 (MsgF.zero 0 _).at (by rw [hz0]; exact fit_mess0) fit_mess0) rfl ?_
          rintro e w9 ⟨rfl, ex⟩
          refine ⟨_, rfl, ?_⟩
          replace E := E.ext ex
          replace B2 := B2.ext ex
          replace T6 := T6.ext ex
          replace HN2 := HN2.ext ex
          replace B7 := B7.ext ex
          replace HR2 := HR2.ext ex
          replace B9 := B9.ext ex
          rw [decide_eq_true hz0]
          refine wl_y (y_assign rfl) rfl ?_
          refine wl_nil ?_
          refine wq_then_norm (hK16 ?_)
          refine wc_ret ?_
          refine wq_then_ret ?_
          refine hret rfl ?_
          exact ⟨rfl, E⟩
        · skip
          refine wc_skip ?_
          refine wq_then_norm (hK14 ?_)
          refine wc_seq ?_; intro K17 hK17
          obtain ⟨okb, hback, hsame⟩ := messOf_back (b := b) (by omega)
          refine wc_region ?_
          refine wl_y (y_loadx (o := 0) (s := 32) rfl Try.underlying48 rfl (by kernel_rfl) B9 rfl) rfl ?_
          refine wl_call Try.func28 rfl rfl rfl (MsgBytes_any _ HR2 (by rw [hsame]; exact hfb)) rfl ?_
          rintro e w9 ⟨A9, k9, c9, z9, rfl, ⟨T9, hk9⟩, ex⟩
          refine ⟨_, rfl, ?_⟩
          replace E := E.ext ex
          replace B2 := B2.ext ex
          replace T6 := T6.ext ex
          replace HN2 := HN2.ext ex
          replace B7 := B7.ext ex
          replace HR2 := HR2.ext ex
          replace B9 := B9.ext ex
          obtain ⟨hz9, HB9⟩ := T9.1 okb; subst hz9; rw [hback] at HB9
          refine wl_y (y_move rfl) rfl ?_
          refine wl_y (y_extract rfl rfl) rfl ?_
          refine wl_y (y_extract rfl rfl) rfl ?_
          refine wl_y (y_assign rfl) rfl ?_
          refine wl_y (y_assign rfl) rfl ?_
          refine wl_nil ?_
          refine wq_then_norm (hK17 ?_)
          refine wc_seq ?_; intro K18 hK18
          refine wc_region ?_
          refine wl_y (y_move rfl) rfl ?_
          refine wl_y (y_conv rfl Try.underlying38 Try.underlying3 (i64_ok (by omega) (by omega))) rfl ?_
          refine wl_y (Y.as (y_eql rfl rfl) (congrArg Value.bool (decide_eq_true rfl))) rfl ?_
          refine wl_y (y_move rfl) rfl ?_
          refine wl_gy 64 rfl rfl (y_move rfl) rfl ?_
          refine wl_gy 64 rfl rfl (y_move rfl) rfl ?_
          refine wl_gcall 64 rfl rfl Try.func26 rfl rfl rfl (sm_any HB9 (HB.ext E) (by have := HB9.1; omega) (by omega)) rfl ?_
          rintro e w10 ⟨rfl, ex⟩
          refine ⟨_, rfl, ?_⟩
          replace E := E.ext ex
          replace B2 := B2.ext ex
          replace T6 := T6.ext ex
          replace HN2 := HN2.ext ex
          replace B7 := B7.ext ex
          replace HR2 := HR2.ext ex
          replace B9 := B9.ext ex
          replace HB9 := HB9.ext ex
          rw [decide_eq_true rfl]
          refine wl_y (y_pickt rfl rfl) rfl ?_
          refine wl_y (y_assign rfl) rfl ?_
          refine wl_nil ?_
          refine wq_then_norm (hK18 ?_)
          refine wc_ret ?_
          refine hret rfl ?_
          exact ⟨rfl, E⟩
      · skip
        refine wc_region ?_
        obtain ⟨hz6, _⟩ := T6.2 okm
        subst hz6
        refine wl_y (y_move rfl) rfl ?_
        refine wl_y (y_conv rfl Try.underlying38 Try.underlying3 (i64_ok (by omega) (by omega))) rfl ?_
        refine wl_y (Y.as (y_eql rfl rfl) (congrArg Value.bool (decide_eq_false (by omega)))) rfl ?_
        refine wl_nil ?_
        refine wq_then_norm (hK10 ?_)
        refine wc_false rfl rfl ?_
        refine wc_skip ?_
        refine wq_then_norm (hK9 ?_)
        refine wc_seq ?_; intro K19 hK19
        refine wc_region ?_
        refine wl_y (y_move rfl) rfl ?_
        refine wl_call Try.func63 rfl rfl rfl (messOf_any _ (HB.ext E) hc (by omega) hfb) rfl ?_
        rintro e w8 ⟨es, rfl, HR, h256, ex⟩
        refine ⟨_, rfl, ?_⟩
        replace E := E.ext ex
        replace B2 := B2.ext ex
        replace T6 := T6.ext ex
        have HR2 := HR.at; obtain ⟨gr'', i'', h0'', h1'', h2'', s'', h4'', h5'', g'', l0'', l1'', l2'', t'', l4'', l5'', it'', c0'', c1'', c2'', q'', c4'', c5'', ct'', sg'', tg'', mb'', rfl, _⟩ := HR
        refine wl_y (y_move rfl) rfl ?_
        refine wl_y (y_extract rfl rfl) rfl ?_
        refine wl_y (y_extract rfl rfl) rfl ?_
        refine wl_ef (ef_alloc (Z := #[.slice none 0 0, .int .u64 0, .int .i64 0, .int .u8 0, .int .u8 0, .slice none 0 0, .slice none 0 0, .slice none 0 0, .slice none 0 0, .int .u8 0, .slice none 0 0, .slice none 0 0, .slice none 0 0, .slice none 0 0, .slice none 0 0, .slice none 0 0, .int .u8 0, .slice none 0 0, .slice none 0 0, .int .i64 0, .slice none 0 0, .bool false, .slice none 0 0, .slice none 0 0, .slice none 0 0, .int .u8 0, .slice none 0 0, .slice none 0 0, .slice none 0 0, .slice none 0 0, .slice none 0 0, .slice none 0 0]) (by kernel_rfl)) rfl ?_
        rintro _ wA9 ⟨gB9, rfl, D9, hgB9, exA⟩
        refine wl_ef (ef_storeP (o := 0) rfl rfl (by kernel_rfl) D9 (Nat.le_of_ble_eq_true rfl) (all_ones rfl)) rfl ?_
        rintro _ wB9 ⟨rfl, B9, cg⟩
        have ex := exA.chg cg hgB9; clear cg exA D9
        have lB9 := B9.lt; have zB9 := ex.size
        replace E := E.ext ex
        replace B2 := B2.ext ex
        replace T6 := T6.ext ex
        replace HR2 := HR2.ext ex
        refine wl_y (y_assign rfl) rfl ?_
        refine wl_nil ?_
        refine wq_then_norm (hK19 ?_)
        refine wc_seq ?_; intro K20 hK20
        refine wc_seq ?_; intro K21 hK21
        refine wc_region ?_
        refine wl_y (y_move rfl) rfl ?_
        refine wl_y (y_conv rfl Try.underlying38 Try.underlying3 (i64_ok (by omega) (by omega))) rfl ?_
        refine wl_y (y_neq rfl rfl) rfl ?_
        refine wl_nil ?_
        refine wq_then_norm (hK21 ?_)
        refine wc_dec rfl (fun hc5 => ?_) (fun hc5 => ?_)
        · skip
          refine wc_seq ?_; intro K22 hK22
          refine wc_region ?_
          refine wl_y (y_loadx (o := 0) (s := 32) rfl Try.underlying48 rfl (by kernel_rfl) B9 rfl) rfl ?_
          refine wl_y (y_build rfl (cells := zMsgV) (by kernel_rfl)) rfl ?_
          have hz0 : (messOf b).1 = Mess.zero := wholeX_zero (show (messOf b).2 ≠ 0 by omega)
          refine wl_call Try.func64 rfl rfl rfl (sameMsg_any _ HR2 (MsgF.zero 0 _).at (by rw [hz0]; exact fit_mess0) fit_mess0) rfl ?_
          rintro e w9 ⟨rfl, ex⟩
          refine ⟨_, rfl, ?_⟩
          replace E := E.ext ex
          replace B2 := B2.ext ex
          replace T6 := T6.ext ex
          replace HR2 := HR2.ext ex
          replace B9 := B9.ext ex
          rw [decide_eq_true hz0]
          refine wl_y (y_assign rfl) rfl ?_
          refine wl_nil ?_
          refine wq_then_norm (hK22 ?_)
          refine wc_ret ?_
          refine wq_then_ret ?_
          refine hret rfl ?_
          exact ⟨rfl, E⟩
        · skip
          refine wc_skip ?_
          refine wq_then_norm (hK20 ?_)
          refine wc_seq ?_; intro K23 hK23
          obtain ⟨okb, hback, hsame⟩ := messOf_back (b := b) (by omega)
          refine wc_region ?_
          refine wl_y (y_loadx (o := 0) (s := 32) rfl Try.underlying48 rfl (by kernel_rfl) B9 rfl) rfl ?_
          refine wl_call Try.func28 rfl rfl rfl (MsgBytes_any _ HR2 (by rw [hsame]; exact hfb)) rfl ?_
          rintro e w9 ⟨A9, k9, c9, z9, rfl, ⟨T9, hk9⟩, ex⟩
          refine ⟨_, rfl, ?_⟩
          replace E := E.ext ex
          replace B2 := B2.ext ex
          replace T6 := T6.ext ex
          replace HR2 := HR2.ext ex
          replace B9 := B9.ext ex
          obtain ⟨hz9, HB9⟩ := T9.1 okb; subst hz9; rw [hback] at HB9
          refine wl_y (y_move rfl) rfl ?_
          refine wl_y (y_extract rfl rfl) rfl ?_
          refine wl_y (y_extract rfl rfl) rfl ?_
          refine wl_y (y_assign rfl) rfl ?_
          refine wl_y (y_assign rfl) rfl ?_
          refine wl_nil ?_
          refine wq_then_norm (hK23 ?_)
          refine wc_seq ?_; intro K24 hK24
          refine wc_region ?_
          refine wl_y (y_move rfl) rfl ?_
          refine wl_y (y_conv rfl Try.underlying38 Try.underlying3 (i64_ok (by omega) (by omega))) rfl ?_
          refine wl_y (Y.as (y_eql rfl rfl) (congrArg Value.bool (decide_eq_true rfl))) rfl ?_
          refine wl_y (y_move rfl) rfl ?_
          refine wl_gy 64 rfl rfl (y_move rfl) rfl ?_
          refine wl_gy 64 rfl rfl (y_move rfl) rfl ?_
          refine wl_gcall 64 rfl rfl Try.func26 rfl rfl rfl (sm_any HB9 (HB.ext E) (by have := HB9.1; omega) (by omega)) rfl ?_
          rintro e w10 ⟨rfl, ex⟩
          refine ⟨_, rfl, ?_⟩
          replace E := E.ext ex
          replace B2 := B2.ext ex
          replace T6 := T6.ext ex
          replace HR2 := HR2.ext ex
          replace B9 := B9.ext ex
          replace HB9 := HB9.ext ex
          rw [decide_eq_true rfl]
          refine wl_y (y_pickt rfl rfl) rfl ?_
          refine wl_y (y_assign rfl) rfl ?_
          refine wl_nil ?_
          refine wq_then_norm (hK24 ?_)
          refine wc_ret ?_
          refine hret rfl ?_
          exact ⟨rfl, E⟩
end Go.Proofs.Ytpgalbgonmclaaa
