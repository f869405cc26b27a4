/- Packages, proposals, commits and welcomes: there and back; the law MsgPartsBack. -/
import Derived.Test.YtpgalbgonmclaaaGreatMuC
import Derived.Test.YtpgalbgonmclaaaGreatMsE
import Derived.Test.YtpgalbgonmclaaaGreatMsM
namespace Go.Proofs.YtpgalbgonmclaaaGreat
open Go.RowKit
attribute [local irreducible] Y Ef WL WC WK WQ WM OpM WN WF OpN WJ OpJ WG OpG
open Wire Nd M20
theorem propOf_there {p : Prop20} (ok : okProp p) : propX (.ok (propB p)) = (p, .ok []) ∧ propOf (propB p) = (p, 0) := by
  have e := propX_there ok []
  rw [List.append_nil] at e
  refine ⟨e, ?_⟩
  unfold propOf
  rw [e]
  exact wholeX_there (decide_eq_true ok)
theorem comOf_there {c : Com20} (ok : okCom c) (hf : c.Fit) : comX (.ok (comB propB c)) = (c, .ok []) ∧ comOf (comB propB c) = (c, 0) := by
  have e := comX_there ok hf []
  rw [List.append_nil] at e
  refine ⟨e, ?_⟩
  unfold comOf
  rw [e]
  exact wholeX_there (decide_eq_true ok)
theorem welOf_there {x : Wel} (ok : okWel x) (hf : x.Fit) : welX (.ok (welB x)) = (x, .ok []) ∧ welOf (welB x) = (x, 0) := by
  have e := welX_there ok hf []
  rw [List.append_nil] at e
  refine ⟨e, ?_⟩
  unfold welOf
  rw [e]
  exact wholeX_there (decide_eq_true ok)
theorem packOf_back {b : List UInt8} (h : (packOf b).2 = 0) : okPack (packOf b).1 ∧ packB (packOf b).1 = b ∧ (packOf b).1 = (packX (.ok b)).1 := by
  obtain ⟨h1, h2, h3⟩ := wholeX_ok (good_pack (good_ok b)) h
  have h3' : (packOf b).1 = (packX (.ok b)).1 := h3
  have ok := of_decide_eq_true h2
  have e := packX_back h1
  rw [List.append_nil] at e
  injection e with e
  rw [h3']
  exact ⟨ok, e.symm, rfl⟩
theorem comOf_back {b : List UInt8} (h : (comOf b).2 = 0) : okCom (comOf b).1 ∧ comB propB (comOf b).1 = b ∧ (comOf b).1 = (comX (.ok b)).1 := by
  obtain ⟨h1, h2, h3⟩ := wholeX_ok (good_com (good_ok b)) h
  have h3' : (comOf b).1 = (comX (.ok b)).1 := h3
  have ok := of_decide_eq_true h2
  have e := comX_back h1 ok
  rw [List.append_nil] at e
  injection e with e
  rw [h3']
  exact ⟨ok, e.symm, rfl⟩
theorem welB_sm {x : Wel} (h : x.Small) : (welB x).length ≤ 40000 := by
  obtain ⟨h1, h2, h3⟩ := h
  have i1 := flatMap_le (l := x.guests) (f := gstB) (B := 420) fun g hg => by
    obtain ⟨k1, k2, k3⟩ := h2 g hg
    have := vec_le g.ref; have := vec_le g.enc; have := vec_le g.box
    unfold gstB; simp only [List.length_append]; omega
  have i2 : x.guests.length * 420 ≤ 70 * 420 := Nat.mul_le_mul_right _ (by omega)
  have i3 := vec_le (x.guests.flatMap gstB); have i4 := vec_le x.info
  have j1 := be_length 2 1; have j2 := be_length 2 3
  unfold welB
  simp only [List.length_append]; omega
theorem Told.cd {w : World} {ok : Prop} {xs : List UInt8} {A : Option Addr} {k z : Nat} (h : Told w ok xs A k z) : z = 0 ∨ z = 3 := by
  by_cases o : ok
  · exact .inl (h.1 o).1
  · exact .inr (h.2 o).1
theorem Told.ys {w : World} {ok : Prop} {xs : List UInt8} {A : Option Addr} {k z : Nat} (h : Told w ok xs A k z) (hz : z = 0) : ok := Classical.byContradiction fun o => by have := (h.2 o).1; omega
theorem msgPartsBack_law (cp : Array Value) (p : Prop20) (cc : Array Value) (c : Com20) (cw : Array Value) (x : Wel) (A : Option Addr) (n cA : Nat) (b : List UInt8) (w : World) (HP : PropAt w cp p) (HC : ComAt w cc c) (HW : WelAt w cw x) (HB : Bs w A n b) (_hn : n ≤ maxLen) (hc : n ≤ cA) :
    Calls Tryz.prog 5 #[.agg cp, .agg cc, .agg cw, .slice A n cA] w fun e w' => e = .returned (.bool true) ∧ Below w.heap.size w w' := by
  have KP := HP; have KC := HC; have KW := HW
  have hbl := HB.1
  obtain ⟨i, h0, h1, h2, h4, h5, g, l0, l1, l2, l4, l5, rfl, _⟩ := HP
  obtain ⟨it, j0, j1, j2, js, j4, j5, jt, rfl, _⟩ := HC
  obtain ⟨k0, k1, rfl, _⟩ := HW
  have E := Ext.refl w
  refine vc_enter1 159 Tryz.func5 rfl rfl rfl rfl ?_
  intro Q hret
  refine wc_seq ?_; intro K1 hK1
  refine wc_region ?_
  refine wl_ef (ef_box rfl rfl) rfl ?_
  rintro _ wB4 ⟨gB4, rfl, B4, hgB4, ex⟩
  have lB4 := B4.lt; have zB4 := ex.size
  replace E := E.ext ex
  refine wl_ef (ef_box rfl rfl) rfl ?_
  rintro _ wB5 ⟨gB5, rfl, B5, hgB5, ex⟩
  have lB5 := B5.lt; have zB5 := ex.size
  replace E := E.ext ex
  replace B4 := B4.ext ex
  refine wl_ef (ef_box rfl rfl) rfl ?_
  rintro _ wB6 ⟨gB6, rfl, B6, hgB6, ex⟩
  have lB6 := B6.lt; have zB6 := ex.size
  replace E := E.ext ex
  replace B4 := B4.ext ex
  replace B5 := B5.ext ex
  refine wl_y (y_assign rfl) rfl ?_
  refine wl_nil ?_
  refine wq_then_norm (hK1 ?_)
  refine wc_seq ?_; intro K2 hK2
  refine wc_seq ?_; intro K3 hK3
  refine wc_region ?_
  refine wl_call Tryz.func6 rfl rfl rfl (alive20_any _) rfl ?_
  rintro e w1 ⟨rfl, ex⟩
  refine ⟨_, rfl, ?_⟩
  replace E := E.ext ex
  replace B4 := B4.ext ex
  replace B5 := B5.ext ex
  replace B6 := B6.ext ex
  refine wl_y (y_not rfl) rfl ?_
  refine wl_nil ?_
  refine wq_then_norm (hK3 ?_)
  refine wc_false rfl rfl ?_
  refine wc_skip ?_
  refine wq_then_norm (hK2 ?_)
  refine wc_seq ?_; intro K4 hK4
  refine wc_seq ?_; intro K5 hK5
  refine wc_region ?_
  refine wl_y (y_loadx (o := 0) (s := 16) rfl Tryz.underlying32 rfl (by kernel_rfl) B4 rfl) rfl ?_
  refine wl_call Tryz.func19 rfl rfl rfl (smallProp_any _ (KP.ext E)) rfl ?_
  rintro e w2 ⟨rfl, ex⟩
  refine ⟨_, rfl, ?_⟩
  replace E := E.ext ex
  replace B4 := B4.ext ex
  replace B5 := B5.ext ex
  replace B6 := B6.ext ex
  skip
  refine wl_y (y_not rfl) rfl ?_
  refine wl_yaskb (y_move rfl) rfl (fun q0 => ?_) (fun q0 => ?_)
  · skip
    refine wl_gno 34 rfl rfl rfl rfl ?_
    refine wl_gno 34 rfl rfl rfl rfl ?_
    refine wl_gno 34 rfl rfl rfl rfl ?_
    refine wl_y (y_pickt rfl rfl) rfl ?_
    refine wl_y (y_move rfl) rfl ?_
    refine wl_gno 39 rfl rfl rfl rfl ?_
    refine wl_gno 39 rfl rfl rfl rfl ?_
    refine wl_gno 39 rfl rfl rfl rfl ?_
    refine wl_y (y_pickt rfl rfl) rfl ?_
    refine wl_y (y_move rfl) rfl ?_
    refine wl_gno 44 rfl rfl rfl rfl ?_
    refine wl_gno 44 rfl rfl rfl rfl ?_
    refine wl_gno 44 rfl rfl rfl rfl ?_
    refine wl_y (y_pickt rfl rfl) rfl ?_
    refine wl_nil ?_
    refine wq_then_norm (hK5 ?_)
    refine wc_true rfl rfl ?_
    refine wc_seq ?_; intro K6 hK6
    refine wc_region ?_
    refine wl_y (y_assign rfl) rfl ?_
    refine wl_nil ?_
    refine wq_then_norm (hK6 ?_)
    refine wc_ret ?_
    refine wq_then_ret ?_
    refine hret rfl ?_
    exact ⟨rfl, E⟩
  · skip
    refine wl_gy 34 rfl rfl (y_loadx (o := 0) (s := 9) rfl Tryz.underlying40 rfl (by kernel_rfl) B5 rfl) rfl ?_
    refine wl_gcall 34 rfl rfl Tryz.func20 rfl rfl rfl (smallCommit_any _ (KC.ext E)) rfl ?_
    rintro e w3 ⟨rfl, ex⟩
    refine ⟨_, rfl, ?_⟩
    replace E := E.ext ex
    replace B4 := B4.ext ex
    replace B5 := B5.ext ex
    replace B6 := B6.ext ex
    skip
    refine wl_gy 34 rfl rfl (y_not rfl) rfl ?_
    refine wl_y (y_pickf rfl rfl) rfl ?_
    refine wl_yaskb (y_move rfl) rfl (fun q1 => ?_) (fun q1 => ?_)
    · skip
      refine wl_gno 39 rfl rfl rfl rfl ?_
      refine wl_gno 39 rfl rfl rfl rfl ?_
      refine wl_gno 39 rfl rfl rfl rfl ?_
      refine wl_y (y_pickt rfl rfl) rfl ?_
      refine wl_y (y_move rfl) rfl ?_
      refine wl_gno 44 rfl rfl rfl rfl ?_
      refine wl_gno 44 rfl rfl rfl rfl ?_
      refine wl_gno 44 rfl rfl rfl rfl ?_
      refine wl_y (y_pickt rfl rfl) rfl ?_
      refine wl_nil ?_
      refine wq_then_norm (hK5 ?_)
      refine wc_true rfl rfl ?_
      refine wc_seq ?_; intro K7 hK7
      refine wc_region ?_
      refine wl_y (y_assign rfl) rfl ?_
      refine wl_nil ?_
      refine wq_then_norm (hK7 ?_)
      refine wc_ret ?_
      refine wq_then_ret ?_
      refine hret rfl ?_
      exact ⟨rfl, E⟩
    · skip
      refine wl_gy 39 rfl rfl (y_loadx (o := 0) (s := 2) rfl Tryz.underlying63 rfl (by kernel_rfl) B6 rfl) rfl ?_
      refine wl_gcall 39 rfl rfl Tryz.func21 rfl rfl rfl (smallWel_any _ (KW.ext E)) rfl ?_
      rintro e w4 ⟨rfl, ex⟩
      refine ⟨_, rfl, ?_⟩
      replace E := E.ext ex
      replace B4 := B4.ext ex
      replace B5 := B5.ext ex
      replace B6 := B6.ext ex
      skip
      refine wl_gy 39 rfl rfl (y_not rfl) rfl ?_
      refine wl_y (y_pickf rfl rfl) rfl ?_
      refine wl_yaskb (y_move rfl) rfl (fun q2 => ?_) (fun q2 => ?_)
      · skip
        refine wl_gno 44 rfl rfl rfl rfl ?_
        refine wl_gno 44 rfl rfl rfl rfl ?_
        refine wl_gno 44 rfl rfl rfl rfl ?_
        refine wl_y (y_pickt rfl rfl) rfl ?_
        refine wl_nil ?_
        refine wq_then_norm (hK5 ?_)
        refine wc_true rfl rfl ?_
        refine wc_seq ?_; intro K8 hK8
        refine wc_region ?_
        refine wl_y (y_assign rfl) rfl ?_
        refine wl_nil ?_
        refine wq_then_norm (hK8 ?_)
        refine wc_ret ?_
        refine wq_then_ret ?_
        refine hret rfl ?_
        exact ⟨rfl, E⟩
      · skip
        refine wl_gy 44 rfl rfl (y_move rfl) rfl ?_
        refine wl_gy 44 rfl rfl (y_len_slice rfl Tryz.underlying22) rfl ?_
        refine wl_gy 44 rfl rfl (y_gtr rfl rfl) rfl ?_
        refine wl_y (y_pickf rfl rfl) rfl ?_
        refine wl_nil ?_
        refine wq_then_norm (hK5 ?_)
        refine wc_dec rfl (fun hc2 => ?_) (fun hc2 => ?_)
        · skip
          refine wc_seq ?_; intro K9 hK9
          refine wc_region ?_
          refine wl_y (y_assign rfl) rfl ?_
          refine wl_nil ?_
          refine wq_then_norm (hK9 ?_)
          refine wc_ret ?_
          refine wq_then_ret ?_
          refine hret rfl ?_
          exact ⟨rfl, E⟩
        · skip
          refine wc_skip ?_
          refine wq_then_norm (hK4 ?_)
          refine wc_seq ?_; intro K10 hK10
          refine wc_seq ?_; intro K11 hK11
          have sp : p.Small := by simpa using q0
          have sc : c.Small := by simpa using q1
          have sw : x.Small := by simpa using q2
          have X := Ext.refl w4
          have B4o := B4; have B5o := B5; have B6o := B6
          refine wc_region ?_
          refine wl_y (y_loadx (o := 0) (s := 16) rfl Tryz.underlying32 rfl (by kernel_rfl) B4 rfl) rfl ?_
          refine wl_call Tryz.func22 rfl rfl rfl (ProposalBytes_any _ (KP.ext E) sp.fit) rfl ?_
          rintro e w5 ⟨A5, n5, c5, z5, rfl, T5, kk5, ex⟩
          refine ⟨_, rfl, ?_⟩
          replace E := E.ext ex
          replace B4 := B4.ext ex
          replace B5 := B5.ext ex
          replace B6 := B6.ext ex
          replace X := X.ext ex
          have hz5 := T5.cd
          refine wl_y (y_move rfl) rfl ?_
          refine wl_y (y_extract rfl rfl) rfl ?_
          refine wl_y (y_extract rfl rfl) rfl ?_
          refine wl_y (y_assign rfl) rfl ?_
          refine wl_y (y_assign rfl) rfl ?_
          refine wl_nil ?_
          refine wq_then_norm (hK11 ?_)
          refine wc_seq ?_; intro K12 hK12
          refine wc_region ?_
          refine wl_y (y_move rfl) rfl ?_
          refine wl_y (y_conv rfl Tryz.underlying28 Tryz.underlying3 (i64_ok (by omega) (by omega))) rfl ?_
          refine wl_y (y_eql rfl rfl) rfl ?_
          refine wl_nil ?_
          refine wq_then_norm (hK12 ?_)
          refine wc_join (fun L wjc3 => L = [(3, .slice A n cA), (5, .pointer (some ⟨gB5, 0, none⟩)), (6, .pointer (some ⟨gB6, 0, none⟩)), (4, .pointer (some ⟨gB4, 0, none⟩))] ∧ (Ext w wjc3 ∧ Ext w4 wjc3)) ?_ ?_
          · skip
            refine wc_dec rfl (fun hc3 => ?_) (fun hc3 => ?_)
            · skip
              refine wc_seq ?_; intro K13 hK13
              refine wc_region ?_
              refine wl_y (y_move rfl) rfl ?_
              have okp := T5.ys (by omega)
              obtain ⟨hX, hO⟩ := propOf_there okp
              have hl := propB_ok okp
              have hl5 := (T5.1 okp).2.1
              refine wl_call Tryz.func8 rfl rfl rfl (propOf_any _ (T5.1 okp).2 kk5 (by omega) (by rw [hX]; exact sp.fit)) rfl ?_
              rintro e w6 ⟨ds, rfl, HN, _, ex⟩
              refine ⟨_, rfl, ?_⟩
              replace E := E.ext ex
              replace B4 := B4.ext ex
              replace B5 := B5.ext ex
              replace B6 := B6.ext ex
              replace X := X.ext ex
              replace T5 := T5.ext ex
              rw [hO] at HN ⊢; have HN2 := HN.at; obtain ⟨i', h0', h1', h2', h4', h5', g', l0', l1', l2', l4', l5', rfl, _⟩ := HN
              refine wl_y (y_move rfl) rfl ?_
              refine wl_y (y_extract rfl rfl) rfl ?_
              refine wl_y (y_extract rfl rfl) rfl ?_
              refine wl_ef (ef_alloc (Z := #[.int .u8 0, .slice none 0 0, .slice none 0 0, .slice none 0 0, .slice none 0 0, .int .u8 0, .slice none 0 0, .slice none 0 0, .slice none 0 0, .slice none 0 0, .slice none 0 0, .slice none 0 0, .int .u8 0, .slice none 0 0, .slice none 0 0, .int .i64 0]) (by kernel_rfl)) rfl ?_
              rintro _ wA11 ⟨gB11, rfl, D11, hgB11, exA⟩
              refine wl_ef (ef_storeP (o := 0) rfl rfl (by kernel_rfl) D11 (Nat.le_of_ble_eq_true rfl) (all_ones rfl)) rfl ?_
              rintro _ wB11 ⟨rfl, B11, cg⟩
              have ex := exA.chg cg hgB11; clear cg exA D11
              have lB11 := B11.lt; have zB11 := ex.size
              replace E := E.ext ex
              replace B4 := B4.ext ex
              replace B5 := B5.ext ex
              replace B6 := B6.ext ex
              replace X := X.ext ex
              replace T5 := T5.ext ex
              replace HN2 := HN2.ext ex
              refine wl_y (y_assign rfl) rfl ?_
              refine wl_nil ?_
              refine wq_then_norm (hK13 ?_)
              refine wc_seq ?_; intro K14 hK14
              refine wc_region ?_
              refine wl_y (y_move rfl) rfl ?_
              refine wl_y (y_conv rfl Tryz.underlying28 Tryz.underlying3 (i64_ok (by omega) (by omega))) rfl ?_
              refine wl_y (Y.as (y_neq rfl rfl) (congrArg Value.bool (decide_eq_false (by omega)))) rfl ?_
              refine wl_y (y_move rfl) rfl ?_
              refine wl_gy 65 rfl rfl (y_loadx (o := 0) (s := 16) rfl Tryz.underlying32 rfl (by kernel_rfl) B4 rfl) rfl ?_
              refine wl_gy 65 rfl rfl (y_loadx (o := 0) (s := 16) rfl Tryz.underlying32 rfl (by kernel_rfl) B11 rfl) rfl ?_
              refine wl_gcall 65 rfl rfl Tryz.func14 rfl rfl rfl (sameProp_any _ (KP.ext E) HN2 sp.fit sp.fit) rfl ?_
              rintro e w7 ⟨rfl, ex⟩
              refine ⟨_, rfl, ?_⟩
              replace E := E.ext ex
              replace B4 := B4.ext ex
              replace B5 := B5.ext ex
              replace B6 := B6.ext ex
              replace X := X.ext ex
              replace T5 := T5.ext ex
              replace HN2 := HN2.ext ex
              replace B11 := B11.ext ex
              rw [decide_eq_true rfl]
              refine wl_gy 65 rfl rfl (y_not rfl) rfl ?_
              refine wl_y (y_pickf rfl rfl) rfl ?_
              refine wl_nil ?_
              refine wq_then_norm (hK14 ?_)
              refine wc_false rfl rfl ?_
              refine wc_skip ?_
              exact wq_join _ ⟨rfl, E, X⟩ ⟨rfl, rfl, rfl, rfl, trivial⟩
            · skip
              refine wc_skip ?_
              exact wq_join _ ⟨rfl, E, X⟩ ⟨rfl, rfl, rfl, rfl, trivial⟩
          rintro L wjc3 ⟨rfl, E, X⟩
          refine wq_then_norm (hK10 ?_)
          refine wc_seq ?_; intro K15 hK15
          refine wc_seq ?_; intro K16 hK16
          have B4 := B4o.ext X; have B5 := B5o.ext X; have B6 := B6o.ext X
          refine wc_region ?_
          refine wl_y (y_loadx (o := 0) (s := 9) rfl Tryz.underlying40 rfl (by kernel_rfl) B5 rfl) rfl ?_
          refine wl_call Tryz.func23 rfl rfl rfl (CommitBytes_any _ (KC.ext E) sc.fit) rfl ?_
          rintro e w5 ⟨A5, n5, c5, z5, rfl, T5, kk5, ex⟩
          refine ⟨_, rfl, ?_⟩
          replace E := E.ext ex
          replace X := X.ext ex
          replace B4 := B4.ext ex
          replace B5 := B5.ext ex
          replace B6 := B6.ext ex
          have hz5 := T5.cd
          refine wl_y (y_move rfl) rfl ?_
          refine wl_y (y_extract rfl rfl) rfl ?_
          refine wl_y (y_extract rfl rfl) rfl ?_
          refine wl_y (y_assign rfl) rfl ?_
          refine wl_y (y_assign rfl) rfl ?_
          refine wl_nil ?_
          refine wq_then_norm (hK16 ?_)
          refine wc_seq ?_; intro K17 hK17
          refine wc_region ?_
          refine wl_y (y_move rfl) rfl ?_
          refine wl_y (y_conv rfl Tryz.underlying28 Tryz.underlying3 (i64_ok (by omega) (by omega))) rfl ?_
          refine wl_y (y_eql rfl rfl) rfl ?_
          refine wl_nil ?_
          refine wq_then_norm (hK17 ?_)
          refine wc_join (fun L wjc5 => L = [(3, .slice A n cA), (6, .pointer (some ⟨gB6, 0, none⟩)), (4, .pointer (some ⟨gB4, 0, none⟩)), (5, .pointer (some ⟨gB5, 0, none⟩))] ∧ (Ext w wjc5 ∧ Ext w4 wjc5)) ?_ ?_
          · skip
            refine wc_dec rfl (fun hc5 => ?_) (fun hc5 => ?_)
            · skip
              refine wc_seq ?_; intro K18 hK18
              refine wc_region ?_
              refine wl_y (y_move rfl) rfl ?_
              have okc := T5.ys (by omega)
              obtain ⟨hX, hO⟩ := comOf_there okc sc.fit
              have hl : (comB propB c).length ≤ 250000 := by rw [← comB_eq okc]; exact comB_sm sc
              have hl5 := (T5.1 okc).2.1
              refine wl_call Tryz.func9 rfl rfl rfl (comOf_any _ (T5.1 okc).2 kk5 (by omega) (by rw [hX]; exact sc.fit)) rfl ?_
              rintro e w6 ⟨ds, rfl, HN, _, ex⟩
              refine ⟨_, rfl, ?_⟩
              replace E := E.ext ex
              replace X := X.ext ex
              replace B4 := B4.ext ex
              replace B5 := B5.ext ex
              replace B6 := B6.ext ex
              replace T5 := T5.ext ex
              rw [hO] at HN ⊢; have HN2 := HN.at; obtain ⟨it', j0', j1', j2', js', j4', j5', jt', rfl, _⟩ := HN
              refine wl_y (y_move rfl) rfl ?_
              refine wl_y (y_extract rfl rfl) rfl ?_
              refine wl_y (y_extract rfl rfl) rfl ?_
              refine wl_ef (ef_alloc (Z := #[.slice none 0 0, .bool false, .slice none 0 0, .slice none 0 0, .slice none 0 0, .int .u8 0, .slice none 0 0, .slice none 0 0, .slice none 0 0]) (by kernel_rfl)) rfl ?_
              rintro _ wA15 ⟨gB15, rfl, D15, hgB15, exA⟩
              refine wl_ef (ef_storeP (o := 0) rfl rfl (by kernel_rfl) D15 (Nat.le_of_ble_eq_true rfl) (all_ones rfl)) rfl ?_
              rintro _ wB15 ⟨rfl, B15, cg⟩
              have ex := exA.chg cg hgB15; clear cg exA D15
              have lB15 := B15.lt; have zB15 := ex.size
              replace E := E.ext ex
              replace X := X.ext ex
              replace B4 := B4.ext ex
              replace B5 := B5.ext ex
              replace B6 := B6.ext ex
              replace T5 := T5.ext ex
              replace HN2 := HN2.ext ex
              refine wl_y (y_assign rfl) rfl ?_
              refine wl_nil ?_
              refine wq_then_norm (hK18 ?_)
              refine wc_seq ?_; intro K19 hK19
              refine wc_region ?_
              refine wl_y (y_move rfl) rfl ?_
              refine wl_y (y_conv rfl Tryz.underlying28 Tryz.underlying3 (i64_ok (by omega) (by omega))) rfl ?_
              refine wl_y (Y.as (y_neq rfl rfl) (congrArg Value.bool (decide_eq_false (by omega)))) rfl ?_
              refine wl_y (y_move rfl) rfl ?_
              refine wl_gy 87 rfl rfl (y_loadx (o := 0) (s := 9) rfl Tryz.underlying40 rfl (by kernel_rfl) B5 rfl) rfl ?_
              refine wl_gy 87 rfl rfl (y_loadx (o := 0) (s := 9) rfl Tryz.underlying40 rfl (by kernel_rfl) B15 rfl) rfl ?_
              refine wl_gcall 87 rfl rfl Tryz.func15 rfl rfl rfl (sameCom_any _ (KC.ext E) HN2 sc.fit sc.fit) rfl ?_
              rintro e w7 ⟨rfl, ex⟩
              refine ⟨_, rfl, ?_⟩
              replace E := E.ext ex
              replace X := X.ext ex
              replace B4 := B4.ext ex
              replace B5 := B5.ext ex
              replace B6 := B6.ext ex
              replace T5 := T5.ext ex
              replace HN2 := HN2.ext ex
              replace B15 := B15.ext ex
              rw [decide_eq_true rfl]
              refine wl_gy 87 rfl rfl (y_not rfl) rfl ?_
              refine wl_y (y_pickf rfl rfl) rfl ?_
              refine wl_nil ?_
              refine wq_then_norm (hK19 ?_)
              refine wc_false rfl rfl ?_
              refine wc_skip ?_
              exact wq_join _ ⟨rfl, E, X⟩ ⟨rfl, rfl, rfl, rfl, trivial⟩
            · skip
              refine wc_skip ?_
              exact wq_join _ ⟨rfl, E, X⟩ ⟨rfl, rfl, rfl, rfl, trivial⟩
          rintro L wjc5 ⟨rfl, E, X⟩
          refine wq_then_norm (hK15 ?_)
          refine wc_seq ?_; intro K20 hK20
          refine wc_seq ?_; intro K21 hK21
          have B4 := B4o.ext X; have B5 := B5o.ext X; have B6 := B6o.ext X
          refine wc_region ?_
          refine wl_y (y_loadx (o := 0) (s := 2) rfl Tryz.underlying63 rfl (by kernel_rfl) B6 rfl) rfl ?_
          refine wl_call Tryz.func24 rfl rfl rfl (WelcomeBytes_any _ (KW.ext E) sw.fit) rfl ?_
          rintro e w5 ⟨A5, n5, c5, z5, rfl, T5, kk5, ex⟩
          refine ⟨_, rfl, ?_⟩
          replace E := E.ext ex
          replace X := X.ext ex
          replace B4 := B4.ext ex
          replace B5 := B5.ext ex
          replace B6 := B6.ext ex
          have hz5 := T5.cd
          refine wl_y (y_move rfl) rfl ?_
          refine wl_y (y_extract rfl rfl) rfl ?_
          refine wl_y (y_extract rfl rfl) rfl ?_
          refine wl_y (y_assign rfl) rfl ?_
          refine wl_y (y_assign rfl) rfl ?_
          refine wl_nil ?_
          refine wq_then_norm (hK21 ?_)
          refine wc_seq ?_; intro K22 hK22
          refine wc_region ?_
          refine wl_y (y_move rfl) rfl ?_
          refine wl_y (y_conv rfl Tryz.underlying28 Tryz.underlying3 (i64_ok (by omega) (by omega))) rfl ?_
          refine wl_y (y_eql rfl rfl) rfl ?_
          refine wl_nil ?_
          refine wq_then_norm (hK22 ?_)
          refine wc_join (fun L wjc7 => L = [(3, .slice A n cA), (4, .pointer (some ⟨gB4, 0, none⟩)), (5, .pointer (some ⟨gB5, 0, none⟩)), (6, .pointer (some ⟨gB6, 0, none⟩))] ∧ (Ext w wjc7 ∧ Ext w4 wjc7)) ?_ ?_
          · skip
            refine wc_dec rfl (fun hc7 => ?_) (fun hc7 => ?_)
            · skip
              refine wc_seq ?_; intro K23 hK23
              refine wc_region ?_
              refine wl_y (y_move rfl) rfl ?_
              have okw := T5.ys (by omega)
              obtain ⟨hX, hO⟩ := welOf_there okw sw.fit
              have hl := welB_sm sw
              have hl5 := (T5.1 okw).2.1
              refine wl_call Tryz.func25 rfl rfl rfl (welOf_any _ (T5.1 okw).2 kk5 (by omega) (by rw [hX]; exact sw.fit)) rfl ?_
              rintro e w6 ⟨ds, rfl, HN, _, ex⟩
              refine ⟨_, rfl, ?_⟩
              replace E := E.ext ex
              replace X := X.ext ex
              replace B4 := B4.ext ex
              replace B5 := B5.ext ex
              replace B6 := B6.ext ex
              replace T5 := T5.ext ex
              rw [hO] at HN ⊢; have HN2 := HN.at; obtain ⟨k0', k1', rfl, _⟩ := HN
              refine wl_y (y_move rfl) rfl ?_
              refine wl_y (y_extract rfl rfl) rfl ?_
              refine wl_y (y_extract rfl rfl) rfl ?_
              refine wl_ef (ef_alloc (Z := #[.slice none 0 0, .slice none 0 0]) (by kernel_rfl)) rfl ?_
              rintro _ wA19 ⟨gB19, rfl, D19, hgB19, exA⟩
              refine wl_ef (ef_storeP (o := 0) rfl rfl (by kernel_rfl) D19 (Nat.le_of_ble_eq_true rfl) (all_ones rfl)) rfl ?_
              rintro _ wB19 ⟨rfl, B19, cg⟩
              have ex := exA.chg cg hgB19; clear cg exA D19
              have lB19 := B19.lt; have zB19 := ex.size
              replace E := E.ext ex
              replace X := X.ext ex
              replace B4 := B4.ext ex
              replace B5 := B5.ext ex
              replace B6 := B6.ext ex
              replace T5 := T5.ext ex
              replace HN2 := HN2.ext ex
              refine wl_y (y_assign rfl) rfl ?_
              refine wl_nil ?_
              refine wq_then_norm (hK23 ?_)
              refine wc_seq ?_; intro K24 hK24
              refine wc_region ?_
              refine wl_y (y_move rfl) rfl ?_
              refine wl_y (y_conv rfl Tryz.underlying28 Tryz.underlying3 (i64_ok (by omega) (by omega))) rfl ?_
              refine wl_y (Y.as (y_neq rfl rfl) (congrArg Value.bool (decide_eq_false (by omega)))) rfl ?_
              refine wl_y (y_move rfl) rfl ?_
              refine wl_gy 109 rfl rfl (y_loadx (o := 0) (s := 2) rfl Tryz.underlying63 rfl (by kernel_rfl) B6 rfl) rfl ?_
              refine wl_gy 109 rfl rfl (y_loadx (o := 0) (s := 2) rfl Tryz.underlying63 rfl (by kernel_rfl) B19 rfl) rfl ?_
              refine wl_gcall 109 rfl rfl Tryz.func26 rfl rfl rfl (sameWel_any _ (KW.ext E) HN2 sw.fit sw.fit) rfl ?_
              rintro e w7 ⟨rfl, ex⟩
              refine ⟨_, rfl, ?_⟩
              replace E := E.ext ex
              replace X := X.ext ex
              replace B4 := B4.ext ex
              replace B5 := B5.ext ex
              replace B6 := B6.ext ex
              replace T5 := T5.ext ex
              replace HN2 := HN2.ext ex
              replace B19 := B19.ext ex
              rw [decide_eq_true rfl]
              refine wl_gy 109 rfl rfl (y_not rfl) rfl ?_
              refine wl_y (y_pickf rfl rfl) rfl ?_
              refine wl_nil ?_
              refine wq_then_norm (hK24 ?_)
              refine wc_false rfl rfl ?_
              refine wc_skip ?_
              exact wq_join _ ⟨rfl, E, X⟩ ⟨rfl, rfl, rfl, rfl, trivial⟩
            · skip
              refine wc_skip ?_
              exact wq_join _ ⟨rfl, E, X⟩ ⟨rfl, rfl, rfl, rfl, trivial⟩
          rintro L wjc7 ⟨rfl, E, X⟩
          refine wq_then_norm (hK20 ?_)
          refine wc_seq ?_; intro K25 hK25
          refine wc_seq ?_; intro K26 hK26
          refine wc_region ?_
          refine wl_y (y_move rfl) rfl ?_
          refine wl_call Tryz.func7 rfl rfl rfl (packOf_any _ (HB.ext E) hc (by omega) (pack_fit (by show b.length ≤ 10000; omega))) rfl ?_
          rintro e w8 ⟨es, rfl, HR, h256, ex⟩
          refine ⟨_, rfl, ?_⟩
          replace E := E.ext ex
          replace X := X.ext ex
          have HR2 := HR.at; obtain ⟨i'', h0'', h1'', h2'', h4'', h5'', g'', rfl, _⟩ := HR
          refine wl_y (y_move rfl) rfl ?_
          refine wl_y (y_extract rfl rfl) rfl ?_
          refine wl_y (y_extract rfl rfl) rfl ?_
          refine wl_ef (ef_alloc (Z := #[.slice none 0 0, .slice none 0 0, .slice none 0 0, .slice none 0 0, .int .u8 0, .slice none 0 0, .slice none 0 0, .slice none 0 0]) (by kernel_rfl)) rfl ?_
          rintro _ wA21 ⟨gB21, rfl, D21, hgB21, exA⟩
          refine wl_ef (ef_storeP (o := 0) rfl rfl (by kernel_rfl) D21 (Nat.le_of_ble_eq_true rfl) (all_ones rfl)) rfl ?_
          rintro _ wB21 ⟨rfl, B21, cg⟩
          have ex := exA.chg cg hgB21; clear cg exA D21
          have lB21 := B21.lt; have zB21 := ex.size
          replace E := E.ext ex
          replace X := X.ext ex
          replace HR2 := HR2.ext ex
          refine wl_y (y_assign rfl) rfl ?_
          refine wl_nil ?_
          refine wq_then_norm (hK26 ?_)
          refine wc_seq ?_; intro K27 hK27
          refine wc_region ?_
          refine wl_y (y_move rfl) rfl ?_
          refine wl_y (y_conv rfl Tryz.underlying28 Tryz.underlying3 (i64_ok (by omega) (by omega))) rfl ?_
          refine wl_y (y_eql rfl rfl) rfl ?_
          refine wl_nil ?_
          refine wq_then_norm (hK27 ?_)
          refine wc_join (fun L wjc9 => L = [(3, .slice A n cA)] ∧ (Ext w wjc9 ∧ Ext w4 wjc9)) ?_ ?_
          · skip
            refine wc_dec rfl (fun hc9 => ?_) (fun hc9 => ?_)
            · skip
              refine wc_seq ?_; intro K28 hK28
              refine wc_region ?_
              refine wl_y (y_loadx (o := 0) (s := 8) rfl Tryz.underlying27 rfl (by kernel_rfl) B21 rfl) rfl ?_
              obtain ⟨okb, hback, hsame⟩ := packOf_back (b := b) (by omega)
              refine wl_call Tryz.func27 rfl rfl rfl (PackageBytes_any _ HR2 (by rw [hsame]; exact pack_fit (by show b.length ≤ 10000; omega))) rfl ?_
              rintro e w9 ⟨A9, n9, c9, z9, rfl, T9, hk9, ex⟩
              refine ⟨_, rfl, ?_⟩
              replace E := E.ext ex
              replace X := X.ext ex
              replace HR2 := HR2.ext ex
              replace B21 := B21.ext ex
              obtain ⟨hz9, HB9⟩ := T9.1 okb; subst hz9; rw [hback] at HB9
              refine wl_y (y_move rfl) rfl ?_
              refine wl_y (y_extract rfl rfl) rfl ?_
              refine wl_y (y_extract rfl rfl) rfl ?_
              refine wl_y (y_assign rfl) rfl ?_
              refine wl_y (y_assign rfl) rfl ?_
              refine wl_nil ?_
              refine wq_then_norm (hK28 ?_)
              refine wc_seq ?_; intro K29 hK29
              refine wc_region ?_
              refine wl_y (y_move rfl) rfl ?_
              refine wl_y (y_conv rfl Tryz.underlying28 Tryz.underlying3 (i64_ok (by omega) (by omega))) rfl ?_
              refine wl_y (Y.as (y_neq rfl rfl) (congrArg Value.bool (decide_eq_false (by omega)))) rfl ?_
              refine wl_y (y_move rfl) rfl ?_
              refine wl_gy 131 rfl rfl (y_move rfl) rfl ?_
              refine wl_gy 131 rfl rfl (y_move rfl) rfl ?_
              refine wl_gcall 131 rfl rfl Tryz.func28 rfl rfl rfl (sm_any HB9 (HB.ext E) (by have := HB9.1; omega) (by omega)) rfl ?_
              rintro e w10 ⟨rfl, ex⟩
              refine ⟨_, rfl, ?_⟩
              replace E := E.ext ex
              replace X := X.ext ex
              replace HR2 := HR2.ext ex
              replace B21 := B21.ext ex
              replace HB9 := HB9.ext ex
              rw [decide_eq_true rfl]
              refine wl_gy 131 rfl rfl (y_not rfl) rfl ?_
              refine wl_y (y_pickf rfl rfl) rfl ?_
              refine wl_nil ?_
              refine wq_then_norm (hK29 ?_)
              refine wc_false rfl rfl ?_
              refine wc_skip ?_
              exact wq_join _ ⟨rfl, E, X⟩ ⟨rfl, trivial⟩
            · skip
              refine wc_skip ?_
              exact wq_join _ ⟨rfl, E, X⟩ ⟨rfl, trivial⟩
          rintro L wjc9 ⟨rfl, E, X⟩
          refine wq_then_norm (hK25 ?_)
          refine wc_seq ?_; intro K30 hK30
          refine wc_seq ?_; intro K31 hK31
          refine wc_region ?_
          refine wl_y (y_move rfl) rfl ?_
          refine wl_call Tryz.func9 rfl rfl rfl (comOf_any _ (HB.ext E) hc (by omega) (com_fit (by show b.length ≤ 10000; omega))) rfl ?_
          rintro e w8 ⟨es, rfl, HR, h256, ex⟩
          refine ⟨_, rfl, ?_⟩
          replace E := E.ext ex
          replace X := X.ext ex
          have HR2 := HR.at; obtain ⟨it'', j0'', j1'', j2'', js'', j4'', j5'', jt'', rfl, _⟩ := HR
          refine wl_y (y_move rfl) rfl ?_
          refine wl_y (y_extract rfl rfl) rfl ?_
          refine wl_y (y_extract rfl rfl) rfl ?_
          refine wl_ef (ef_alloc (Z := #[.slice none 0 0, .bool false, .slice none 0 0, .slice none 0 0, .slice none 0 0, .int .u8 0, .slice none 0 0, .slice none 0 0, .slice none 0 0]) (by kernel_rfl)) rfl ?_
          rintro _ wA25 ⟨gB25, rfl, D25, hgB25, exA⟩
          refine wl_ef (ef_storeP (o := 0) rfl rfl (by kernel_rfl) D25 (Nat.le_of_ble_eq_true rfl) (all_ones rfl)) rfl ?_
          rintro _ wB25 ⟨rfl, B25, cg⟩
          have ex := exA.chg cg hgB25; clear cg exA D25
          have lB25 := B25.lt; have zB25 := ex.size
          replace E := E.ext ex
          replace X := X.ext ex
          replace HR2 := HR2.ext ex
          refine wl_y (y_assign rfl) rfl ?_
          refine wl_nil ?_
          refine wq_then_norm (hK31 ?_)
          refine wc_seq ?_; intro K32 hK32
          refine wc_region ?_
          refine wl_y (y_move rfl) rfl ?_
          refine wl_y (y_conv rfl Tryz.underlying28 Tryz.underlying3 (i64_ok (by omega) (by omega))) rfl ?_
          refine wl_y (y_eql rfl rfl) rfl ?_
          refine wl_nil ?_
          refine wq_then_norm (hK32 ?_)
          refine wc_join (fun L wjc11 => L = [(3, .slice A n cA)] ∧ (Ext w wjc11)) ?_ ?_
          · skip
            refine wc_dec rfl (fun hc11 => ?_) (fun hc11 => ?_)
            · skip
              refine wc_seq ?_; intro K33 hK33
              refine wc_region ?_
              refine wl_y (y_loadx (o := 0) (s := 9) rfl Tryz.underlying40 rfl (by kernel_rfl) B25 rfl) rfl ?_
              obtain ⟨okb, hback, hsame⟩ := comOf_back (b := b) (by omega)
              refine wl_call Tryz.func23 rfl rfl rfl (CommitBytes_any _ HR2 (by rw [hsame]; exact com_fit (by show b.length ≤ 10000; omega))) rfl ?_
              rintro e w9 ⟨A9, n9, c9, z9, rfl, T9, hk9, ex⟩
              refine ⟨_, rfl, ?_⟩
              replace E := E.ext ex
              replace X := X.ext ex
              replace HR2 := HR2.ext ex
              replace B25 := B25.ext ex
              obtain ⟨hz9, HB9⟩ := T9.1 okb; subst hz9; rw [hback] at HB9
              refine wl_y (y_move rfl) rfl ?_
              refine wl_y (y_extract rfl rfl) rfl ?_
              refine wl_y (y_extract rfl rfl) rfl ?_
              refine wl_y (y_assign rfl) rfl ?_
              refine wl_y (y_assign rfl) rfl ?_
              refine wl_nil ?_
              refine wq_then_norm (hK33 ?_)
              refine wc_seq ?_; intro K34 hK34
              refine wc_region ?_
              refine wl_y (y_move rfl) rfl ?_
              refine wl_y (y_conv rfl Tryz.underlying28 Tryz.underlying3 (i64_ok (by omega) (by omega))) rfl ?_
              refine wl_y (Y.as (y_neq rfl rfl) (congrArg Value.bool (decide_eq_false (by omega)))) rfl ?_
              refine wl_y (y_move rfl) rfl ?_
              refine wl_gy 153 rfl rfl (y_move rfl) rfl ?_
              refine wl_gy 153 rfl rfl (y_move rfl) rfl ?_
              refine wl_gcall 153 rfl rfl Tryz.func28 rfl rfl rfl (sm_any HB9 (HB.ext E) (by have := HB9.1; omega) (by omega)) rfl ?_
              rintro e w10 ⟨rfl, ex⟩
              refine ⟨_, rfl, ?_⟩
              replace E := E.ext ex
              replace X := X.ext ex
              replace HR2 := HR2.ext ex
              replace B25 := B25.ext ex
              replace HB9 := HB9.ext ex
              rw [decide_eq_true rfl]
              refine wl_gy 153 rfl rfl (y_not rfl) rfl ?_
              refine wl_y (y_pickf rfl rfl) rfl ?_
              refine wl_nil ?_
              refine wq_then_norm (hK34 ?_)
              refine wc_false rfl rfl ?_
              refine wc_skip ?_
              exact wq_join _ ⟨rfl, E⟩ ⟨rfl, trivial⟩
            · skip
              refine wc_skip ?_
              exact wq_join _ ⟨rfl, E⟩ ⟨rfl, trivial⟩
          rintro L wjc11 ⟨rfl, E⟩
          refine wq_then_norm (hK30 ?_)
          refine wc_seq ?_; intro K35 hK35
          refine wc_region ?_
          refine wl_y (y_assign rfl) rfl ?_
          refine wl_nil ?_
          refine wq_then_norm (hK35 ?_)
          refine wc_ret ?_
          refine hret rfl ?_
          exact ⟨rfl, E⟩
end Go.Proofs.YtpgalbgonmclaaaGreat
