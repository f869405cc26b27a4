/- What is signed tells what is meant; the law MsgApart. -/
import Derived.Test.YtpgalbgonmclaaaMsO
namespace Go.Proofs.Ytpgalbgonmclaaa
open Go.RowKit
attribute [local irreducible] Y Ef WL WC WK WQ WM OpM WN WF OpN WG OpG
namespace M20
open Wire Nd
/-- What a message frames, as it is read. -/
def frmX (s : St) : Mess × St :=
  let g := vecX s
  let e := numX 8 g.2
  let f := numX 4 (justX 1 1 e.2)
  let k := numX 1 f.2
  if k.1 = 2 then (⟨g.1, e.1, (f.1 : Int), 2, (propX k.2).1, Com20.zero, [], [], []⟩, (propX k.2).2)
  else if k.1 = 3 then (⟨g.1, e.1, (f.1 : Int), 3, Prop20.zero, (comX k.2).1, [], [], []⟩, (comX k.2).2)
  else (⟨g.1, e.1, (f.1 : Int), k.1, Prop20.zero, Com20.zero, [], [], []⟩, badX k.2)
def bare (m : Mess) : Mess := ⟨m.group, m.epoch, m.frm, m.kind, m.prop, m.com, [], [], []⟩
theorem bare_eq {a b : Mess} : bare a = bare b ↔ sameCont a b := by
  rw [mess_eq]
  exact ⟨fun h => h.1, fun h => ⟨h, rfl, rfl, rfl⟩⟩
theorem frmX_there {m : Mess} (ok : okMsg m) (hf : m.Fit) (he : m.epoch < 18446744073709551616) (r : List UInt8) : frmX (.ok (framB m ++ r)) = (bare m, .ok r) := by
  obtain ⟨h1, h2, _, _, h5⟩ := ok
  have e : framB m ++ r = vec m.group ++ (be 8 m.epoch ++ (be 1 1 ++ (be 4 m.frm.toNat ++ (UInt8.ofNat m.kind :: (contB m ++ r))))) := by
    unfold framB preB
    simp only [List.append_assoc]; rfl
  rw [e]
  unfold frmX
  simp only [vecX_vec (v := m.group) (by omega), numX_be (k := 8) (n := m.epoch) (by omega), justX_be (k := 1) (n := 1) (by omega), numX_be (k := 4) (n := m.frm.toNat) (by omega), num1_cons]
  rcases h5 with ⟨h5, h6, h7, _⟩ | ⟨h5, h6, h7, _⟩
  · have hc : contB m = propB m.prop := by unfold contB; rw [if_pos h5]
    rw [hc]
    simp only [h5, show (UInt8.ofNat 2).toNat = 2 from rfl, if_true, propX_there h6]
    refine Prod.ext (mess_eq.2 ⟨⟨rfl, rfl, ?_, h5.symm, rfl, (no_com h7).symm⟩, rfl, rfl, rfl⟩) rfl
    show ((m.frm.toNat : Nat) : Int) = m.frm
    omega
  · have hc : contB m = comB propB m.com := by unfold contB; rw [if_neg (by omega)]
    rw [hc]
    simp only [h5, show (UInt8.ofNat 3).toNat = 3 from rfl, show (3 : Nat) ≠ 2 by decide, if_true, if_false, comX_there h7 hf.2.2.1]
    refine Prod.ext (mess_eq.2 ⟨⟨rfl, rfl, ?_, h5.symm, (no_prop h6).symm, rfl⟩, rfl, rfl, rfl⟩) rfl
    show ((m.frm.toNat : Nat) : Int) = m.frm
    omega
def ctxX (s : St) : Ctx × St :=
  let g := vecX (justX 2 1 (justX 2 1 s))
  let e := numX 8 g.2
  let t := vecX e.2
  let u := vecX t.2
  (⟨g.1, e.1, t.1, u.1⟩, justX 1 0 u.2)
theorem ctxX_there {c : Ctx} (h : c.Fit) (he : c.ep < 18446744073709551616) (r : List UInt8) : ctxX (.ok (ctxBytes c ++ r)) = (c, .ok r) := by
  obtain ⟨h1, h2, h3⟩ := h
  have e : ctxBytes c ++ r = be 2 1 ++ (be 2 1 ++ (vec c.grp ++ (be 8 c.ep ++ (vec c.tree ++ (vec c.trans ++ (be 1 0 ++ r)))))) := by
    unfold ctxBytes
    simp only [List.append_assoc]; rfl
  rw [e]
  unfold ctxX
  simp only [justX_be (k := 2) (n := 1) (by omega), vecX_vec (v := c.grp) (by omega), numX_be (k := 8) (n := c.ep) (by omega), vecX_vec (v := c.tree) (by omega), vecX_vec (v := c.trans) (by omega), justX_be (k := 1) (n := 0) (by omega)]
theorem framB_cong {a b : Mess} (h : sameCont a b) : framB a = framB b := by
  obtain ⟨h1, h2, h3, h4, h5, h6⟩ := h
  unfold framB preB contB
  rw [h1, h2, h3, h4, h5, h6]
theorem signB_iff {a b : Mess} {c d : Ctx} (oa : okMsg a) (ob : okMsg b) (fa : a.Fit) (fb : b.Fit) (ea : a.epoch < 18446744073709551616) (eb : b.epoch < 18446744073709551616) (hc : c.Small) (hd : d.Small) : signB a c = signB b d ↔ sameCont a b ∧ c = d := by
  constructor
  · intro h
    have h1 : framB a ++ ctxBytes c = framB b ++ ctxBytes d := by
      unfold signB headB at h
      rw [List.append_assoc, List.append_assoc] at h
      exact List.append_cancel_left h
    have e1 := frmX_there oa fa ea (ctxBytes c)
    rw [h1, frmX_there ob fb eb] at e1
    injection e1 with e2 e3
    injection e3 with e3
    have e4 := ctxX_there hc.fit hc.2.2.2 []
    rw [List.append_nil, ← e3, ← List.append_nil (ctxBytes d), ctxX_there hd.fit hd.2.2.2] at e4
    injection e4 with e4
    exact ⟨bare_eq.1 e2.symm, e4.symm⟩
  · rintro ⟨h, rfl⟩
    unfold signB headB
    rw [framB_cong h]
theorem confB_iff {a b : Mess} (oa : okMsg a) (ob : okMsg b) (fa : a.Fit) (fb : b.Fit) (ea : a.epoch < 18446744073709551616) (eb : b.epoch < 18446744073709551616) : confB a = confB b ↔ sameCont a b ∧ a.sig = b.sig := by
  constructor
  · intro h
    have h1 : framB a ++ vec a.sig = framB b ++ vec b.sig := by
      unfold confB at h
      rw [List.append_assoc, List.append_assoc] at h
      exact List.append_cancel_left h
    have e1 := frmX_there oa fa ea (vec a.sig)
    rw [h1, frmX_there ob fb eb] at e1
    injection e1 with e2 e3
    injection e3 with e3
    have s1 := oa.2.2.1; have s2 := ob.2.2.1
    have e4 := vecX_vec (v := a.sig) (by omega) []
    rw [List.append_nil, ← e3, ← List.append_nil (vec b.sig), vecX_vec (by omega)] at e4
    injection e4 with e4
    exact ⟨bare_eq.1 e2.symm, e4.symm⟩
  · rintro ⟨h, e⟩
    unfold confB
    rw [framB_cong h, e]
theorem nbeq {p q : Prop} [Decidable p] [Decidable q] (h : p ↔ q) : (!(decide p == decide q)) = false := by have e : decide p = decide q := decide_eq_decide.2 h; rw [e]; simp
theorem beqt {p q : Prop} [Decidable p] [Decidable q] (h : p ↔ q) : (decide p == decide q) = true := by have e : decide p = decide q := decide_eq_decide.2 h; rw [e]; simp
theorem beqf {p : Prop} [Decidable p] (h : ¬ p) : (decide p == false) = true := by rw [decide_eq_false h]; rfl
end M20
open M20
theorem Told.code {w : World} {ok : Prop} {xs : List UInt8} {A : Option Addr} {k z : Nat} (h : Told w ok xs A k z) : (z = 0 ↔ ok) ∧ (z = 0 ∨ z = 3) := by
  by_cases o : ok
  · have := (h.1 o).1; exact ⟨⟨fun _ => o, fun _ => this⟩, .inl this⟩
  · have := (h.2 o).1; exact ⟨⟨fun e => by omega, fun e => absurd e o⟩, .inr this⟩
theorem MsgAt.ep {w : World} {cs : Array Value} {m : Mess} (h : MsgAt w cs m) : m.epoch < 18446744073709551616 := by
  obtain ⟨gr, i, h0, h1, h2, s, h4, h5, g, l0, l1, l2, t, l4, l5, it, c0, c1, c2, q, c4, c5, ct, sg, tg, mb, _, a, _⟩ := h
  exact a
set_option maxHeartbeats 2000000 in
theorem msgApart_law (cs : Array Value) (m : Mess) (cs' : Array Value) (n : Mess) (ds : Array Value) (c : Ctx) (ds' : Array Value) (d : Ctx) (w : World) (H : MsgAt w cs m) (H' : MsgAt w cs' n) (K : CtxAt w ds c) (he : c.ep < 18446744073709551616) (K' : CtxAt w ds' d) (he' : d.ep < 18446744073709551616) :
    Calls Try.prog 4 #[.agg cs, .agg cs', .agg ds, .agg ds'] w fun e w' => e = .returned (.bool true) ∧ Below w.heap.size w w' := by
  have HM := H
  have HN := H'
  have KM := K
  have KN := K'
  obtain ⟨gr, i, h0, h1, h2, s, h4, h5, g, l0, l1, l2, t, l4, l5, it, c0, c1, c2, q, c4, c5, ct, sg, tg, mb, rfl, _, _, _, _, _, _, S, _⟩ := H
  obtain ⟨gr', i', h0', h1', h2', s', h4', h5', g', l0', l1', l2', t', l4', l5', it', c0', c1', c2', q', c4', c5', ct', sg', tg', mb', rfl, _, _, _, _, _, _, S', _⟩ := H'
  obtain ⟨A1, A2, A3, n1, d1, n2, d2, n3, d3, rfl, _⟩ := K
  obtain ⟨A1', A2', A3', n1', d1', n2', d2', n3', d3', rfl, _⟩ := K'
  have e1 := HM.ep; have e2 := HN.ep
  have E := Ext.refl w
  refine vc_enter1 121 Try.func4 rfl rfl rfl rfl ?_
  intro Q hret
  refine wc_seq ?_; intro K1 hK1
  refine wc_region ?_
  refine wl_ef (ef_box rfl rfl) rfl ?_
  rintro _ wB4 ⟨gB4, rfl, B4, hgB4, ex⟩
  have lB4 := B4.lt; have zB4 := ex.size
  replace E := E.ext ex
  refine wl_ef (ef_box rfl rfl) rfl ?_
  rintro _ wB5 ⟨gB5, rfl, B5, hgB5, ex⟩
  have lB5 := B5.lt; have zB5 := ex.size
  replace E := E.ext ex
  replace B4 := B4.ext ex
  refine wl_ef (ef_box rfl rfl) rfl ?_
  rintro _ wB6 ⟨gB6, rfl, B6, hgB6, ex⟩
  have lB6 := B6.lt; have zB6 := ex.size
  replace E := E.ext ex
  replace B4 := B4.ext ex
  replace B5 := B5.ext ex
  refine wl_ef (ef_box rfl rfl) rfl ?_
  rintro _ wB7 ⟨gB7, rfl, B7, hgB7, ex⟩
  have lB7 := B7.lt; have zB7 := ex.size
  replace E := E.ext ex
  replace B4 := B4.ext ex
  replace B5 := B5.ext ex
  replace B6 := B6.ext ex
  refine wl_y (y_assign rfl) rfl ?_
  refine wl_nil ?_
  refine wq_then_norm (hK1 ?_)
  refine wc_seq ?_; intro K2 hK2
  refine wc_seq ?_; intro K3 hK3
  refine wc_region ?_
  refine wl_call Try.func10 rfl rfl rfl (alive20_any _) rfl ?_
  rintro e w1 ⟨rfl, ex⟩
  refine ⟨_, rfl, ?_⟩
  replace E := E.ext ex
  replace B4 := B4.ext ex
  replace B5 := B5.ext ex
  replace B6 := B6.ext ex
  replace B7 := B7.ext ex
  refine wl_y (y_not rfl) rfl ?_
  refine wl_nil ?_
  refine wq_then_norm (hK3 ?_)
  refine wc_false rfl rfl ?_
  refine wc_skip ?_
  refine wq_then_norm (hK2 ?_)
  refine wc_seq ?_; intro K4 hK4
  refine wc_seq ?_; intro K5 hK5
  refine wc_region ?_
  refine wl_y (y_loadx (o := 0) (s := 32) rfl Try.underlying48 rfl (by kernel_rfl) B4 rfl) rfl ?_
  refine wl_call Try.func20 rfl rfl rfl (smallMsg_any _ (HM.ext E)) rfl ?_
  rintro e w2 ⟨rfl, ex⟩
  refine ⟨_, rfl, ?_⟩
  replace E := E.ext ex
  replace B4 := B4.ext ex
  replace B5 := B5.ext ex
  replace B6 := B6.ext ex
  replace B7 := B7.ext ex
  skip
  refine wl_y (y_not rfl) rfl ?_
  refine wl_yaskb (y_move rfl) rfl (fun q0 => ?_) (fun q0 => ?_)
  · skip
    refine wl_gno 23 rfl rfl rfl rfl ?_
    refine wl_gno 23 rfl rfl rfl rfl ?_
    refine wl_gno 23 rfl rfl rfl rfl ?_
    refine wl_y (y_pickt rfl rfl) rfl ?_
    refine wl_y (y_move rfl) rfl ?_
    refine wl_gno 28 rfl rfl rfl rfl ?_
    refine wl_gno 28 rfl rfl rfl rfl ?_
    refine wl_gno 28 rfl rfl rfl rfl ?_
    refine wl_y (y_pickt rfl rfl) rfl ?_
    refine wl_y (y_move rfl) rfl ?_
    refine wl_gno 33 rfl rfl rfl rfl ?_
    refine wl_gno 33 rfl rfl rfl rfl ?_
    refine wl_gno 33 rfl rfl rfl rfl ?_
    refine wl_y (y_pickt rfl rfl) rfl ?_
    refine wl_nil ?_
    refine wq_then_norm (hK5 ?_)
    refine wc_true rfl rfl ?_
    refine wc_seq ?_; intro K6 hK6
    refine wc_region ?_
    refine wl_y (y_assign rfl) rfl ?_
    refine wl_nil ?_
    refine wq_then_norm (hK6 ?_)
    refine wc_ret ?_
    refine wq_then_ret ?_
    refine hret rfl ?_
    exact ⟨rfl, E⟩
  · skip
    refine wl_gy 23 rfl rfl (y_loadx (o := 0) (s := 32) rfl Try.underlying48 rfl (by kernel_rfl) B5 rfl) rfl ?_
    refine wl_gcall 23 rfl rfl Try.func20 rfl rfl rfl (smallMsg_any _ (HN.ext E)) rfl ?_
    rintro e w3 ⟨rfl, ex⟩
    refine ⟨_, rfl, ?_⟩
    replace E := E.ext ex
    replace B4 := B4.ext ex
    replace B5 := B5.ext ex
    replace B6 := B6.ext ex
    replace B7 := B7.ext ex
    skip
    refine wl_gy 23 rfl rfl (y_not rfl) rfl ?_
    refine wl_y (y_pickf rfl rfl) rfl ?_
    refine wl_yaskb (y_move rfl) rfl (fun q1 => ?_) (fun q1 => ?_)
    · skip
      refine wl_gno 28 rfl rfl rfl rfl ?_
      refine wl_gno 28 rfl rfl rfl rfl ?_
      refine wl_gno 28 rfl rfl rfl rfl ?_
      refine wl_y (y_pickt rfl rfl) rfl ?_
      refine wl_y (y_move rfl) rfl ?_
      refine wl_gno 33 rfl rfl rfl rfl ?_
      refine wl_gno 33 rfl rfl rfl rfl ?_
      refine wl_gno 33 rfl rfl rfl rfl ?_
      refine wl_y (y_pickt rfl rfl) rfl ?_
      refine wl_nil ?_
      refine wq_then_norm (hK5 ?_)
      refine wc_true rfl rfl ?_
      refine wc_seq ?_; intro K7 hK7
      refine wc_region ?_
      refine wl_y (y_assign rfl) rfl ?_
      refine wl_nil ?_
      refine wq_then_norm (hK7 ?_)
      refine wc_ret ?_
      refine wq_then_ret ?_
      refine hret rfl ?_
      exact ⟨rfl, E⟩
    · skip
      refine wl_gy 28 rfl rfl (y_loadx (o := 0) (s := 4) rfl Try.underlying50 rfl (by kernel_rfl) B6 rfl) rfl ?_
      refine wl_gcall 28 rfl rfl Try.func21 rfl rfl rfl (smallCtx20_any _ (KM.ext E) he) rfl ?_
      rintro e w4 ⟨rfl, ex⟩
      refine ⟨_, rfl, ?_⟩
      replace E := E.ext ex
      replace B4 := B4.ext ex
      replace B5 := B5.ext ex
      replace B6 := B6.ext ex
      replace B7 := B7.ext ex
      skip
      refine wl_gy 28 rfl rfl (y_not rfl) rfl ?_
      refine wl_y (y_pickf rfl rfl) rfl ?_
      refine wl_yaskb (y_move rfl) rfl (fun q2 => ?_) (fun q2 => ?_)
      · skip
        refine wl_gno 33 rfl rfl rfl rfl ?_
        refine wl_gno 33 rfl rfl rfl rfl ?_
        refine wl_gno 33 rfl rfl rfl rfl ?_
        refine wl_y (y_pickt rfl rfl) rfl ?_
        refine wl_nil ?_
        refine wq_then_norm (hK5 ?_)
        refine wc_true rfl rfl ?_
        refine wc_seq ?_; intro K8 hK8
        refine wc_region ?_
        refine wl_y (y_assign rfl) rfl ?_
        refine wl_nil ?_
        refine wq_then_norm (hK8 ?_)
        refine wc_ret ?_
        refine wq_then_ret ?_
        refine hret rfl ?_
        exact ⟨rfl, E⟩
      · skip
        refine wl_gy 33 rfl rfl (y_loadx (o := 0) (s := 4) rfl Try.underlying50 rfl (by kernel_rfl) B7 rfl) rfl ?_
        refine wl_gcall 33 rfl rfl Try.func21 rfl rfl rfl (smallCtx20_any _ (KN.ext E) he') rfl ?_
        rintro e w5 ⟨rfl, ex⟩
        refine ⟨_, rfl, ?_⟩
        replace E := E.ext ex
        replace B4 := B4.ext ex
        replace B5 := B5.ext ex
        replace B6 := B6.ext ex
        replace B7 := B7.ext ex
        skip
        refine wl_gy 33 rfl rfl (y_not rfl) rfl ?_
        refine wl_y (y_pickf rfl rfl) rfl ?_
        refine wl_nil ?_
        refine wq_then_norm (hK5 ?_)
        refine wc_cond rfl (fun hc2 => ?_) (fun hc2 => ?_)
        · skip
          refine wc_seq ?_; intro K9 hK9
          refine wc_region ?_
          refine wl_y (y_assign rfl) rfl ?_
          refine wl_nil ?_
          refine wq_then_norm (hK9 ?_)
          refine wc_ret ?_
          refine wq_then_ret ?_
          refine hret rfl ?_
          exact ⟨rfl, E⟩
        · skip
          refine wc_skip ?_
          refine wq_then_norm (hK4 ?_)
          refine wc_seq ?_; intro K10 hK10
          have hs : m.Small := by simpa using q0
          have hs' : n.Small := by simpa using q1
          have hc : c.Small := by simpa using q2
          have hd : d.Small := by simpa using hc2
          have hf := hs.fit; have hf' := hs'.fit
          refine wc_region ?_
          refine wl_y (y_loadx (o := 0) (s := 32) rfl Try.underlying48 rfl (by kernel_rfl) B4 rfl) rfl ?_
          refine wl_y (y_loadx (o := 0) (s := 4) rfl Try.underlying50 rfl (by kernel_rfl) B6 rfl) rfl ?_
          refine wl_call Try.func22 rfl rfl rfl (MsgSigned_any _ (HM.ext E) (KM.ext E) hf hc) rfl ?_
          rintro e w6 ⟨A5, k5, c5_, z5, rfl, T5, ex⟩
          refine ⟨_, rfl, ?_⟩
          replace E := E.ext ex
          replace B4 := B4.ext ex
          replace B5 := B5.ext ex
          replace B6 := B6.ext ex
          replace B7 := B7.ext ex
          replace T5 := T5.1
          refine wl_y (y_move rfl) rfl ?_
          refine wl_y (y_extract rfl rfl) rfl ?_
          refine wl_y (y_extract rfl rfl) rfl ?_
          refine wl_y (y_assign rfl) rfl ?_
          refine wl_y (y_assign rfl) rfl ?_
          refine wl_nil ?_
          refine wq_then_norm (hK10 ?_)
          refine wc_seq ?_; intro K11 hK11
          refine wc_region ?_
          refine wl_y (y_loadx (o := 0) (s := 32) rfl Try.underlying48 rfl (by kernel_rfl) B5 rfl) rfl ?_
          refine wl_y (y_loadx (o := 0) (s := 4) rfl Try.underlying50 rfl (by kernel_rfl) B7 rfl) rfl ?_
          refine wl_call Try.func22 rfl rfl rfl (MsgSigned_any _ (HN.ext E) (KN.ext E) hf' hd) rfl ?_
          rintro e w7 ⟨A6, k6, c6, z6, rfl, T6, ex⟩
          refine ⟨_, rfl, ?_⟩
          replace E := E.ext ex
          replace B4 := B4.ext ex
          replace B5 := B5.ext ex
          replace B6 := B6.ext ex
          replace B7 := B7.ext ex
          replace T5 := T5.ext ex
          replace T6 := T6.1
          refine wl_y (y_move rfl) rfl ?_
          refine wl_y (y_extract rfl rfl) rfl ?_
          refine wl_y (y_extract rfl rfl) rfl ?_
          refine wl_y (y_assign rfl) rfl ?_
          refine wl_y (y_assign rfl) rfl ?_
          refine wl_nil ?_
          refine wq_then_norm (hK11 ?_)
          refine wc_seq ?_; intro K12 hK12
          refine wc_region ?_
          refine wl_y (y_loadx (o := 0) (s := 32) rfl Try.underlying48 rfl (by kernel_rfl) B4 rfl) rfl ?_
          refine wl_call Try.func23 rfl rfl rfl (MsgConfirmed_any _ (HM.ext E) hf) rfl ?_
          rintro e w8 ⟨A7, k7, c7, z7, rfl, T7, ex⟩
          refine ⟨_, rfl, ?_⟩
          replace E := E.ext ex
          replace B4 := B4.ext ex
          replace B5 := B5.ext ex
          replace B6 := B6.ext ex
          replace B7 := B7.ext ex
          replace T5 := T5.ext ex
          replace T6 := T6.ext ex
          replace T7 := T7.1
          refine wl_y (y_move rfl) rfl ?_
          refine wl_y (y_extract rfl rfl) rfl ?_
          refine wl_y (y_extract rfl rfl) rfl ?_
          refine wl_y (y_assign rfl) rfl ?_
          refine wl_y (y_assign rfl) rfl ?_
          refine wl_nil ?_
          refine wq_then_norm (hK12 ?_)
          refine wc_seq ?_; intro K13 hK13
          refine wc_region ?_
          refine wl_y (y_loadx (o := 0) (s := 32) rfl Try.underlying48 rfl (by kernel_rfl) B5 rfl) rfl ?_
          refine wl_call Try.func23 rfl rfl rfl (MsgConfirmed_any _ (HN.ext E) hf') rfl ?_
          rintro e w9 ⟨A8, k8, c8, z8, rfl, T8, ex⟩
          refine ⟨_, rfl, ?_⟩
          replace E := E.ext ex
          replace B4 := B4.ext ex
          replace B5 := B5.ext ex
          replace B6 := B6.ext ex
          replace B7 := B7.ext ex
          replace T5 := T5.ext ex
          replace T6 := T6.ext ex
          replace T7 := T7.ext ex
          replace T8 := T8.1
          refine wl_y (y_move rfl) rfl ?_
          refine wl_y (y_extract rfl rfl) rfl ?_
          refine wl_y (y_extract rfl rfl) rfl ?_
          refine wl_y (y_assign rfl) rfl ?_
          refine wl_y (y_assign rfl) rfl ?_
          refine wl_nil ?_
          refine wq_then_norm (hK13 ?_)
          refine wc_seq ?_; intro K14 hK14
          refine wc_seq ?_; intro K15 hK15
          obtain ⟨y5, v5⟩ := T5.code; obtain ⟨y6, v6⟩ := T6.code; obtain ⟨y7, v7⟩ := T7.code; obtain ⟨y8, v8⟩ := T8.code
          have x1 : z5 = z7 := by
            rcases v5 with h | h <;> rcases v7 with h' | h'
            · omega
            · have := y7.2 (y5.1 h); omega
            · have := y5.2 (y7.1 h'); omega
            · omega
          have x2 : z6 = z8 := by
            rcases v6 with h | h <;> rcases v8 with h' | h'
            · omega
            · have := y8.2 (y6.1 h); omega
            · have := y6.2 (y8.1 h'); omega
            · omega
          have b5 : z5 < 256 := by omega
          have b6 : z6 < 256 := by omega
          have b7 : z7 < 256 := by omega
          have b8 : z8 < 256 := by omega
          refine wc_region ?_
          refine wl_y (y_move rfl) rfl ?_
          refine wl_y (y_conv rfl Try.underlying38 Try.underlying3 (i64_ok (by omega) (by omega))) rfl ?_
          refine wl_y (y_move rfl) rfl ?_
          refine wl_y (y_conv rfl Try.underlying38 Try.underlying3 (i64_ok (by omega) (by omega))) rfl ?_
          refine wl_y (Y.as (y_neq rfl rfl) (congrArg Value.bool (decide_eq_false (by omega)))) rfl ?_
          refine wl_y (y_move rfl) rfl ?_
          refine wl_gy 65 rfl rfl (y_move rfl) rfl ?_
          refine wl_gy 65 rfl rfl (y_conv rfl Try.underlying38 Try.underlying3 (i64_ok (by omega) (by omega))) rfl ?_
          refine wl_gy 65 rfl rfl (y_move rfl) rfl ?_
          refine wl_gy 65 rfl rfl (y_conv rfl Try.underlying38 Try.underlying3 (i64_ok (by omega) (by omega))) rfl ?_
          refine wl_gy 65 rfl rfl (Y.as (y_neq rfl rfl) (congrArg Value.bool (decide_eq_false (by omega)))) rfl ?_
          refine wl_y (y_pickf rfl rfl) rfl ?_
          refine wl_y (y_move rfl) rfl ?_
          refine wl_gy 72 rfl rfl (y_move rfl) rfl ?_
          refine wl_gy 72 rfl rfl (y_conv rfl Try.underlying38 Try.underlying3 (i64_ok (by omega) (by omega))) rfl ?_
          refine wl_gy 72 rfl rfl (y_eql rfl rfl) rfl ?_
          refine wl_gy 72 rfl rfl (y_loadx (o := 0) (s := 32) rfl Try.underlying48 rfl (by kernel_rfl) B4 rfl) rfl ?_
          refine wl_gcall 72 rfl rfl Try.func24 rfl rfl rfl (rRight_any _ (HM.ext E) hf) rfl ?_
          rintro e w10 ⟨rfl, ex⟩
          refine ⟨_, rfl, ?_⟩
          replace E := E.ext ex
          replace B4 := B4.ext ex
          replace B5 := B5.ext ex
          replace B6 := B6.ext ex
          replace B7 := B7.ext ex
          replace T5 := T5.ext ex
          replace T6 := T6.ext ex
          replace T7 := T7.ext ex
          replace T8 := T8.ext ex
          skip
          refine wl_gy 72 rfl rfl (Y.as (y_neqb rfl rfl Try.underlying4) (congrArg Value.bool (show _ = false from by exact nbeq ⟨fun h => y5.1 (by omega), fun h => by have := y5.2 h; omega⟩))) rfl ?_
          refine wl_y (y_pickf rfl rfl) rfl ?_
          refine wl_y (y_move rfl) rfl ?_
          refine wl_gy 80 rfl rfl (y_move rfl) rfl ?_
          refine wl_gy 80 rfl rfl (y_conv rfl Try.underlying38 Try.underlying3 (i64_ok (by omega) (by omega))) rfl ?_
          refine wl_gy 80 rfl rfl (y_eql rfl rfl) rfl ?_
          refine wl_gy 80 rfl rfl (y_loadx (o := 0) (s := 32) rfl Try.underlying48 rfl (by kernel_rfl) B5 rfl) rfl ?_
          refine wl_gcall 80 rfl rfl Try.func24 rfl rfl rfl (rRight_any _ (HN.ext E) hf') rfl ?_
          rintro e w11 ⟨rfl, ex⟩
          refine ⟨_, rfl, ?_⟩
          replace E := E.ext ex
          replace B4 := B4.ext ex
          replace B5 := B5.ext ex
          replace B6 := B6.ext ex
          replace B7 := B7.ext ex
          replace T5 := T5.ext ex
          replace T6 := T6.ext ex
          replace T7 := T7.ext ex
          replace T8 := T8.ext ex
          skip
          refine wl_gy 80 rfl rfl (Y.as (y_neqb rfl rfl Try.underlying4) (congrArg Value.bool (show _ = false from by exact nbeq ⟨fun h => y6.1 (by omega), fun h => by have := y6.2 h; omega⟩))) rfl ?_
          refine wl_y (y_pickf rfl rfl) rfl ?_
          refine wl_nil ?_
          refine wq_then_norm (hK15 ?_)
          refine wc_false rfl rfl ?_
          refine wc_skip ?_
          refine wq_then_norm (hK14 ?_)
          refine wc_seq ?_; intro K16 hK16
          refine wc_seq ?_; intro K17 hK17
          refine wc_region ?_
          refine wl_y (y_move rfl) rfl ?_
          refine wl_y (y_conv rfl Try.underlying38 Try.underlying3 (i64_ok (by omega) (by omega))) rfl ?_
          refine wl_y (y_move rfl) rfl ?_
          refine wl_y (y_conv rfl Try.underlying38 Try.underlying3 (i64_ok (by omega) (by omega))) rfl ?_
          refine wl_y (y_add rfl rfl (i64_ok (by omega) (by omega))) rfl ?_
          refine wl_y (y_neq rfl rfl) rfl ?_
          refine wl_nil ?_
          refine wq_then_norm (hK17 ?_)
          refine wc_dec rfl (fun hc4 => ?_) (fun hc4 => ?_)
          · skip
            refine wc_seq ?_; intro K18 hK18
            refine wc_region ?_
            refine wl_y (y_assign rfl) rfl ?_
            refine wl_nil ?_
            refine wq_then_norm (hK18 ?_)
            refine wc_ret ?_
            refine wq_then_ret ?_
            refine hret rfl ?_
            exact ⟨rfl, E⟩
          · skip
            refine wc_skip ?_
            refine wq_then_norm (hK16 ?_)
            refine wc_seq ?_; intro K19 hK19
            have om : okMsg m := y5.1 (by omega)
            have on_ : okMsg n := y6.1 (by omega)
            have iff1 := signB_iff om on_ hf hf' e1 e2 hc hd
            have iff2 := confB_iff om on_ hf hf' e1 e2
            have H5 := (T5.1 om).2; have H6 := (T6.1 on_).2; have H7 := (T7.1 om).2; have H8 := (T8.1 on_).2
            have g5 := H5.1; have g6 := H6.1; have g7 := H7.1; have g8 := H8.1
            have l5_ := headB_sm om hs; have l6 := headB_sm on_ hs'; have l7 := framB_sm om hs; have l8 := framB_sm on_ hs'
            have lc := ctxBytes_length hc; have ld := ctxBytes_length hd
            have vs := vec_le m.sig; have vs' := vec_le n.sig
            have f4 := hs.2.2.2.1; have f4' := hs'.2.2.2.1
            have s5 : (signB m c).length ≤ 300000 := by unfold signB; rw [List.length_append]; omega
            have s6 : (signB n d).length ≤ 300000 := by unfold signB; rw [List.length_append]; omega
            have s7 : (confB m).length ≤ 300000 := by unfold confB; simp only [List.length_append, List.length_cons, List.length_nil]; omega
            have s8 : (confB n).length ≤ 300000 := by unfold confB; simp only [List.length_append, List.length_cons, List.length_nil]; omega
            have m1 := S.1; have m2 := S'.1
            refine wc_region ?_
            refine wl_y (y_loadx (o := 0) (s := 32) rfl Try.underlying48 rfl (by kernel_rfl) B4 rfl) rfl ?_
            refine wl_y (y_loadx (o := 0) (s := 32) rfl Try.underlying48 rfl (by kernel_rfl) B5 rfl) rfl ?_
            refine wl_call Try.func25 rfl rfl rfl (sameCont_any _ (HM.ext E) (HN.ext E) hf hf') rfl ?_
            rintro e w12 ⟨rfl, ex⟩
            refine ⟨_, rfl, ?_⟩
            replace E := E.ext ex
            replace B4 := B4.ext ex
            replace B5 := B5.ext ex
            replace B6 := B6.ext ex
            replace B7 := B7.ext ex
            replace T5 := T5.ext ex
            replace T6 := T6.ext ex
            replace T7 := T7.ext ex
            replace T8 := T8.ext ex
            replace H5 := H5.ext ex
            replace H6 := H6.ext ex
            replace H7 := H7.ext ex
            replace H8 := H8.ext ex
            skip
            refine wl_y (y_assign rfl) rfl ?_
            refine wl_nil ?_
            refine wq_then_norm (hK19 ?_)
            refine wc_seq ?_; intro K20 hK20
            refine wc_region ?_
            refine wl_y (y_move rfl) rfl ?_
            refine wl_y (y_move rfl) rfl ?_
            refine wl_call Try.func26 rfl rfl rfl (sm_any H5 H6 (by omega) (by omega)) rfl ?_
            rintro e w13 ⟨rfl, ex⟩
            refine ⟨_, rfl, ?_⟩
            replace E := E.ext ex
            replace B4 := B4.ext ex
            replace B5 := B5.ext ex
            replace B6 := B6.ext ex
            replace B7 := B7.ext ex
            replace T5 := T5.ext ex
            replace T6 := T6.ext ex
            replace T7 := T7.ext ex
            replace T8 := T8.ext ex
            replace H5 := H5.ext ex
            replace H6 := H6.ext ex
            replace H7 := H7.ext ex
            replace H8 := H8.ext ex
            skip
            refine wl_y (y_move rfl) rfl ?_
            refine wl_yask (y_move rfl) rfl (fun s0 => ?_) (fun s0 => ?_)
            · skip
              refine wl_gy 101 rfl rfl (y_loadx (o := 0) (s := 4) rfl Try.underlying50 rfl (by kernel_rfl) B6 rfl) rfl ?_
              refine wl_gy 101 rfl rfl (y_loadx (o := 0) (s := 4) rfl Try.underlying50 rfl (by kernel_rfl) B7 rfl) rfl ?_
              refine wl_gcall 101 rfl rfl Try.func27 rfl rfl rfl (sameCtx20_any _ (KM.ext E) (KN.ext E) hc.fit hd.fit) rfl ?_
              rintro e w14 ⟨rfl, ex⟩
              refine ⟨_, rfl, ?_⟩
              replace E := E.ext ex
              replace B4 := B4.ext ex
              replace B5 := B5.ext ex
              replace B6 := B6.ext ex
              replace B7 := B7.ext ex
              replace T5 := T5.ext ex
              replace T6 := T6.ext ex
              replace T7 := T7.ext ex
              replace T8 := T8.ext ex
              replace H5 := H5.ext ex
              replace H6 := H6.ext ex
              replace H7 := H7.ext ex
              replace H8 := H8.ext ex
              skip
              refine wl_y (y_pickt rfl rfl) rfl ?_
              refine wl_y (Y.as (y_eqlb rfl rfl Try.underlying4) (congrArg Value.bool (show _ = true from by exact beqt (iff1.trans ⟨fun h => h.2, fun h => ⟨s0, h⟩⟩)))) rfl ?_
              refine wl_y (y_move rfl) rfl ?_
              refine wl_gy 107 rfl rfl (y_move rfl) rfl ?_
              refine wl_gy 107 rfl rfl (y_move rfl) rfl ?_
              refine wl_gcall 107 rfl rfl Try.func26 rfl rfl rfl (sm_any H7 H8 (by omega) (by omega)) rfl ?_
              rintro e w15 ⟨rfl, ex⟩
              refine ⟨_, rfl, ?_⟩
              replace E := E.ext ex
              replace B4 := B4.ext ex
              replace B5 := B5.ext ex
              replace B6 := B6.ext ex
              replace B7 := B7.ext ex
              replace T5 := T5.ext ex
              replace T6 := T6.ext ex
              replace T7 := T7.ext ex
              replace T8 := T8.ext ex
              replace H5 := H5.ext ex
              replace H6 := H6.ext ex
              replace H7 := H7.ext ex
              replace H8 := H8.ext ex
              skip
              refine wl_gy 107 rfl rfl (y_move rfl) rfl ?_
              refine wl_gy 107 rfl rfl (Y.as (y_move rfl) (congrArg Value.bool (decide_eq_true s0))) rfl ?_
              refine wl_gy 112 rfl rfl (y_fieldAddr (o := 29) (s := 1) (off := 0) (o' := 29) rfl Try.underlying48 rfl (by kernel_rfl) rfl rfl) rfl ?_
              refine wl_gy 112 rfl rfl (y_load1 rfl Try.underlying22 rfl (B4.get (i := 29) rfl)) rfl ?_
              refine wl_gy 112 rfl rfl (y_fieldAddr (o := 29) (s := 1) (off := 0) (o' := 29) rfl Try.underlying48 rfl (by kernel_rfl) rfl rfl) rfl ?_
              refine wl_gy 112 rfl rfl (y_load1 rfl Try.underlying22 rfl (B5.get (i := 29) rfl)) rfl ?_
              refine wl_gcall 112 rfl rfl Try.func26 rfl rfl rfl (sm_any (Bs.ext S E) (Bs.ext S' E) (by omega) (by omega)) rfl ?_
              rintro e w16 ⟨rfl, ex⟩
              refine ⟨_, rfl, ?_⟩
              replace E := E.ext ex
              replace B4 := B4.ext ex
              replace B5 := B5.ext ex
              replace B6 := B6.ext ex
              replace B7 := B7.ext ex
              replace T5 := T5.ext ex
              replace T6 := T6.ext ex
              replace T7 := T7.ext ex
              replace T8 := T8.ext ex
              replace H5 := H5.ext ex
              replace H6 := H6.ext ex
              replace H7 := H7.ext ex
              replace H8 := H8.ext ex
              skip
              refine wl_gy 107 rfl rfl (y_pickt rfl rfl) rfl ?_
              refine wl_gy 107 rfl rfl (Y.as (y_eqlb rfl rfl Try.underlying4) (congrArg Value.bool (show _ = true from by exact beqt (iff2.trans ⟨fun h => h.2, fun h => ⟨s0, h⟩⟩)))) rfl ?_
              refine wl_y (y_pickt rfl rfl) rfl ?_
              refine wl_y (y_assign rfl) rfl ?_
              refine wl_nil ?_
              refine wq_then_norm (hK20 ?_)
              refine wc_ret ?_
              refine hret rfl ?_
              exact ⟨rfl, E⟩
            · skip
              refine wl_gno 101 rfl rfl rfl rfl ?_
              refine wl_gno 101 rfl rfl rfl rfl ?_
              refine wl_gno 101 rfl rfl rfl rfl ?_
              refine wl_y (y_pickf rfl rfl) rfl ?_
              refine wl_y (Y.as (y_eqlb rfl rfl Try.underlying4) (congrArg Value.bool (show _ = true from by exact beqf (fun h => s0 (iff1.1 h).1)))) rfl ?_
              refine wl_y (y_move rfl) rfl ?_
              refine wl_gy 107 rfl rfl (y_move rfl) rfl ?_
              refine wl_gy 107 rfl rfl (y_move rfl) rfl ?_
              refine wl_gcall 107 rfl rfl Try.func26 rfl rfl rfl (sm_any H7 H8 (by omega) (by omega)) rfl ?_
              rintro e w15 ⟨rfl, ex⟩
              refine ⟨_, rfl, ?_⟩
              replace E := E.ext ex
              replace B4 := B4.ext ex
              replace B5 := B5.ext ex
              replace B6 := B6.ext ex
              replace B7 := B7.ext ex
              replace T5 := T5.ext ex
              replace T6 := T6.ext ex
              replace T7 := T7.ext ex
              replace T8 := T8.ext ex
              replace H5 := H5.ext ex
              replace H6 := H6.ext ex
              replace H7 := H7.ext ex
              replace H8 := H8.ext ex
              skip
              refine wl_gy 107 rfl rfl (y_move rfl) rfl ?_
              refine wl_gy 107 rfl rfl (Y.as (y_move rfl) (congrArg Value.bool (decide_eq_false s0))) rfl ?_
              refine wl_gno 112 rfl rfl rfl rfl ?_
              refine wl_gno 112 rfl rfl rfl rfl ?_
              refine wl_gno 112 rfl rfl rfl rfl ?_
              refine wl_gno 112 rfl rfl rfl rfl ?_
              refine wl_gno 112 rfl rfl rfl rfl ?_
              refine wl_gy 107 rfl rfl (y_pickf rfl rfl) rfl ?_
              refine wl_gy 107 rfl rfl (Y.as (y_eqlb rfl rfl Try.underlying4) (congrArg Value.bool (show _ = true from by exact beqf (fun h => s0 (iff2.1 h).1)))) rfl ?_
              refine wl_y (y_pickt rfl rfl) rfl ?_
              refine wl_y (y_assign rfl) rfl ?_
              refine wl_nil ?_
              refine wq_then_norm (hK20 ?_)
              refine wc_ret ?_
              refine hret rfl ?_
              exact ⟨rfl, E⟩
end Go.Proofs.Ytpgalbgonmclaaa
