/- From a row's reading of a proposal, a commit, a message, a welcome or an info to the walk's word for it. No conditions beyond the row's own. -/
import Derived.Test.YtgfafidlkldeaaaGreatMsB
import Derived.Test.YtgfafidlkldeaaaGreatRowB
import Derived.Test.YtgfafidlkldeaaaGreatAu
import Derived.Test.YtgfafidlkldeaaaGreatVs
import Derived.Test.YtgfafidlkldeaaaGreatRow
set_option linter.unusedVariables false
set_option linter.unusedSimpArgs false
set_option maxHeartbeats 4000000
set_option maxRecDepth 4000
namespace Go.Proofs.YtgfafidlkldeaaaGreat
section
open Go.RowKit Tryz
attribute [local irreducible] Y Ef WL WC WK WQ WM cE WN WF dc
open Nd Wire
def ke (p : Pack) : List UInt8 := [0, 1, 0, 1] ++ vec p.init ++ kr p.leaf
def AR (p : Pack) : List UInt8 := ke p ++ vec p.sig
theorem wB {l : bT} (h : (⟨0, l, AW.zero⟩ : Node).Small) : (kr l).length ≤ 1200 := by
 obtain ⟨f0, f1, f2, f4, f5, _⟩ := h
 have f0 : l.box.length ≤ 200 := f0
 have f1 : l.sign.length ≤ 200 := f1
 have f2 : l.ident.length ≤ 200 := f2
 have f4 : l.parent.length ≤ 200 := f4
 have f5 : l.sig.length ≤ 200 := f5
 have h0 := dR l.box; have h1 := dR l.sign; have h2 := dR l.ident; have h4 := dR l.parent; have h5 := dR l.sig
 unfold kr dD
 simp only [List.length_append, List.length_singleton]
 split
 ·omega
 ·simp only [List.length_nil]; omega
theorem kB {p : Pack} (h : p.Small) : (ke p).length ≤ 1400 := by
 have h1 := dR p.init; have h2 := wB h.2.2; have h3 := h.1
 unfold ke
 simp only [List.length_append, List.length_cons, List.length_nil]; omega
theorem xc {p : Pack} (h : p.Small) : (AR p).length ≤ 1600 := by
 have h1 := dR p.sig; have h2 := kB h; have h3 := h.2.1
 unfold AR
 rw [List.length_append]; omega
theorem wR {ok : Bool} {f : FuncId} {us : List Value} {fn : Func} {b : Code} {Ψ : World → Option Addr → Nat → Nat → Prop} (w : World) (hf : Tryz.prog.funcs[f]? = some fn) (hb : fn.body = some b) (hnm : (fn.name == "runtime.NumGoroutine") = false)
  (hp : ok = true → ∀ w1 : World, Ext w w1 → Ct f us.toArray w1 fun e w' => ∃ A k c, e = .returned (.slice A k c) ∧ Ψ w' A k c ∧ Ext w1 w') :
  Ct 83 #[.bool ok, .func (.func f) #[] us.toArray] w fun e w' => ∃ A k c, ∃ z : Nat, e = .returned (.tuple #[.slice A k c, .int .u8 (z : Int)]) ∧ (ok = true → z = 0 ∧ Ψ w' A k c) ∧ (ok = false → z = 3 ∧ A = none ∧ k = 0 ∧ c = 0) ∧ Ext w w' := by
 have E := Ext.refl w
 refine bu 10 func83 rfl rfl rfl rfl ?_
 intro _ hret
 refine aU ?_
 refine bA rfl (fun Vw => ?_) (fun Vw => ?_)
 ·refine aU ?_
  refine hret rfl rfl ?_
  exact ⟨none, 0, 0, 3, rfl, fun h => (by rw [h] at Vw; cases Vw), fun _ => ⟨rfl, rfl, rfl, rfl⟩, E⟩
 ·have hok : ok = true := by cases ok <;> simp_all
  refine aU ?_
  refine ag (kA (Φ := fun v w' => ∃ A k c, v = .slice A k c ∧ Ψ w' A k c ∧ Ext _ w') (xs := []) (vs := []) rfl hf hb hnm rfl (hp hok _ E) (fun _ _ ⟨A, k, c, h1, h2, h3⟩ => ⟨_, h1, A, k, c, rfl, h2, h3⟩)) rfl ?_
  rintro _ _ ⟨A2, k2, c2, rfl, P2, ex⟩
  replace E := E.ext ex
  refine aU ?_
  refine hret rfl rfl ?_
  exact ⟨A2, k2, c2, 0, rfl, fun _ => ⟨rfl, P2⟩, fun h => (by rw [h] at hok; cases hok), E⟩
section
variable {cs : Array Value} {l : bT} {p : Pack} {q : fA}
theorem pt (w : World) (H : dO w cs l) (hf : l.Fit) (ok : aG l) :
  Ct 164 #[.agg cs] w fun e w' => ∃ A' k c', e = .returned (.slice A' k c') ∧ Row w' w.heap.size 5 A' k c' ((kr l).map bv) ∧ Ext w w' := by
 have HL := H
 have e1 : lR l = (kr l, 0) := by unfold lR; rw [if_pos ok]
 obtain ⟨h0, h1, h2, h4, h5, rfl, hs, b0, b1, b2, b4, b5⟩ := H
 have E := Ext.refl w
 refine ai 11 func164 rfl rfl rfl rfl ?_
 intro _ hret
 refine aU ?_
 intro _ _ _ _ ex
 replace E := E.ext ex
 have Vw := E.size
 refine aU ?_
 refine aB func216 rfl (lY _ (HL.ext E) hf) ?_
 rintro e _ ⟨A2, k2, c2, rfl, R2, ex⟩
 replace E := E.ext ex
 rw [e1] at R2
 refine aU ?_
 refine hret rfl ?_
 exact ⟨A2, k2, c2, rfl, R2.lower Vw, E⟩
theorem mR (w : World) (H : dd w cs p) (hf : p.Fit) (ok : dt p) :
  Ct 88 #[.agg cs] w fun e w' => ∃ A' k c', e = .returned (.slice A' k c') ∧ Row w' w.heap.size 5 A' k c' ((ke p).map bv) ∧ Ext w w' := by
 have HL := H.leaf
 have hB := Gv hf.2.1
 have h6 := hf.1
 obtain ⟨i, h0, h1, h2, h4, h5, g, rfl, hs, a, b0, b1, b2, b4, b5, c⟩ := H
 have la := a.1
 have E := Ext.refl w
 refine ai 14 func88 rfl rfl rfl rfl ?_
 intro _ hret
 refine aU ?_
 intro _ _ B1 _ ex
 replace E := E.ext ex
 refine aU ?_
 refine aB func163 rfl (ko none 0 0 2 1 [] _ (Bs.nil _ _) Om Om Om) ?_
 rintro e _ ⟨A2, c2, rfl, R2, ex⟩
 obtain ⟨E,B1⟩ := ba ex E B1
 refine aU ?_
 refine aB func163 rfl (ko A2 _ c2 2 1 _ _ R2.bs Om Om Om) ?_
 rintro e _ ⟨A3, c3, rfl, R3, ex⟩
 obtain ⟨E,B1⟩ := ba ex E B1
 refine aU ?_
 refine aC Kr 9 rfl ?_; intro Vy ex Vz
 obtain ⟨E,B1,R3⟩ := bC ex E B1 R3
 refine zm [0, 1, 2, 4, 5] ?_
 have Vw := E.size
 refine bD 3 rfl func87 rfl (gk A3 i.A _ c3 i.n i.c _ _ _ R3.bs Om (Bs.ext a E) Om) ?_
 rintro e _ ⟨_, _, _, rfl, R4, _, ex⟩
 refine aU ?_
 replace E := E.ext ex
 have VA := ck i.n; replace R4 := R4.lower Vw
 refine bD 6 rfl func164 rfl (pt _ (HL.ext E) hf.2.1 ok.2.1.1) ?_
 rintro e _ ⟨_, _, _, rfl, R5, ex⟩
 refine aU ?_
 obtain ⟨E,R4⟩ := ba ex E R4
 have VB := R5.bs.1
 have Vx := E.size
 refine bk 7 Kr ?_; refine bH rfl (bd rfl rfl cB R4 R5.at R5.len aM Om Om Vx) rfl ?_
 rintro _ _ ⟨A6, c6, rfl, R6, be, _, _⟩
 refine ⟨.inl rfl, ?_⟩
 replace E := E.trans be; have R7 := R6.cat
 refine zm [8] ?_
 refine hret rfl ?_
 exact ⟨A6, _, c6, rfl, R7.congr rfl (by unfold ke; rw [List.nil_append]; rfl), E⟩
theorem rH (w : World) (H : dd w cs p) (Vw : p.Small) :
  Ct 81 #[.agg cs] w fun e w' => ∃ A' k c', e = .returned (.slice A' k c') ∧ Row w' w.heap.size 5 A' k c' ((ke p).map bv) ∧ Ext w w' := by
 have HL := H.leaf
 have hf := Vw.fit
 have hB := wB Vw.2.2
 have h6 := Vw.1
 obtain ⟨i, h0, h1, h2, h4, h5, g, rfl, hs, a, b0, b1, b2, b4, b5, c⟩ := H
 have la := a.1
 have E := Ext.refl w
 refine ai 13 func81 rfl rfl rfl rfl ?_
 intro _ hret
 refine aU ?_
 intro _ _ B1 _ ex
 replace E := E.ext ex
 refine aU ?_
 refine aC Kr 11 rfl ?_; intro Vy ex Vz
 obtain ⟨E,B1⟩ := ba ex E B1
 refine zm [3, 4, 6, 7] ?_
 refine bD 0 rfl func158 rfl (lL 1 _ Om) ?_
 rintro e _ ⟨A2, c2, rfl, R2, ex⟩
 replace E := E.ext ex
 refine aU ?_
 refine bD 1 rfl func158 rfl (lL 1 _ Om) ?_
 rintro e _ ⟨A3, c3, rfl, R3, ex⟩
 obtain ⟨E,R2⟩ := ba ex E R2
 refine aU ?_
 refine bD 2 rfl func80 rfl (fP A2 A3 _ c2 _ c3 _ _ _ R2.bs Om R3.bs Om) ?_
 rintro e _ ⟨A4, c4, rfl, R4, ex⟩
 replace E := E.ext ex
 refine aU ?_
 refine bD 5 rfl func82 rfl (je i.A i.n i.c _ _ (Bs.ext a E) Om) ?_
 rintro e _ ⟨A5, k5, c5, rfl, R5, _, ex⟩
 refine aU ?_
 obtain ⟨E,R4⟩ := ba ex E R4
 have VA := ck i.n
 refine bD 8 rfl func159 rfl (qe _ (HL.ext E) hf.2.1) ?_
 rintro e _ ⟨A6, k6, c6, rfl, R6, ex⟩
 refine aU ?_
 obtain ⟨E,R4,R5⟩ := bC ex E R4 R5
 have VB := R6.bs.1
 have Vx := E.size
 refine bD 9 rfl func122 rfl (ku A4 A5 A6 _ c4 k5 c5 k6 c6 _ _ _ _ R4.bs Om R5.bs Om R6.bs Om) ?_
 rintro e _ ⟨A7, c7, rfl, R7, ex⟩
 replace E := E.ext ex
 refine zm [10] ?_
 refine hret rfl ?_
 exact ⟨A7, _, c7, rfl, (R7.lower Vx).congr rfl (by unfold ke; rfl), E⟩
end
end
section
open Go.RowKit Tryz
attribute [local irreducible] Y Ef WL WC WK WQ WM cE WN WF dc
open Nd Wire
def Told (w : World) (ok : Prop) (xs : Lb) (A : Oa) (k : Nat) (z : Nat) : Prop := (ok → z = 0 ∧ Bs w A k xs) ∧ (¬ ok → z = 3 ∧ k = 0)
def wH : ByteArray := ⟨#[77, 76, 83, 32, 49, 46, 48, 32, 75, 101, 121, 80, 97, 99, 107, 97, 103, 101, 32, 82, 101, 102, 101, 114, 101, 110, 99, 101]⟩
theorem me : wH.size ≤ 1048576 := by decide
def ij (p : Pack) : List UInt8 := Sha.sum (vec wH.data.toList ++ vec (AR p))
section
variable {cs : Array Value} {l : bT} {p : Pack} {q : fA} {g : Nat} {t : TypeId}
theorem Cl (w : World) (B : ao w g t cs) (H : dd w cs p) (hf : p.Fit) (ok : dt p) :
  Ct 142 #[.pointer (some ⟨g, 0, none⟩)] w fun e w' => ∃ A k c, e = .returned (.slice A k c) ∧ (Bs w' A k (ke p) ∧ k ≤ c) ∧ Ext w w' := by
 have HP := H
 obtain ⟨i, h0, h1, h2, h4, h5, gg, rfl, hs, a, b0, b1, b2, b4, b5, c⟩ := H
 have E := Ext.refl w
 refine ai 4 func142 rfl rfl rfl rfl ?_
 intro _ hret
 refine aU ?_
 refine aB func88 rfl (mR _ (HP.ext E) hf ok) ?_
 rintro e _ ⟨A2, k2, c2, rfl, R2, ex⟩
 replace E := E.ext ex
 refine aU ?_
 refine hret rfl ?_
 exact ⟨A2, k2, c2, rfl, ⟨R2.bs, R2.cap⟩, E⟩
theorem Bu (w : World) (B : ao w g t cs) (H : dd w cs p) (Vw : p.Small) (ok : dt p) :
  Ct 85 #[.pointer (some ⟨g, 0, none⟩)] w fun e w' => ∃ A k c, e = .returned (.slice A k c) ∧ Bs w' A k (ij p) ∧ Ext w w' := by
 have HP := H
 have hf := Vw.fit
 have hl := kB Vw
 have h7 := Vw.2.1
 obtain ⟨i, h0, h1, h2, h4, h5, gg, rfl, hs, a, b0, b1, b2, b4, b5, c⟩ := H
 have lc := c.1
 have E := Ext.refl w
 refine ai 8 func85 rfl rfl rfl rfl ?_
 intro _ hret
 refine aU ?_
 refine aC Kr 7 rfl ?_; intro Vx ex Vy
 obtain ⟨E,B⟩ := ba ex E B
 refine zm [0, 2, 3] ?_
 refine bD 1 rfl func88 rfl (mR _ (HP.ext E) hf ok) ?_
 rintro e _ ⟨A2, k2, c2, rfl, R2, ex⟩
 refine aU ?_
 replace E := E.ext ex
 have Vz := R2.bs.1
 refine bD 4 rfl func87 rfl (gk A2 gg.A k2 c2 gg.n gg.c _ _ _ R2.bs Om (Bs.ext c E) Om) ?_
 rintro e _ ⟨A3, k3, c3, rfl, R3, _, ex⟩
 refine aU ?_
 replace E := E.ext ex
 have VA := ck gg.n
 refine bD 5 rfl func86 rfl (IX A3 k3 c3 wH _ _ R3.bs me Om) ?_
 rintro e _ ⟨A4, c4, rfl, H4, ex⟩
 replace E := E.ext ex
 refine zm [6] ?_
 refine hret rfl ?_
 exact ⟨A4, 32, c4, rfl, H4, E⟩
theorem jY (w : World) (H : dd w cs p) (hf : p.Fit) :
  Ct 69 #[.agg cs] w fun e w' => ∃ A k c z, e = .returned (.tuple #[.slice A k c, .int .u8 ((z : Nat) : Int)]) ∧ Told w' (dt p) (ke p) A k z ∧ k ≤ c ∧ Ext w w' := by
 have HP := H
 obtain ⟨i, h0, h1, h2, h4, h5, gg, rfl, hs, a, b0, b1, b2, b4, b5, c⟩ := H
 have E := Ext.refl w
 refine bu 10 func69 rfl rfl rfl rfl ?_
 intro _ hret
 refine aU ?_
 intro _ Vw B1 _ ex
 replace E := E.ext ex
 refine aU ?_
 refine aB func84 rfl (l9 _ (HP.ext E) hf) ?_
 rintro e _ ⟨rfl, ex⟩
 obtain ⟨E,B1⟩ := ba ex E B1
 refine au 1 ?_
 refine ak (jJ (xs := [.tmp 1]) (vs := [.pointer (some ⟨Vw, 0, none⟩)]) rfl) ?_
 refine aB func83 rfl (wR (us := [.pointer (some ⟨Vw, 0, none⟩)]) (Ψ := fun w A k c => Bs w A k (ke p) ∧ k ≤ c) _ func142 rfl rfl (fun hok w1 e1 => Cl w1 (B1.ext e1) ((HP.ext E).ext e1) hf (of_decide_eq_true hok))) ?_
 rintro e _ ⟨A3, k3, c3, z3, rfl, T3, N3, ex⟩
 replace E := E.ext ex
 refine aU ?_
 refine hret rfl rfl ?_
 exact ⟨A3, k3, c3, z3, rfl, ⟨fun o => ⟨(T3 (decide_eq_true o)).1, (T3 (decide_eq_true o)).2.1⟩, fun o => ⟨(N3 (decide_eq_false o)).1, (N3 (decide_eq_false o)).2.2.1⟩⟩, (by by_cases o : dt p; exact (T3 (decide_eq_true o)).2.2; have h := N3 (decide_eq_false o); omega), E⟩
theorem pa (w : World) (H : dd w cs p) (Vw : p.Small) :
  Ct 36 #[.agg cs] w fun e w' => ∃ A k c z, e = .returned (.tuple #[.slice A k c, .int .u8 ((z : Nat) : Int)]) ∧ Told w' (dt p) (ij p) A k z ∧ Ext w w' := by
 have HP := H
 have hf := Vw.fit
 obtain ⟨i, h0, h1, h2, h4, h5, gg, rfl, hs, a, b0, b1, b2, b4, b5, c⟩ := H
 have E := Ext.refl w
 refine bu 10 func36 rfl rfl rfl rfl ?_
 intro _ hret
 refine aU ?_
 intro _ Vx B1 _ ex
 replace E := E.ext ex
 refine aU ?_
 refine aB func84 rfl (l9 _ (HP.ext E) hf) ?_
 rintro e _ ⟨rfl, ex⟩
 obtain ⟨E,B1⟩ := ba ex E B1
 refine au 1 ?_
 refine ak (jJ (xs := [.tmp 1]) (vs := [.pointer (some ⟨Vx, 0, none⟩)]) rfl) ?_
 refine aB func83 rfl (wR (us := [.pointer (some ⟨Vx, 0, none⟩)]) (Ψ := fun w A k c => Bs w A k (ij p)) _ func85 rfl rfl (fun hok w1 e1 => Bu w1 (B1.ext e1) ((HP.ext E).ext e1) Vw (of_decide_eq_true hok))) ?_
 rintro e _ ⟨A3, k3, c3, z3, rfl, T3, N3, ex⟩
 replace E := E.ext ex
 refine aU ?_
 refine hret rfl rfl ?_
 exact ⟨A3, k3, c3, z3, rfl, ⟨fun o => T3 (decide_eq_true o), fun o => ⟨(N3 (decide_eq_false o)).1, (N3 (decide_eq_false o)).2.2.1⟩⟩, E⟩
theorem kK (w : World) (H : dd w cs p) (Vw : p.Small) :
  Ct 35 #[.agg cs] w fun e w' => ∃ A' k c', e = .returned (.slice A' k c') ∧ Row w' w.heap.size 5 A' k c' ((AR p).map bv) ∧ Ext w w' := by
 have HP := H
 have hl := kB Vw
 have h7 := Vw.2.1
 obtain ⟨i, h0, h1, h2, h4, h5, gg, rfl, hs, a, b0, b1, b2, b4, b5, c⟩ := H
 have lc := c.1
 have E := Ext.refl w
 refine ai 9 func35 rfl rfl rfl rfl ?_
 intro _ hret
 refine aU ?_
 intro _ _ B1 _ ex
 replace E := E.ext ex
 refine aU ?_
 refine aC Kr 7 rfl ?_; intro Vy ex Vz
 obtain ⟨E,B1⟩ := ba ex E B1
 refine zm [0, 2, 3] ?_
 refine bD 1 rfl func81 rfl (rH _ (HP.ext E) Vw) ?_
 rintro e _ ⟨A2, k2, c2, rfl, R2, ex⟩
 refine aU ?_
 replace E := E.ext ex
 have VA := R2.bs.1
 refine bD 4 rfl func82 rfl (je gg.A gg.n gg.c _ _ (Bs.ext c E) Om) ?_
 rintro e _ ⟨A3, k3, c3, rfl, R3, _, ex⟩
 refine aU ?_
 obtain ⟨E,R2⟩ := ba ex E R2
 have VB := ck gg.n
 have Vx := E.size
 refine bD 5 rfl func80 rfl (fP A2 A3 k2 c2 k3 c3 _ _ _ R2.bs Om R3.bs Om) ?_
 rintro e _ ⟨A4, c4, rfl, R4, ex⟩
 replace E := E.ext ex
 refine zm [6] ?_
 refine hret rfl ?_
 exact ⟨A4, _, c4, rfl, R4.lower Vx, E⟩
theorem rI (w : World) (H : dd w cs p) (Vw : p.Small) :
  Ct 11 #[.agg cs] w fun e w' => ∃ A' c', e = .returned (.slice A' 32 c') ∧ Bs w' A' 32 (ij p) ∧ Ext w w' := by
 have HP := H
 have hl := xc Vw
 obtain ⟨i, h0, h1, h2, h4, h5, gg, rfl, hs, a, b0, b1, b2, b4, b5, c⟩ := H
 have E := Ext.refl w
 refine ai 6 func11 rfl rfl rfl rfl ?_
 intro _ hret
 refine aU ?_
 intro _ _ _ _ ex
 replace E := E.ext ex
 refine aU ?_
 refine aB func35 rfl (kK _ (HP.ext E) Vw) ?_
 rintro e _ ⟨A2, k2, c2, rfl, R2, ex⟩
 refine aU ?_
 replace E := E.ext ex
 have Vx := R2.bs.1
 refine aB func34 rfl (yE A2 k2 c2 wH _ _ R2.bs me Om) ?_
 rintro e _ ⟨A3, c3, rfl, H3, ex⟩
 replace E := E.ext ex
 refine aU ?_
 refine hret rfl ?_
 exact ⟨A3, c3, rfl, H3, E⟩
end
end
section
open Go.RowKit
def xV {α : Type} (R : World → Array Value → α → Prop) (sz : Nat) (w : World) (A : Oa) (n : Nat) (xs : List α) : Prop :=
 xs.length = n ∧ ∃ vs : List Value, vs.length = n * sz ∧ At w A vs ∧ ∀ i x, xs[i]? = some x → R w ((vs.drop (i * sz)).take sz).toArray x
section
variable {α : Type} {R : World → Array Value → α → Prop} {sz : Nat} {w w' : World} {A : Oa} {n : Nat} {xs : List α}
theorem xV.ext (h : xV R sz w A n xs) (e : Ext w w') (hR : ∀ cs x, R w cs x → R w' cs x) : xV R sz w' A n xs := by
 obtain ⟨h1, vs, h2, h3, h4⟩ := h
 exact ⟨h1, vs, h2, h3.ext e, fun i x hx => hR _ _ (h4 i x hx)⟩
theorem xV.nil (R : World → Array Value → α → Prop) (sz : Nat) (w : World) (A : Oa) : xV R sz w A 0 [] := ⟨rfl, [], by simp, .inl rfl, fun i x hx => by simp at hx⟩
theorem xV.get (h : xV R sz w A n xs) (hz : 0 < sz) {i : Nat} (hi : i < n) :
  ∃ b off cs x, A = some ⟨b, off, none⟩ ∧ b < w.heap.size ∧ xs[i]? = some x ∧ cs.size = sz ∧ R w cs x ∧ ∀ j v, cs[j]? = some v → w.cell? ⟨b, off + (i * sz + j), none⟩ = some v := by
 obtain ⟨h1, vs, h2, h3, h4⟩ := h
 obtain ⟨x, hx⟩ : ∃ x, xs[i]? = some x := ⟨xs[i]'Om, List.getElem?_eq_getElem _⟩
 have hmul : (i + 1) * sz ≤ n * sz := Nat.mul_le_mul_right sz Om
 rw [Nat.add_mul, Nat.one_mul] at hmul
 rcases h3 with h0 | ⟨b, off, hA, hc⟩
 ·rw [h0] at h2; simp at h2; omega
 ·have hcell : ∀ j v, ((vs.drop (i * sz)).take sz).toArray[j]? = some v → w.cell? ⟨b, off + (i * sz + j), none⟩ = some v := fun j v hv => by
   have hj : j < sz := by
    rcases Nat.lt_or_ge j sz with h | h
    ·exact h
    ·rw [Array.getElem?_eq_none So] at hv; cases hv
   rw [List.getElem?_toArray, List.getElem?_take_of_lt hj, List.getElem?_drop] at hv
   exact hc _ _ hv
  have hs : ((vs.drop (i * sz)).take sz).toArray.size = sz := by simp; omega
  obtain ⟨v, hv⟩ : ∃ v, ((vs.drop (i * sz)).take sz).toArray[0]? = some v := ⟨_, Array.getElem?_eq_getElem (by rw [hs]; exact hz)⟩
  exact ⟨b, off, _, x, hA, eL (hcell 0 v hv), hx, hs, h4 i x hx, hcell⟩
theorem xV.JK (h : xV R sz w A n xs) (hz : 0 < sz) {i : Nat} (hi : i < n) :
  ∃ b off cs x, A = some ⟨b, off, none⟩ ∧ b < w.heap.size ∧ xs[i]? = some x ∧ cs.size = sz ∧ R w cs x ∧ ∀ j v, cs[j]? = some v → w.cell? ⟨b, off + i * sz + j, none⟩ = some v := by
 obtain ⟨b, off, cs, x, h1, h2, h3, h4, h5, h6⟩ := h.get hz hi
 exact ⟨b, off, cs, x, h1, h2, h3, h4, h5, fun j v hv => by rw [Nat.add_assoc]; exact h6 j v hv⟩
end
section
variable {P : Program} {L : List (Nat × Value)} {w : World} {ty t e : TypeId} {x y : Operand}
theorem mg {A : Oa} {b off n m j s : Nat} {k : IntKind} {a : Int} (e1 : A = some ⟨b, off, none⟩) (hx : ev L x = some (.slice A n m)) (hy : ev L y = some (.int k a)) (hu : P.underlying t = some (.slice e)) (hs : (P.info? e).map (·.size) = some s) (ha : a = (j : Int)) (hj : j < n) :
  Y P L w (.indexAddr t x y) ty (.pointer (some ⟨b, off + j * s, none⟩)) := by
 subst e1
 exact xO hx hy hu hs ha hj
end
theorem C7 {α : Type} {xs : List α} {i : Nat} {x : α} (h : xs[i]? = some x) : xs.take (i + 1) = xs.take i ++ [x] := by
 obtain ⟨hlt, he⟩ := List.getElem?_eq_some_iff.1 h
 rw [List.take_succ_eq_append_getElem hlt, he]
theorem DI {α : Type} {p : α → Prop} {xs : List α} {i : Nat} {x : α} (h : xs[i]? = some x) (ha : ∀ y ∈ xs.take i, p y) (hx : p x) : ∀ y ∈ xs.take (i + 1), p y := by
 rw [C7 h]
 intro y hy
 rcases List.mem_append.1 hy with h | h
 ·exact ha y h
 ·simp only [List.mem_singleton] at h; subst h; exact hx
theorem wC {α : Type} {p : α → Prop} {xs : List α} {i : Nat} (hi : xs.length ≤ i) (ha : ∀ y ∈ xs.take i, p y) : ∀ y ∈ xs, p y := by
 rwa [List.take_of_length_le hi] at ha
theorem yL {α : Type} {xs : List α} {i : Nat} {x : α} (h : xs[i]? = some x) : x ∈ xs := List.mem_of_getElem? h
end
section
open Go.RowKit
open Nd
structure Lo where
 enc : List UInt8
 box : List UInt8
structure Mm where
 box : List UInt8
 to : List Lo
structure NZ where
 leaf : bT
 steps : List Mm
structure mI where
 ref : List UInt8
 prop : fA
structure ru where
 items : List mI
 has : Bool
 way : NZ
def jZ (h0 h1 : Hd) : Array Value := #[.slice h0.A h0.n h0.c, .slice h1.A h1.n h1.c]
def Ol (w : World) (cs : Array Value) (x : Lo) : Prop := ∃ h0 h1, cs = jZ h0 h1 ∧ kP w h0 x.enc ∧ kP w h1 x.box
section
variable {w w' : World} {cs : Array Value}
end
/-! Which may be, and which are no more than is looked at. -/
def Lo.Small (b : Lo) : Prop := b.enc.length ≤ 100 ∧ b.box.length ≤ 100
instance (b : Lo) : Decidable b.Small := by unfold Lo.Small; infer_instance
def Mm.Small (s : Mm) : Prop := s.box.length ≤ 100 ∧ s.to.length ≤ 20 ∧ ∀ b ∈ s.to, b.Small
instance (s : Mm) : Decidable s.Small := by unfold Mm.Small; infer_instance
def mI.Small (x : mI) : Prop := x.ref.length ≤ 100 ∧ x.prop.Small
instance (x : mI) : Decidable x.Small := by unfold mI.Small; infer_instance
def ru.Small (c : ru) : Prop := c.items.length ≤ 70 ∧ c.way.steps.length ≤ 20 ∧ (⟨0, c.way.leaf, AW.zero⟩ : Node).Small ∧ (∀ x ∈ c.items, x.Small) ∧ ∀ s ∈ c.way.steps, s.Small
instance (c : ru) : Decidable c.Small := by unfold ru.Small; infer_instance
end
section
open Go.RowKit
section
variable {P : Program} {ops : Array Oper} {Q : Exit → Act → World → Prop} {N : Nd} {L : List (Nat × Value)} {w : World} {G : List Nat}
section
variable {f : FuncId} {xs : List Operand} {ats : Array TypeId} {vs : List Value} {R : Ending → World → Prop} {fn : Func} {c : Code} {ty : TypeId} {dst : Option Tmp} {pos : String} {after : Array Edge}
end
end
theorem Ext.EU {w w' : World} {a : Addr} {v : Value} (e : Ext w w') (h : w.cell? a = some v) : w'.cell? a = some v := (e.cell (eL h)).trans h
end
section
open Go.RowKit
attribute [local irreducible] Y Ef WL WC WK WQ WM cE WN WF dc
open Nd Wire
structure rR where
 group : List UInt8
 epoch : Nat
 frm : Int
 kind : Nat
 prop : fA
 com : ru
 sig : List UInt8
 tag : List UInt8
 member : List UInt8
def rR.Small (m : rR) : Prop := m.group.length ≤ 200 ∧ m.prop.Small ∧ m.com.Small ∧ m.sig.length ≤ 100 ∧ m.tag.length ≤ 100 ∧ m.member.length ≤ 100
instance (m : rR) : Decidable m.Small := by unfold rR.Small; infer_instance
/-! Its bytes. -/
section
variable {cs ds : Array Value} {m : rR} {c : Ctx} {g g' : Nat} {t t' : TypeId}
end
end
section
open Go.ChangeShapes Go.WideShapes Go.ChangeAt Go.RowKit
section
variable {H : Type} {enc : TypeId × Value → H} {W : World} {base : Nat} {spare : Nat → Bool} {held : Bool}
theorem glue {α : Type} (cs : List α) (o k : Nat) : cs.drop o = (cs.drop o).take k ++ cs.drop (o + k) := by rw [← List.drop_drop, List.take_append_drop]
theorem uE (x : Addr) (i j : Nat) : (x.add i).add j = x.add (i + j) := by
 unfold Addr.add
 by_cases hi : i = 0
 ·subst hi; simp
 ·by_cases hj : j = 0
  ·subst hj; simp [hi]
  ·simp [hi, hj, Nat.add_assoc]
theorem Ge {α : Type} {R : World → Array Value → α → Prop} {sz : Nat} {t e : TypeId} (hu : Tryz.prog.underlying t = some (.slice e)) (hc : Tryz.prog.cellsOf e = sz)
    (each : ∀ (fuel : Nat) (cs : List Value) (x : DataW H × List MemPlace), DataW.trod enc Tryz.prog W base spare held fuel e cs = some x → ∃ v : α, R W cs.toArray v)
    {fuel : Nat} {cs : List Value} {x : DataW H × List MemPlace} (h : DataW.trod enc Tryz.prog W base spare held fuel t cs = some x) : ∃ a n c xs, cs = [.slice a n c] ∧ xV R sz W a n xs ∧ n ≤ maxLen := by
  rcases DataW.trod_slice hu h with ⟨hcs, _⟩ | ⟨x, l, c, elems, rest, n, _, hcs, _, _, hl, hm, hlen, hel, _, _⟩
  · exact ⟨none, 0, 0, [], hcs, xV.nil _ _ _ _, by unfold maxLen; omega⟩
  · have ev : ∀ i, i < l → ∃ q : List Value × α, q.1.length = sz ∧ (∀ j, j < sz → W.cell? (x.add (i * sz + j)) = q.1[j]?) ∧ R W q.1.toArray q.2 := fun i hi => by
      have hE := hel i hi
      rw [hc, List.getElem?_eq_getElem Om] at hE
      simp only [Option.bind_eq_some_iff] at hE
      obtain ⟨c1, Vw, hy⟩ := hE
      obtain ⟨_, q1, q2⟩ := World.cells?_some Vw
      obtain ⟨v, hv⟩ := each _ _ _ hy
      exact ⟨(c1, v), q1, fun j hj => by rw [← q2 j hj, uE], hv⟩
    obtain ⟨qs, hql, hq⟩ := oF l ev
    have hflat : ∀ (ls : List (List Value × α)), (∀ q ∈ ls, q.1.length = sz) → (ls.flatMap (·.1)).length = ls.length * sz ∧ ∀ i j, j < sz → ∀ h : i < ls.length, (ls.flatMap (·.1))[i * sz + j]? = (ls[i]).1[j]? := by
      intro ls
      induction ls with
      | nil => intro _; exact ⟨by simp, fun i j _ h => by simp at h⟩
      | cons q ls ih =>
        intro hall
        obtain ⟨h1, h2⟩ := ih fun q hq => hall q (List.mem_cons_of_mem _ hq)
        have Vx := hall q List.mem_cons_self
        refine ⟨by rw [List.flatMap_cons, List.length_append, h1, Vx, List.length_cons, Nat.add_mul]; omega, fun i j hj hi => ?_⟩
        rw [List.flatMap_cons]
        cases i with
        | zero => rw [Nat.zero_mul, Nat.zero_add, List.getElem?_append_left Om]; rfl
        | succ i =>
          rw [Nat.add_mul, Nat.one_mul, List.getElem?_append_right Om, show i * sz + sz + j - q.1.length = i * sz + j by omega, h2 i j hj (by simpa using hi)]
          rfl
    have hall : ∀ q ∈ qs, q.1.length = sz := fun q Vy => by
      obtain ⟨i, hi, rfl⟩ := List.getElem_of_mem Vy
      exact (hq i hi).1
    obtain ⟨f1, f2⟩ := hflat qs hall
    refine ⟨some x, l, c, qs.map (·.2), hcs, ⟨by simpa using hql, qs.flatMap (·.1), by rw [f1, hql], At.qV fun j u hu => ?_, fun i v hv => ?_⟩, by unfold maxLen at hm ⊢; omega⟩
    · have hjl : j < l * sz := by
        have := (List.getElem?_eq_some_iff.1 hu).1
        rw [f1, hql] at this; exact this
      have hsz : 0 < sz := Nat.pos_of_ne_zero fun e => by subst e; simp at hjl
      have hd : j / sz < l := Nat.div_lt_of_lt_mul (by rwa [Nat.mul_comm])
      have hmd := Nat.mod_lt j hsz
      have hj : j / sz * sz + j % sz = j := by rw [Nat.mul_comm]; exact Nat.div_add_mod j sz
      have hlt : j / sz < qs.length := by omega
      have h3 := f2 (j / sz) (j % sz) hmd hlt
      have h4 := (hq (j / sz) hlt).2.1 (j % sz) hmd
      rw [hj] at h3 h4
      rw [h4, ← h3]; exact hu
    · rw [List.getElem?_map] at hv
      cases hi : qs[i]? with
      | none => simp [hi] at hv
      | some q =>
        simp only [hi, Option.map_some, Option.some.injEq] at hv
        subst hv
        obtain ⟨hlt, e⟩ := List.getElem?_eq_some_iff.1 hi
        have hqi := hq i hlt
        rw [e] at hqi
        have : ((qs.flatMap (·.1)).drop (i * sz)).take sz = q.1 := by
          apply List.ext_getElem?
          intro j
          by_cases hj : j < sz
          · rw [List.getElem?_take_of_lt hj, List.getElem?_drop, f2 i j hj hlt, e]
          · rw [List.getElem?_eq_none (by rw [List.length_take]; omega), List.getElem?_eq_none (by rw [hqi.1]; omega)]
        rw [this]
        exact hqi.2.2
theorem qR {cs : List Value} {o k : Nat} {v : Value} (hk : k = 1) (h : (cs.drop o).take k = [v]) : cs.drop o = v :: cs.drop (o + 1) := by
 subst hk
 rw [glue cs o 1, h]; rfl
theorem Kc {cs : List Value} {o k m : Nat} {V : Array Value} (hk : k = m) (h : ((cs.drop o).take k).toArray = V) : cs.drop o = V.toList ++ cs.drop (o + m) := by
 subst hk
 rw [glue cs o k, ← h]
theorem yX {cs : List Value} {n : Nat} (h : cs.length = n) : cs.drop n = [] := List.drop_eq_nil_of_le Om
theorem yz {fuel : Nat} {cs : List Value} {x : DataW H × List MemPlace} (h : DataW.trod enc Tryz.prog W base spare held fuel 35 cs = some x) : ∃ p, Ol W cs.toArray p := by
 obtain ⟨Vw, hl, hfs⟩ := trod_struct Tryz.underlying35 h
 have hc : Tryz.prog.cellsOf 35 = 2 := by kernel_rfl
 rw [hc] at hl
 have c0 : Tryz.prog.cellsOf 23 = 1 := by kernel_rfl
 obtain ⟨_, t0⟩ := hfs 0 _ rfl
 obtain ⟨_, t1⟩ := hfs 1 _ rfl
 obtain ⟨A0, n0, k0, r0, e0, b0, _⟩ := ic t0
 obtain ⟨A1, n1, k1, r1, e1, b1, _⟩ := ic t1
 have e : cs.drop 0 = _ := qR (o := 0) c0 e0
 rw [qR (o := 1) c0 e1, yX hl] at e
 refine ⟨⟨r0, r1⟩, ⟨A0, n0, k0⟩, ⟨A1, n1, k1⟩, ?_, b0, b1⟩
 rw [show cs = _ from e]
 rfl
end
end
end Go.Proofs.YtgfafidlkldeaaaGreat
