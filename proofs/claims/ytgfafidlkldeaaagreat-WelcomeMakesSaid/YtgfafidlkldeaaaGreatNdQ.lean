/- A leaf with a signature: what node.SignLeaf hands back. -/
import Derived.Test.YtgfafidlkldeaaaGreatNdK
import Derived.Test.YtgfafidlkldeaaaGreatAu
import Derived.Test.YtgfafidlkldeaaaGreatNdP
set_option linter.unusedVariables false
set_option linter.unusedSimpArgs false
set_option maxHeartbeats 4000000
set_option maxRecDepth 4000
namespace Go.Proofs.YtgfafidlkldeaaaGreat
section
open Go.RowKit Tryz
attribute [local irreducible] Y Ef WL WC WK WQ WM cx WN WF cT WJ gZ
theorem ve (A : Oa) (n c : Nat) (xs : Lb) (w : World) (HA : Bs w A n xs) (hn : n ≤ 35184372088832) :
  Ct 100 #[.slice A n c] w fun e w' => ∃ A' c', e = .returned (.slice A' n c') ∧ Row w' w.heap.size 5 A' n c' (xs.map bv) ∧ Ext w w' := by
 refine aj 8 func100 rfl rfl rfl rfl ?_
 intro _ hret
 refine au 9 ?_
 refine ak (zD rfl rfl Tn.u) ?_
 refine aU ?_
 refine bW rfl (fun Vl => ?_) (fun Vl => ?_)
 ·refine aU ?_
  refine hret rfl ?_
  obtain rfl : A = none := by cases A <;> first | rfl | cases Vl
  have Vm : n = 0 := by
   rcases Nat.eq_zero_or_pos n with h | h
   ·exact h
   ·obtain ⟨b, off, hA, _⟩ := HA.get h
    cases hA
  subst Vm
  have hx : xs = [] := List.eq_nil_of_length_eq_zero HA.1
  subst hx
  exact ⟨none, 0, rfl, Row.empty _ _ _, Ext.refl _⟩
 ·refine aU ?_
  refine af (aB (z := .int .u8 0) Tn.u Kr rfl rfl rfl rfl rfl) rfl ?_
  rintro _ w1 ⟨g1, rfl, B1, Vn, ex⟩
  have E1 := ex; have R1 : Row w1 w.heap.size 5 (some ⟨g1, 0, none⟩) 0 0 [] := Row.new B1 Vn rfl (by unfold maxLen; omega)
  refine aU ?_
  refine af (iY rfl rfl bF R1 (HA.ext E1).2 (by rw [List.length_map, HA.1]) aH Om Om E1.size) rfl ?_
  rintro _ _ ⟨A2, c2, rfl, R2, be, _, _⟩
  have E2 := E1.trans be
  refine aU ?_
  refine hret rfl ?_
  exact ⟨A2, c2, rfl, R2, E2⟩
def kb (base : Nat) (w : World) (cs : Array Value) (l : bO) : Prop := ik (fun h xs => Row w base 5 h.A h.n h.c (xs.map bv)) cs l
section
variable {w w' : World} {cs : Array Value} {l : bO} {n : Node} {base b : Nat}
theorem kb.lower (h : kb base w cs l) (hb : b ≤ base) : kb b w cs l := ik.imp h fun _ _ r => Row.lower r hb
theorem kb.bT {S : List Nat} (h : kb base w cs l) (c : aX S w w') (hS : ∀ g ∈ S, g < base := by first | (simp; done) | (simp; omega)) : kb base w' cs l := ik.imp h fun _ _ r => Row.bT r c hS
end
/-! A leaf's five slices, taken one behind the other through pointers. -/
def Hd.v (h : Hd) : Value := .slice h.A h.n h.c
def mB (i : Nat) : Nat := if i < 3 then i else i + 1
def JS (g : Nat) : Array Value := #[.pointer (some ⟨g, 0, none⟩), .pointer (some ⟨g, 1, none⟩), .pointer (some ⟨g, 2, none⟩), .pointer (some ⟨g, 4, none⟩), .pointer (some ⟨g, 5, none⟩)]
theorem FK {g : Nat} : ∀ i, i < 5 → (JS g)[i]? = some (.pointer (some ⟨g, mB i, none⟩))
 | 0, _ => rfl
 | 1, _ => rfl
 | 2, _ => rfl
 | 3, _ => rfl
 | 4, _ => rfl
 | i + 5, h => absurd h Om
theorem xO {i : Nat} (h : i < 5) : mB i < 6 := by unfold mB; split <;> omega
theorem AA {i : Nat} : mB i ≠ 3 := by unfold mB; split <;> omega
theorem BD {i j : Nat} (h : mB i = mB j) : i = j := by unfold mB at h; split at h <;> split at h <;> omega
def vo (w : World) (base : Nat) (C : Array Value) (s : Nat) (hd : Nat → Hd) (xs : Nat → List UInt8) (k : Nat) : Prop :=
 C.size = 6 ∧ C[3]? = some (.int .u8 (s : Int)) ∧ ∀ i, i < 5 → ∃ h : Hd, C[mB i]? = some h.v ∧ (i < k → Row w base 5 h.A h.n h.c ((xs i).map bv)) ∧ (k ≤ i → h = hd i)
section
variable {w w' : World} {base s k : Nat} {C : Array Value} {hd : Nat → Hd} {xs : Nat → List UInt8}
theorem vo.ext (h : vo w base C s hd xs k) (e : Ext w w') : vo w' base C s hd xs k :=
 ⟨h.1, h.2.1, fun i hi => by obtain ⟨q, h1, h2, h3⟩ := h.2.2 i hi; exact ⟨q, h1, fun hk => Row.ext (h2 hk) e, h3⟩⟩
theorem vo.bT {S : List Nat} (h : vo w base C s hd xs k) (c : aX S w w') (hS : ∀ g ∈ S, g < base) : vo w' base C s hd xs k :=
 ⟨h.1, h.2.1, fun i hi => by obtain ⟨q, h1, h2, h3⟩ := h.2.2 i hi; exact ⟨q, h1, fun hk => Row.bT (h2 hk) c hS, h3⟩⟩
theorem vo.step {A : Oa} {n c : Nat} (h : vo w base C s hd xs k) (hk : k < 5) (R : Row w base 5 A n c ((xs k).map bv)) : vo w base (C.setIfInBounds (mB k) (.slice A n c)) s hd xs (k + 1) := by
 obtain ⟨h1, h2, h3⟩ := h
 refine ⟨by simp [h1], ?_, fun i hi => ?_⟩
 ·rw [Array.getElem?_setIfInBounds, if_neg AA]; exact h2
 ·by_cases e : i = k
  ·subst e
   refine ⟨⟨A, n, c⟩, ?_, fun _ => R, fun h => by omega⟩
   rw [Array.getElem?_setIfInBounds, if_pos rfl, if_pos (by rw [h1]; exact xO hi)]; rfl
  ·obtain ⟨q, q1, q2, q3⟩ := h3 i hi
   refine ⟨q, ?_, fun h => q2 Om, fun h => q3 Om⟩
   rw [Array.getElem?_setIfInBounds, if_neg (fun h => e (BD h).symm)]; exact q1
end
def bO.xs (l : bO) : Nat → List UInt8
 | 0 => l.box
 | 1 => l.sign
 | 2 => l.ident
 | 3 => l.parent
 | _ => l.sig
def Kv (h0 h1 h2 h4 h5 : Hd) : Nat → Hd
 | 0 => h0
 | 1 => h1
 | 2 => h2
 | 3 => h4
 | _ => h5
theorem vo.start {w : World} {base : Nat} {l : bO} {h0 h1 h2 h4 h5 : Hd} : vo w base (fL h0 h1 h2 l.src h4 h5) l.src (Kv h0 h1 h2 h4 h5) l.xs 0 :=
 ⟨rfl, rfl, fun i hi => ⟨Kv h0 h1 h2 h4 h5 i, (match i, hi with | 0, _ => rfl | 1, _ => rfl | 2, _ => rfl | 3, _ => rfl | 4, _ => rfl | i + 5, h => absurd h Om), fun h => absurd h (Nat.not_lt_zero _), fun _ => rfl⟩⟩
theorem vo.done {w : World} {base : Nat} {C : Array Value} {l : bO} {hd : Nat → Hd} (h : vo w base C l.src hd l.xs 5) (hs : l.src < 256) : kb base w C l := by
 obtain ⟨h1, h2, h3⟩ := h
 obtain ⟨a0, e0, r0, _⟩ := h3 0 Om
 obtain ⟨a1, e1, r1, _⟩ := h3 1 Om
 obtain ⟨a2, e2, r2, _⟩ := h3 2 Om
 obtain ⟨a4, e4, r4, _⟩ := h3 3 Om
 obtain ⟨a5, e5, r5, _⟩ := h3 4 Om
 refine ⟨a0, a1, a2, a4, a5, ?_, hs, r0 Om, r1 Om, r2 Om, r4 Om, r5 Om⟩
 apply Array.ext_getElem?
 intro i
 match i with
 | 0 => exact e0
 | 1 => exact e1
 | 2 => exact e2
 | 3 => exact h2
 | 4 => exact e4
 | 5 => exact e5
 | i + 6 => rw [Array.getElem?_eq_none Om, Array.getElem?_eq_none (show 6 ≤ i + 6 by omega)]
theorem rX {cs : Array Value} {l : bO} (w : World) (H : dz w cs l) (hf : l.Fit) :
  Ct 139 #[.agg cs] w fun e w' => ∃ cs', e = .returned (.agg cs') ∧ kb w.heap.size w' cs' l ∧ Ext w w' := by
 obtain ⟨h0, h1, h2, h4, h5, rfl, hs, b0, b1, b2, b4, b5⟩ := H
 have hb : ∀ i, i < 5 → nI w (Kv h0 h1 h2 h4 h5 i) (l.xs i) ∧ (l.xs i).length ≤ 1000000 := fun i hi => by
  obtain ⟨f0, f1, f2, f4, f5⟩ := hf
  match i, hi with
  | 0, _ => exact ⟨b0, f0⟩
  | 1, _ => exact ⟨b1, f1⟩
  | 2, _ => exact ⟨b2, f2⟩
  | 3, _ => exact ⟨b4, f4⟩
  | 4, _ => exact ⟨b5, f5⟩
 have F := aX.refl [] w
 refine aI (s := 6) 24 func139 rfl rfl rfl underlying27 rfl Kr rfl ?_
 intro _ hret
 refine aU ?_
 intro _ Vm B1 _ ex
 have Vu := B1.lt
 replace F := F.ext ex
 refine aU ?_
 intro _ Vo B2 Vn ex
 have Vv := B2.lt
 replace F := F.grow ex Vn
 replace B1 := B1.grow ex Vn
 refine aU ?_
 refine af (aB (z := .pointer none) Tn.u Kr rfl rfl rfl rfl rfl) rfl ?_
 rintro _ w1 ⟨Vp, rfl, Vl, _, ex⟩
 obtain ⟨F,B1,B2⟩ := bC ex F B1 B2
 replace Vl : ao w1 Vp 157 (JS Vm) := Vl
 refine aU ?_
 have F0 := F; have Vq := B2; have z1 := F.size; have m1 := B1.lt; have m2 := B2.lt
 have G := aX.refl [Vm] w1
 have M0 : vo w1 w1.heap.size (fL h0 h1 h2 l.src h4 h5) l.src (Kv h0 h1 h2 h4 h5) l.xs 0 := vo.start
 refine aF (fun n' L wr => ∃ (k : Nat) (C : Array Value), L = [(1, .pointer (some ⟨Vm, 0, none⟩)), (2, .pointer (some ⟨Vo, 0, none⟩)), (10, .slice (some ⟨Vp, 0, none⟩) 5 5), (11, .int .i64 5), (12, .int .i64 (k : Int))] ∧ n' = 5 - k ∧ (k ≤ 5 ∧ aX [Vm] w1 wr ∧ ao wr Vm 27 C ∧ ao wr Vp 157 (JS Vm) ∧ vo wr w1.heap.size C l.src (Kv h0 h1 h2 h4 h5) l.xs k)) _ _ ⟨0, fL h0 h1 h2 l.src h4 h5, rfl, rfl, by omega, G, B1, Vl, M0⟩ Ls ?_
 rintro _ n' L wr ⟨k, C, rfl, rfl, _, G, B1, Vl, M⟩ Vr
 refine aU ?_
 refine al rfl (fun Vs => ?_) (fun Vs => ?_)
 ·have hlt : k < 5 := by omega
  obtain ⟨⟨A, n, c⟩, hC, _, hq⟩ := M.2.2 k hlt
  replace hC : C[mB k]? = some (.slice A n c) := hC
  obtain ⟨hbs, hfl⟩ := hb k hlt
  rw [← hq (Nat.le_refl k)] at hbs
  replace hbs : Bs w A n (l.xs k) := hbs
  have hbl := hbs.1
  have EX : Ext w wr := ((F0.mono (S' := [Vo, Vm]) (by simp)).bT G).cM So
  have hz := G.size
  refine au 7 ?_
  refine ak (ah rfl Tn.u rfl (show _ = some (.pointer (some ⟨Vm, mB k, none⟩)) from by rw [Nat.zero_add]; exact Vl.get (FK k hlt))) ?_
  refine au 7 ?_
  refine ak (ah rfl Tn.u rfl (B1.get hC)) ?_
  refine aL func100 rfl (ve A n c _ _ (hbs.ext EX) Om) ?_
  rintro e _ ⟨A4, c4, rfl, R4, ex⟩
  obtain ⟨G,B1,Vl,M⟩ := bU ex G B1 Vl M
  replace R4 := R4.lower hz
  refine au 2 ?_
  refine af (az rfl rfl rfl Kr B1 (by rw [M.1]; exact xO hlt)) rfl ?_
  rintro _ _ ⟨rfl, D1, cg⟩
  replace M := (M.step hlt R4).bT (aX.one cg) So; replace G := G.bT (aX.one cg); replace Vl := Vl.bT (aX.one cg) So
  refine au 7 ?_
  refine ae ?_
  refine Vr _ _ ⟨k + 1, C.setIfInBounds (mB k) (.slice A4 n c4), rfl, rfl, by omega, G, D1, Vl, M⟩ Om Ls
 ·obtain rfl : k = 5 := by omega
  have B2 := Vq.bT G So
  have LR := M.done hs
  have Vt := LR
  obtain ⟨i0, i1, i2, i4, i5, rfl, _⟩ := Vt
  refine aU ?_
  intro _ D2 cg
  have F6 := ((F0.mono (S' := [Vo, Vm]) (by simp)).bT G).bT (aX.one cg)
  refine aU ?_
  refine hret rfl (D2.congr (cs' := fL i0 i1 i2 l.src i4 i5) rfl) rfl ?_
  exact ⟨_, rfl, (LR.bT (aX.one cg) So).lower Om, F6.cM So⟩
end
section
open Go.RowKit Tryz
attribute [local irreducible] Y Ef WL WC WK WQ WM cx WN WF cT WJ gZ
open Wire Nd
theorem sC {w : World} {g : Nat} {cs : Array Value} (h : ao w g 5 cs) (hc : cs = ((List.replicate 64 (0 : UInt8)).map bv).toArray) : Bs w (some ⟨g, 0, none⟩) 64 (List.replicate 64 0) :=
 aZ (h.congr hc) (by rfl)
theorem BA {A : Oa} {n c : Nat} {xs : Lb} {s : ByteArray} {B : Oa} {m d : Nat} {ts ys : Lb} {y : Nat} (w : World) (HA : Bs w A n xs) (HB : Bs w B m ts) (hn : n ≤ 100000) (hs : s.size ≤ 1000) (hm : m ≤ 90000) (h : iJ xs (Sg.text s.data.toList ts) = (ys, y)) :
  Ct 63 #[.slice A n c, .string s, .slice B m d] w fun e w' => ∃ A' k c', e = .returned (.tuple #[.slice A' k c', .int .u8 (y : Int)]) ∧ Bn w.heap.size w' A' k ys ∧ k ≤ c' ∧ Ext w w' :=
 (qX A n c xs s B m d ts w HA HB hn hs hm).mono fun _ _ ⟨A', k, c', h1, h2, h3, h4⟩ => ⟨A', k, c', by rw [h1, h], by rw [h] at h2; exact h2, h3, h4⟩
def kq (k : Nat) (w : World) (cs : Array Value) (l : bO) : Prop := ik (fun h xs => Fb k w h.A h.n xs ∧ h.n ≤ h.c) cs l
def bO.put (l : bO) (s : Lb) : bO := ⟨l.box, l.sign, l.ident, l.src, l.parent, s⟩
def jh (l : bO) : bO := l.put (List.replicate 64 0)
def gR (l : bO) (seed gs : Lb) (z : Int) : bO × Nat :=
 if ¬ aC (jh l) then (bO.zero, 3)
 else if ¬ nL l z then (bO.zero, 1)
 else if (iJ seed (Sg.text FZ.data.toList (fU l gs z))).2 ≠ 0 then (bO.zero, (iJ seed (Sg.text FZ.data.toList (fU l gs z))).2)
 else (l.put (iJ seed (Sg.text FZ.data.toList (fU l gs z))).1, 0)
theorem DJ {s t ys : Lb} {y : Nat} (h : iJ s t = (ys, y)) (hy : y = 0) : ys.length = 64 := by
 unfold iJ at h
 split at h
 ·injection h with h _; rw [← h]; exact Sg.jd _ _
 ·injection h with _ h; omega
theorem Bs.Dn {w : World} {b : Nat} {t : TypeId} {cs : Array Value} {A : Oa} {n : Nat} {xs : Lb} (H : Bs w A n xs) (B : ao w b t cs) (hn : cs.size < n) : ∀ o, A ≠ some ⟨b, o, none⟩ := fun o e => by
 obtain ⟨b', off, hA, _, hc⟩ := H.2.get (k := n - 1) (by rw [List.length_map, H.1]; omega)
 rw [hA] at e
 injection e with e
 injection e with e1 e2
 subst e1
 rw [B.cell, Array.getElem?_eq_none Om] at hc
 cases hc
section
variable {w w' : World} {cs : Array Value} {l : bO} {base : Nat} {i0 i1 i2 i4 i5 h : Hd} {xs : Lb}
theorem kb.inj (h : kb base w (fL i0 i1 i2 l.src i4 i5) l) : l.src < 256 ∧ Row w base 5 i0.A i0.n i0.c (l.box.map bv) ∧ Row w base 5 i1.A i1.n i1.c (l.sign.map bv) ∧ Row w base 5 i2.A i2.n i2.c (l.ident.map bv) ∧ Row w base 5 i4.A i4.n i4.c (l.parent.map bv) := by
 obtain ⟨j0, j1, j2, j4, j5, e, hs, q0, q1, q2, q4, q5⟩ := h
 have e0 : j0 = i0 ∧ j1 = i1 ∧ j2 = i2 ∧ j4 = i4 := by
  unfold fL at e
  simp only [Array.mk.injEq, List.cons.injEq, Value.slice.injEq, and_true, true_and] at e
  obtain ⟨a, b, c, d, f⟩ := e
  refine ⟨?_, ?_, ?_, ?_⟩
  ·cases i0; cases j0; simp_all
  ·cases i1; cases j1; simp_all
  ·cases i2; cases j2; simp_all
  ·cases i4; cases j4; simp_all
 obtain ⟨rfl, rfl, rfl, rfl⟩ := e0
 exact ⟨hs, q0, q1, q2, q4⟩
theorem mG.mk (hs : l.src < 256) (r0 : Row w base 5 i0.A i0.n i0.c (l.box.map bv)) (r1 : Row w base 5 i1.A i1.n i1.c (l.sign.map bv)) (r2 : Row w base 5 i2.A i2.n i2.c (l.ident.map bv)) (r4 : Row w base 5 i4.A i4.n i4.c (l.parent.map bv)) (b : Bs w h.A h.n xs) (hc : h.n ≤ h.c) : mG w (fL i0 i1 i2 l.src i4 h) (l.put xs) :=
 ⟨i0, i1, i2, i4, h, rfl, hs, ⟨r0.bs, r0.cap⟩, ⟨r1.bs, r1.cap⟩, ⟨r2.bs, r2.cap⟩, ⟨r4.bs, r4.cap⟩, b, hc⟩
theorem kq.mk (hs : l.src < 256) (r0 : Row w base 5 i0.A i0.n i0.c (l.box.map bv)) (r1 : Row w base 5 i1.A i1.n i1.c (l.sign.map bv)) (r2 : Row w base 5 i2.A i2.n i2.c (l.ident.map bv)) (r4 : Row w base 5 i4.A i4.n i4.c (l.parent.map bv)) {k : Nat} (hk : k ≤ base) (b : Bn k w h.A h.n xs) (hc : h.n ≤ h.c) : kq k w (fL i0 i1 i2 l.src i4 h) (l.put xs) :=
 ⟨i0, i1, i2, i4, h, rfl, hs, ⟨r0.fb.mono hk, r0.cap⟩, ⟨r1.fb.mono hk, r1.cap⟩, ⟨r2.fb.mono hk, r2.cap⟩, ⟨r4.fb.mono hk, r4.cap⟩, b.fb, hc⟩
def Hi (i : Nat) (w : World) (cs : Array Value) : Prop := ∀ A n c, cs[i]? = some (.slice A n c) → ∀ b o, A = some ⟨b, o, none⟩ → ∃ cur, ao w b 5 cur
theorem Hi.ext {i : Nat} {w w' : World} {cs : Array Value} (h : Hi i w cs) (k : Ext w w') : Hi i w' cs := fun A n c e b o ha => by obtain ⟨cur, hb⟩ := h A n c e b o ha; exact ⟨cur, hb.ext k⟩
theorem NB (w : World) : Hi 2 w gu := fun A n c e b o ha => by have e' : some (Value.slice none 0 0) = some (.slice A n c) := e; injection e' with e'; injection e' with e1 _ _; rw [← e1] at ha; cases ha
theorem OI {h5 : Hd} {s : Nat} (r : Row w base 5 i2.A i2.n i2.c (xs.map bv)) : Hi 2 w (fL i0 i1 i2 s i4 h5) := fun A n c e b o ha => by
 have e' : some (Value.slice i2.A i2.n i2.c) = some (.slice A n c) := e
 injection e' with e'
 injection e' with e1 _ _
 rw [← e1] at ha
 rcases r.2 with ⟨hv, _⟩ | ⟨g, cap, cur, hv, _, hb, _⟩
 ·injection hv with hv; rw [hv] at ha; cases ha
 ·injection hv with hv; rw [hv] at ha; injection ha with ha; injection ha with ha; subst ha; exact ⟨cur, hb⟩
theorem kq.zero (k : Nat) (w : World) : kq k w gu bO.zero := ⟨aq, aq, aq, aq, aq, rfl, by decide, ⟨Fb.nil _ _ _, Nat.le_refl _⟩, ⟨Fb.nil _ _ _, Nat.le_refl _⟩, ⟨Fb.nil _ _ _, Nat.le_refl _⟩, ⟨Fb.nil _ _ _, Nat.le_refl _⟩, Fb.nil _ _ _, Nat.le_refl _⟩
end
theorem sK {cs : Array Value} {l : bO} {A : Oa} {n c : Nat} {seed : Lb} {B : Oa} {m d : Nat} {gs : Lb} {z : Int} (w : World) (H : dz w cs l) (hf : l.Fit) (hU : (dt l).length ≤ 80000) (HA : Bs w A n seed) (hn : n ≤ 100) (HB : Bs w B m gs) (hm : m ≤ 100) :
  Ct 68 #[.agg cs, .slice A n c, .slice B m d, .int .i64 z] w fun e w' => ∃ cs', e = .returned (.tuple #[.agg cs', .int .u8 (((gR l seed gs z).2 : Nat) : Int)]) ∧ kq w.heap.size w' cs' (gR l seed gs z).1 ∧ Hi 2 w' cs' ∧ Ext w w' := by
 have HL := H
 obtain ⟨h0, h1, h2, h4, h5, rfl, hs, _⟩ := H
 have hT := BC (z := z) hU (show gs.length ≤ 100 by rw [HB.1]; exact hm)
 have fw : (jh l).Fit := ⟨hf.1, hf.2.1, hf.2.2.1, hf.2.2.2.1, (show (List.replicate 64 (0 : UInt8)).length ≤ 1000000 by rw [List.length_replicate]; omega)⟩
 obtain ⟨ys, y, hE⟩ : ∃ ys y, iJ seed (Sg.text FZ.data.toList (fU l gs z)) = (ys, y) := ⟨_, _, rfl⟩
 have F := aX.refl [] w
 refine cV (s := 6) 45 func68 rfl rfl rfl underlying27 rfl Kr rfl ?_
 intro _ hret
 refine aU ?_
 intro _ Vq B4 _ ex
 have VE := B4.lt
 replace F := F.ext ex
 refine aU ?_
 intro _ Vr B8 Vl ex
 have VF := B8.lt
 replace F := F.grow ex Vl
 replace B4 := B4.grow ex Vl
 replace F := F.mono (S' := [Vr, Vq]) (by simp)
 refine aU ?_
 have Vy := HL.ext (F.cM So); have z1 := F.size; have m1 := B4.lt; have n1 := B8.lt
 refine aL func139 rfl (rX _ Vy hf) ?_
 rintro e _ ⟨_, rfl, LR, ex⟩
 obtain ⟨F,B4,B8⟩ := bC ex F B4 B8
 have Vz := LR; obtain ⟨i0, i1, i2, i4, i5, rfl, _⟩ := Vz; obtain ⟨_, r0, r1, r2, r4⟩ := LR.inj
 refine aU ?_
 intro _ D cg
 have ex := aX.one cg
 clear cg
 obtain ⟨F,B8,r0,r1,r2,r4⟩ := tI ex F B8 r0 r1 r2 r4
 replace B4 := D; clear D
 replace B4 := B4.congr (cs' := fL i0 i1 i2 l.src i4 i5) rfl
 refine aU ?_
 have m2 := B4.lt; have n2 := B8.lt
 refine af (dn (n := 64) (z := .int .u8 0) (bytes := 1) rfl rfl Tn.u Kr rfl rfl rfl rfl Om Om) rfl ?_
 rintro _ w3 ⟨g5, rfl, B5, _, ex⟩
 obtain ⟨F,B4,B8,r0,r1,r2,r4⟩ := gY ex F B4 B8 r0 r1 r2 r4
 have J5 : Kp w3.heap.size [Vr, Vq] (fun w => Bs w (some ⟨g5, 0, none⟩) 64 (List.replicate 64 0)) w3 := Kp.bs (sC B5 (by rfl)) (fun _ g hg o e => by simp at hg e; omega)
 refine aU ?_
 intro _ D cg
 have ex := aX.one cg
 clear cg
 obtain ⟨F,B8,r0,r1,r2,r4,J5⟩ := LN ex F B8 r0 r1 r2 r4 J5
 replace B4 := D; clear D
 replace B4 := B4.congr (cs' := fL i0 i1 i2 l.src i4 ⟨some ⟨g5, 0, none⟩, 64, 64⟩) rfl
 refine aU ?_
 refine aL func140 rfl (kj _ (mG.mk (h := ⟨some ⟨g5, 0, none⟩, 64, 64⟩) hs r0 r1 r2 r4 J5.out (Nat.le_refl 64)).at) ?_
 rintro e _ ⟨rfl, ex⟩
 obtain ⟨F,B4,B8,r0,r1,r2,r4,J5⟩ := Mr ex F B4 B8 r0 r1 r2 r4 J5
 refine aU ?_
 refine bW rfl (fun Vs => ?_) (fun Vs => ?_)
 ·refine au 2 ?_
  refine ak (aJ rfl (cells := gu) Kr) ?_
  refine aU ?_
  intro _ D cg
  have ex := aX.one cg
  clear cg
  replace F := F.bT ex
  replace B8 := D; clear D
  replace B8 := B8.congr (cs' := gu) rfl
  refine aU ?_
  refine hret rfl rfl B8 rfl ?_
  have hno : ¬ aC (jh l) := by simpa [jh] using Vs
  have e1 : gR l seed gs z = (bO.zero, 3) := by unfold gR; rw [if_pos hno]
  rw [e1]; exact ⟨gu, rfl, kq.zero _ _, NB _, F.cM So⟩
 ·have okw : aC (jh l) := by simpa [jh] using Vs
  refine aU ?_
  have X5 := F.cM So; have m5 := B4.lt; have n5 := B8.lt
  refine aL func141 rfl (wD (l := jh l) _ (mG.mk (h := ⟨some ⟨g5, 0, none⟩, 64, 64⟩) hs r0 r1 r2 r4 J5.out (Nat.le_refl 64)).at fw (HB.ext X5) Om) ?_
  rintro e _ ⟨_, VA, _, rfl, Vx, ex⟩
  obtain ⟨F,B4,B8,r0,r1,r2,r4⟩ := gY ex F B4 B8 r0 r1 r2 r4
  have VB : (fU l gs z).length = VA := Vx.bs.1
  refine aU ?_
  refine bW rfl (fun Vt => ?_) (fun Vt => ?_)
  ·refine au 2 ?_
   refine ak (aJ rfl (cells := gu) Kr) ?_
   refine aU ?_
   intro _ D cg
   have ex := aX.one cg
   clear cg
   replace F := F.bT ex
   replace B8 := D; clear D
   replace B8 := B8.congr (cs' := gu) rfl
   refine aU ?_
   refine hret rfl rfl B8 rfl ?_
   have hno : ¬ nL l z := (show ¬ nL (jh l) z from by simpa using Vt)
   have e1 : gR l seed gs z = (bO.zero, 1) := by unfold gR; rw [if_neg (fun h => h okw), if_pos hno]
   rw [e1]; exact ⟨gu, rfl, kq.zero _ _, NB _, F.cM So⟩
  ·have oka : nL l z := (show nL (jh l) z from by simpa using Vt)
   refine aU ?_
   have X8 := F.cM So; have z8 := F.size; have m8 := B4.lt; have n8 := B8.lt
   refine aL func63 rfl (BA _ (HA.ext X8) (show Bs _ _ _ (fU l gs z) from Vx.bs) Om AS Om hE) ?_
   rintro e w6 ⟨Vo, Vm, Vu, rfl, ⟨Vp, Vv⟩, Vw, ex⟩
   obtain ⟨F,B4,B8,r0,r1,r2,r4⟩ := gY ex F B4 B8 r0 r1 r2 r4
   refine aU ?_
   refine al rfl (fun VC => ?_) (fun VC => ?_)
   ·have e1 : gR l seed gs z = (bO.zero, y) := by unfold gR; rw [hE, if_neg (fun h => h okw), if_neg (fun h => h oka), if_pos (show y ≠ 0 by omega)]
    refine au 2 ?_
    refine ak (aJ rfl (cells := gu) Kr) ?_
    refine aU ?_
    intro _ D cg
    have ex := aX.one cg
    clear cg
    replace F := F.bT ex
    replace B8 := D; clear D
    replace B8 := B8.congr (cs' := gu) rfl
    refine aU ?_
    refine hret rfl rfl B8 rfl ?_
    rw [e1]; exact ⟨gu, rfl, kq.zero _ _, NB _, F.cM So⟩
   ·have e1 : gR l seed gs z = (l.put ys, 0) := by unfold gR; rw [hE, if_neg (fun h => h okw), if_neg (fun h => h oka), if_neg (show ¬ y ≠ 0 by omega)]
    have VD : Vm = 64 := by rw [← Vp.1]; exact DJ hE Om
    have Vn : Kp w6.heap.size [Vr, Vq] (fun w => Bs w Vo Vm ys) w6 := Kp.bs Vp fun _ g hg o e => by
     rcases List.mem_cons.1 hg with rfl | hg
     ·exact Vp.Dn B8 (show (6 : Nat) < _ by omega) o e
     ·obtain rfl := List.mem_singleton.1 hg
      exact Vp.Dn B4 (show (6 : Nat) < _ by omega) o e
    refine aU ?_
    intro _ D cg
    have ex := aX.one cg
    clear cg
    obtain ⟨F,B8,r0,r1,r2,r4,Vn⟩ := LN ex F B8 r0 r1 r2 r4 Vn
    replace B4 := D; clear D
    replace B4 := B4.congr (cs' := fL i0 i1 i2 l.src i4 ⟨Vo, Vm, Vu⟩) rfl
    refine aU ?_
    intro _ D cg
    have ex := aX.one cg
    clear cg
    obtain ⟨F,r0,r1,r2,r4,Vn⟩ := tI ex F r0 r1 r2 r4 Vn
    replace B8 := D; clear D
    replace B8 := B8.congr (cs' := fL i0 i1 i2 l.src i4 ⟨Vo, Vm, Vu⟩) rfl
    refine aU ?_
    refine hret rfl rfl B8 rfl ?_
    rw [e1]; exact ⟨_, rfl, kq.mk (h := ⟨Vo, Vm, Vu⟩) hs r0 r1 r2 r4 z1 (Bn.lo ⟨Vn.out, Vv⟩ z8) Vw, OI r2, F.cM So⟩
end
end Go.Proofs.YtgfafidlkldeaaaGreat
