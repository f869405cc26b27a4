/- hpke: rows of strings, extract and expand with labels. No conditions: contracts of the program's functions. -/
import Derived.Test.YtgfafidlkldeaaaGreatNdH
import Derived.Test.YtgfafidlkldeaaaGreatAu
import Derived.Test.YtgfafidlkldeaaaGreatNdP
import Derived.Test.YtgfafidlkldeaaaGreatChunkA
import Derived.Test.YtgfafidlkldeaaaGreatVs
import Derived.Test.YtgfafidlkldeaaaGreatRowC
import Derived.Sort.LoopGhostIn
import Derived.Test.YtgfafidlkldeaaaGreatRowB
import Derived.Lib.AppendStr
set_option linter.unusedVariables false
set_option linter.unusedSimpArgs false
set_option maxHeartbeats 4000000
set_option maxRecDepth 4000
namespace Go.Proofs.YtgfafidlkldeaaaGreat
section
open Go.RowKit Tryz
attribute [local irreducible] Y Ef WL WC WK WQ WM cE WN WF dc WJ gJ
theorem xB (A : Oa) (n c : Nat) (xs : Lb) (w : World) (HA : Bs w A n xs) (hn : n ≤ 35184372088832) :
  Ct 100 #[.slice A n c] w fun e w' => ∃ A' c', e = .returned (.slice A' n c') ∧ Row w' w.heap.size 5 A' n c' (xs.map bv) ∧ Ext w w' := by
 refine ai 8 func100 rfl rfl rfl rfl ?_
 intro _ hret
 refine au 9 ?_
 refine ak (od rfl rfl Tn.u) ?_
 refine aU ?_
 refine bA rfl (fun Vw => ?_) (fun Vw => ?_)
 ·refine aU ?_
  refine hret rfl ?_
  obtain rfl : A = none := by cases A <;> first | rfl | cases Vw
  have Vx : n = 0 := by
   rcases Nat.eq_zero_or_pos n with h | h
   ·exact h
   ·obtain ⟨b, off, hA, _⟩ := HA.get h
    cases hA
  subst Vx
  have hx : xs = [] := List.eq_nil_of_length_eq_zero HA.1
  subst hx
  exact ⟨none, 0, rfl, Row.empty _ _ _, Ext.refl _⟩
 ·refine aU ?_
  refine ag (aK (z := .int .u8 0) Tn.u Kr rfl rfl rfl rfl rfl) rfl ?_
  rintro _ w1 ⟨g1, rfl, B1, Vy, ex⟩
  have E1 := ex; have R1 : Row w1 w.heap.size 5 (some ⟨g1, 0, none⟩) 0 0 [] := Row.new B1 Vy rfl (by unfold maxLen; omega)
  refine aU ?_
  refine ag (gG rfl rfl cB R1 (HA.ext E1).2 (by rw [List.length_map, HA.1]) aM Om Om E1.size) rfl ?_
  rintro _ _ ⟨A2, c2, rfl, R2, be, _, _⟩
  have E2 := E1.trans be
  refine aU ?_
  refine hret rfl ?_
  exact ⟨A2, c2, rfl, R2, E2⟩
def ma (base : Nat) (w : World) (cs : Array Value) (l : bT) : Prop := ky (fun h xs => Row w base 5 h.A h.n h.c (xs.map bv)) cs l
section
variable {w w' : World} {cs : Array Value} {l : bT} {n : Node} {base b : Nat}
theorem ma.lower (h : ma base w cs l) (hb : b ≤ base) : ma b w cs l := ky.imp h fun _ _ r => Row.lower r hb
theorem ma.bo {S : List Nat} (h : ma base w cs l) (c : aA S w w') (hS : ∀ g ∈ S, g < base := by first | (simp; done) | (simp; omega)) : ma base w' cs l := ky.imp h fun _ _ r => Row.bo r c hS
end
/-! A leaf's five slices, taken one behind the other through pointers. -/
def Hd.v (h : Hd) : Value := .slice h.A h.n h.c
def ox (i : Nat) : Nat := if i < 3 then i else i + 1
def Mq (g : Nat) : Array Value := #[.pointer (some ⟨g, 0, none⟩), .pointer (some ⟨g, 1, none⟩), .pointer (some ⟨g, 2, none⟩), .pointer (some ⟨g, 4, none⟩), .pointer (some ⟨g, 5, none⟩)]
theorem Il {g : Nat} : ∀ i, i < 5 → (Mq g)[i]? = some (.pointer (some ⟨g, ox i, none⟩))
 | 0, _ => rfl
 | 1, _ => rfl
 | 2, _ => rfl
 | 3, _ => rfl
 | 4, _ => rfl
 | i + 5, h => absurd h Om
theorem zZ {i : Nat} (h : i < 5) : ox i < 6 := by unfold ox; split <;> omega
theorem GF {i : Nat} : ox i ≠ 3 := by unfold ox; split <;> omega
theorem FU {i j : Nat} (h : ox i = ox j) : i = j := by unfold ox at h; split at h <;> split at h <;> omega
def xD (w : World) (base : Nat) (C : Array Value) (s : Nat) (hd : Nat → Hd) (xs : Nat → List UInt8) (k : Nat) : Prop :=
 C.size = 6 ∧ C[3]? = some (.int .u8 (s : Int)) ∧ ∀ i, i < 5 → ∃ h : Hd, C[ox i]? = some h.v ∧ (i < k → Row w base 5 h.A h.n h.c ((xs i).map bv)) ∧ (k ≤ i → h = hd i)
section
variable {w w' : World} {base s k : Nat} {C : Array Value} {hd : Nat → Hd} {xs : Nat → List UInt8}
theorem xD.ext (h : xD w base C s hd xs k) (e : Ext w w') : xD w' base C s hd xs k :=
 ⟨h.1, h.2.1, fun i hi => by obtain ⟨q, h1, h2, h3⟩ := h.2.2 i hi; exact ⟨q, h1, fun hk => Row.ext (h2 hk) e, h3⟩⟩
theorem xD.bo {S : List Nat} (h : xD w base C s hd xs k) (c : aA S w w') (hS : ∀ g ∈ S, g < base) : xD w' base C s hd xs k :=
 ⟨h.1, h.2.1, fun i hi => by obtain ⟨q, h1, h2, h3⟩ := h.2.2 i hi; exact ⟨q, h1, fun hk => Row.bo (h2 hk) c hS, h3⟩⟩
theorem xD.step {A : Oa} {n c : Nat} (h : xD w base C s hd xs k) (hk : k < 5) (R : Row w base 5 A n c ((xs k).map bv)) : xD w base (C.setIfInBounds (ox k) (.slice A n c)) s hd xs (k + 1) := by
 obtain ⟨h1, h2, h3⟩ := h
 refine ⟨by simp [h1], ?_, fun i hi => ?_⟩
 ·rw [Array.getElem?_setIfInBounds, if_neg GF]; exact h2
 ·by_cases e : i = k
  ·subst e
   refine ⟨⟨A, n, c⟩, ?_, fun _ => R, fun h => by omega⟩
   rw [Array.getElem?_setIfInBounds, if_pos rfl, if_pos (by rw [h1]; exact zZ hi)]; rfl
  ·obtain ⟨q, q1, q2, q3⟩ := h3 i hi
   refine ⟨q, ?_, fun h => q2 Om, fun h => q3 Om⟩
   rw [Array.getElem?_setIfInBounds, if_neg (fun h => e (FU h).symm)]; exact q1
end
def bT.xs (l : bT) : Nat → List UInt8
 | 0 => l.box
 | 1 => l.sign
 | 2 => l.ident
 | 3 => l.parent
 | _ => l.sig
def LG (h0 h1 h2 h4 h5 : Hd) : Nat → Hd
 | 0 => h0
 | 1 => h1
 | 2 => h2
 | 3 => h4
 | _ => h5
theorem xD.start {w : World} {base : Nat} {l : bT} {h0 h1 h2 h4 h5 : Hd} : xD w base (gj h0 h1 h2 l.src h4 h5) l.src (LG h0 h1 h2 h4 h5) l.xs 0 :=
 ⟨rfl, rfl, fun i hi => ⟨LG h0 h1 h2 h4 h5 i, (match i, hi with | 0, _ => rfl | 1, _ => rfl | 2, _ => rfl | 3, _ => rfl | 4, _ => rfl | i + 5, h => absurd h Om), fun h => absurd h (Nat.not_lt_zero _), fun _ => rfl⟩⟩
theorem xD.done {w : World} {base : Nat} {C : Array Value} {l : bT} {hd : Nat → Hd} (h : xD w base C l.src hd l.xs 5) (hs : l.src < 256) : ma base w C l := by
 obtain ⟨h1, h2, h3⟩ := h
 obtain ⟨a0, e0, r0, _⟩ := h3 0 Om
 obtain ⟨a1, e1, r1, _⟩ := h3 1 Om
 obtain ⟨a2, e2, r2, _⟩ := h3 2 Om
 obtain ⟨a4, e4, r4, _⟩ := h3 3 Om
 obtain ⟨a5, e5, r5, _⟩ := h3 4 Om
 refine ⟨a0, a1, a2, a4, a5, ?_, hs, r0 Om, r1 Om, r2 Om, r4 Om, r5 Om⟩
 apply Array.ext_getElem?
 intro i
 match i with
 | 0 => exact e0
 | 1 => exact e1
 | 2 => exact e2
 | 3 => exact h2
 | 4 => exact e4
 | 5 => exact e5
 | i + 6 => rw [Array.getElem?_eq_none Om, Array.getElem?_eq_none (show 6 ≤ i + 6 by omega)]
theorem um {cs : Array Value} {l : bT} (w : World) (H : dO w cs l) (hf : l.Fit) :
  Ct 139 #[.agg cs] w fun e w' => ∃ cs', e = .returned (.agg cs') ∧ ma w.heap.size w' cs' l ∧ Ext w w' := by
 obtain ⟨h0, h1, h2, h4, h5, rfl, hs, b0, b1, b2, b4, b5⟩ := H
 have hb : ∀ i, i < 5 → kP w (LG h0 h1 h2 h4 h5 i) (l.xs i) ∧ (l.xs i).length ≤ 1000000 := fun i hi => by
  obtain ⟨f0, f1, f2, f4, f5⟩ := hf
  match i, hi with
  | 0, _ => exact ⟨b0, f0⟩
  | 1, _ => exact ⟨b1, f1⟩
  | 2, _ => exact ⟨b2, f2⟩
  | 3, _ => exact ⟨b4, f4⟩
  | 4, _ => exact ⟨b5, f5⟩
 have F := aA.refl [] w
 refine aH (s := 6) 24 func139 rfl rfl rfl underlying27 rfl Kr rfl ?_
 intro _ hret
 refine aU ?_
 intro _ Vx B1 _ ex
 have VF := B1.lt
 replace F := F.ext ex
 refine aU ?_
 intro _ Vz B2 Vy ex
 have VG := B2.lt
 replace F := F.grow ex Vy
 replace B1 := B1.grow ex Vy
 refine aU ?_
 refine ag (aK (z := .pointer none) Tn.u Kr rfl rfl rfl rfl rfl) rfl ?_
 rintro _ w1 ⟨VA, rfl, Vw, _, ex⟩
 obtain ⟨F,B1,B2⟩ := bC ex F B1 B2
 replace Vw : ao w1 VA 157 (Mq Vx) := Vw
 refine aU ?_
 have F0 := F; have VB := B2; have z1 := F.size; have m1 := B1.lt; have m2 := B2.lt
 have G := aA.refl [Vx] w1
 have M0 : xD w1 w1.heap.size (gj h0 h1 h2 l.src h4 h5) l.src (LG h0 h1 h2 h4 h5) l.xs 0 := xD.start
 refine az (fun n' L wr => ∃ (k : Nat) (C : Array Value), L = [(1, .pointer (some ⟨Vx, 0, none⟩)), (2, .pointer (some ⟨Vz, 0, none⟩)), (10, .slice (some ⟨VA, 0, none⟩) 5 5), (11, .int .i64 5), (12, .int .i64 (k : Int))] ∧ n' = 5 - k ∧ (k ≤ 5 ∧ aA [Vx] w1 wr ∧ ao wr Vx 27 C ∧ ao wr VA 157 (Mq Vx) ∧ xD wr w1.heap.size C l.src (LG h0 h1 h2 h4 h5) l.xs k)) _ _ ⟨0, gj h0 h1 h2 l.src h4 h5, rfl, rfl, by omega, G, B1, Vw, M0⟩ Ls ?_
 rintro _ n' L wr ⟨k, C, rfl, rfl, _, G, B1, Vw, M⟩ VC
 refine aU ?_
 refine al rfl (fun VD => ?_) (fun VD => ?_)
 ·have hlt : k < 5 := by omega
  obtain ⟨⟨A, n, c⟩, hC, _, hq⟩ := M.2.2 k hlt
  replace hC : C[ox k]? = some (.slice A n c) := hC
  obtain ⟨hbs, hfl⟩ := hb k hlt
  rw [← hq (Nat.le_refl k)] at hbs
  replace hbs : Bs w A n (l.xs k) := hbs
  have hbl := hbs.1
  have EX : Ext w wr := ((F0.mono (S' := [Vz, Vx]) (by simp)).bo G).aD So
  have hz := G.size
  refine au 7 ?_
  refine ak (af rfl Tn.u rfl (show _ = some (.pointer (some ⟨Vx, ox k, none⟩)) from by rw [Nat.zero_add]; exact Vw.get (Il k hlt))) ?_
  refine au 7 ?_
  refine ak (af rfl Tn.u rfl (B1.get hC)) ?_
  refine aB func100 rfl (xB A n c _ _ (hbs.ext EX) Om) ?_
  rintro e _ ⟨A4, c4, rfl, R4, ex⟩
  obtain ⟨G,B1,Vw,M⟩ := bO ex G B1 Vw M
  replace R4 := R4.lower hz
  refine au 2 ?_
  refine ag (av rfl rfl rfl Kr B1 (by rw [M.1]; exact zZ hlt)) rfl ?_
  rintro _ _ ⟨rfl, D1, cg⟩
  replace M := (M.step hlt R4).bo (aA.one cg) So; replace G := G.bo (aA.one cg); replace Vw := Vw.bo (aA.one cg) So
  refine au 7 ?_
  refine ae ?_
  refine VC _ _ ⟨k + 1, C.setIfInBounds (ox k) (.slice A4 n c4), rfl, rfl, by omega, G, D1, Vw, M⟩ Om Ls
 ·obtain rfl : k = 5 := by omega
  have B2 := VB.bo G So
  have LR := M.done hs
  have VE := LR
  obtain ⟨i0, i1, i2, i4, i5, rfl, _⟩ := VE
  refine aU ?_
  intro _ D2 cg
  have F6 := ((F0.mono (S' := [Vz, Vx]) (by simp)).bo G).bo (aA.one cg)
  refine aU ?_
  refine hret rfl (D2.congr (cs' := gj i0 i1 i2 l.src i4 i5) rfl) rfl ?_
  exact ⟨_, rfl, (LR.bo (aA.one cg) So).lower Om, F6.aD So⟩
end
section
open Go.RowKit Tryz
attribute [local irreducible] Y Ef WL WC WK WQ WM cE WN WF dc WJ gJ
open Wire Nd
theorem tI {w : World} {g : Nat} {cs : Array Value} (h : ao w g 5 cs) (hc : cs = ((List.replicate 64 (0 : UInt8)).map bv).toArray) : Bs w (some ⟨g, 0, none⟩) 64 (List.replicate 64 0) :=
 bw (h.congr hc) (by rfl)
theorem GR {A : Oa} {n c : Nat} {xs : Lb} {s : ByteArray} {B : Oa} {m d : Nat} {ts ys : Lb} {y : Nat} (w : World) (HA : Bs w A n xs) (HB : Bs w B m ts) (hn : n ≤ 100000) (hs : s.size ≤ 1000) (hm : m ≤ 90000) (h : jv xs (Sg.text s.data.toList ts) = (ys, y)) :
  Ct 63 #[.slice A n c, .string s, .slice B m d] w fun e w' => ∃ A' k c', e = .returned (.tuple #[.slice A' k c', .int .u8 (y : Int)]) ∧ Bs w' A' k ys ∧ k ≤ c' ∧ Ext w w' :=
 (sd A n c xs s B m d ts w HA HB hn hs hm).mono fun _ _ ⟨A', k, c', h1, h2, h3, h4⟩ => ⟨A', k, c', by rw [h1, h], by rw [h] at h2; exact h2, h3, h4⟩
def bT.put (l : bT) (s : Lb) : bT := ⟨l.box, l.sign, l.ident, l.src, l.parent, s⟩
def jV (l : bT) : bT := l.put (List.replicate 64 0)
def gP (l : bT) (seed gs : Lb) (z : Int) : bT × Nat :=
 if ¬ aG (jV l) then (bT.zero, 3)
 else if ¬ pn l z then (bT.zero, 1)
 else if (jv seed (Sg.text Jo.data.toList (gC l gs z))).2 ≠ 0 then (bT.zero, (jv seed (Sg.text Jo.data.toList (gC l gs z))).2)
 else (l.put (jv seed (Sg.text Jo.data.toList (gC l gs z))).1, 0)
theorem GG {s t ys : Lb} {y : Nat} (h : jv s t = (ys, y)) (hy : y = 0) : ys.length = 64 := by
 unfold jv at h
 split at h
 ·injection h with h _; rw [← h]; exact Sg.jP _ _
 ·injection h with _ h; omega
theorem Bs.Gd {w : World} {b : Nat} {t : TypeId} {cs : Array Value} {A : Oa} {n : Nat} {xs : Lb} (H : Bs w A n xs) (B : ao w b t cs) (hn : cs.size < n) : ∀ o, A ≠ some ⟨b, o, none⟩ := fun o e => by
 obtain ⟨b', off, hA, _, hc⟩ := H.2.get (k := n - 1) (by rw [List.length_map, H.1]; omega)
 rw [hA] at e
 injection e with e
 injection e with e1 e2
 subst e1
 rw [B.cell, Array.getElem?_eq_none Om] at hc
 cases hc
section
variable {w w' : World} {cs : Array Value} {l : bT} {base : Nat} {i0 i1 i2 i4 i5 h : Hd} {xs : Lb}
theorem ma.inj (h : ma base w (gj i0 i1 i2 l.src i4 i5) l) : l.src < 256 ∧ Row w base 5 i0.A i0.n i0.c (l.box.map bv) ∧ Row w base 5 i1.A i1.n i1.c (l.sign.map bv) ∧ Row w base 5 i2.A i2.n i2.c (l.ident.map bv) ∧ Row w base 5 i4.A i4.n i4.c (l.parent.map bv) := by
 obtain ⟨j0, j1, j2, j4, j5, e, hs, q0, q1, q2, q4, q5⟩ := h
 have e0 : j0 = i0 ∧ j1 = i1 ∧ j2 = i2 ∧ j4 = i4 := by
  unfold gj at e
  simp only [Array.mk.injEq, List.cons.injEq, Value.slice.injEq, and_true, true_and] at e
  obtain ⟨a, b, c, d, f⟩ := e
  refine ⟨?_, ?_, ?_, ?_⟩
  ·cases i0; cases j0; simp_all
  ·cases i1; cases j1; simp_all
  ·cases i2; cases j2; simp_all
  ·cases i4; cases j4; simp_all
 obtain ⟨rfl, rfl, rfl, rfl⟩ := e0
 exact ⟨hs, q0, q1, q2, q4⟩
theorem fF.mk (hs : l.src < 256) (r0 : Row w base 5 i0.A i0.n i0.c (l.box.map bv)) (r1 : Row w base 5 i1.A i1.n i1.c (l.sign.map bv)) (r2 : Row w base 5 i2.A i2.n i2.c (l.ident.map bv)) (r4 : Row w base 5 i4.A i4.n i4.c (l.parent.map bv)) (b : Bs w h.A h.n xs) (hc : h.n ≤ h.c) : fF w (gj i0 i1 i2 l.src i4 h) (l.put xs) :=
 ⟨i0, i1, i2, i4, h, rfl, hs, ⟨r0.bs, r0.cap⟩, ⟨r1.bs, r1.cap⟩, ⟨r2.bs, r2.cap⟩, ⟨r4.bs, r4.cap⟩, b, hc⟩
theorem fF.zero (w : World) : fF w gv bT.zero := ⟨an, an, an, an, an, rfl, by decide, ⟨Bs.nil _ _, Nat.le_refl _⟩, ⟨Bs.nil _ _, Nat.le_refl _⟩, ⟨Bs.nil _ _, Nat.le_refl _⟩, ⟨Bs.nil _ _, Nat.le_refl _⟩, Bs.nil _ _, Nat.le_refl _⟩
end
theorem PD (base : Nat) (w : World) : ∀ (A : Oa) (n c : Nat), gv[2]? = some (.slice A n c) → Fb base w A n bT.zero.ident := fun A n c e => by
 have e' : some (Value.slice none 0 0) = some (.slice A n c) := e
 injection e' with e'
 injection e' with e1 e2 _
 rw [← e1, ← e2]; exact Fb.nil _ _ _
theorem QV {base : Nat} {w : World} {h0 h1 h2 h4 h5 : Hd} {s : Nat} {xs : Lb} (H : Fb base w h2.A h2.n xs) : ∀ (A : Oa) (n c : Nat), (gj h0 h1 h2 s h4 h5)[2]? = some (.slice A n c) → Fb base w A n xs := fun A n c e => by
 have e' : some (Value.slice h2.A h2.n h2.c) = some (.slice A n c) := e
 injection e' with e'
 injection e' with e1 e2 _
 rw [← e1, ← e2]; exact H
theorem uK {cs : Array Value} {l : bT} {A : Oa} {n c : Nat} {seed : Lb} {B : Oa} {m d : Nat} {gs : Lb} {z : Int} (w : World) (H : dO w cs l) (hf : l.Fit) (hU : (dD l).length ≤ 80000) (HA : Bs w A n seed) (hn : n ≤ 100) (HB : Bs w B m gs) (hm : m ≤ 100) :
  Ct 68 #[.agg cs, .slice A n c, .slice B m d, .int .i64 z] w fun e w' => ∃ cs', e = .returned (.tuple #[.agg cs', .int .u8 (((gP l seed gs z).2 : Nat) : Int)]) ∧ fF w' cs' (gP l seed gs z).1 ∧ (∀ (A : Oa) (n c : Nat), cs'[2]? = some (.slice A n c) → Fb w.heap.size w' A n (gP l seed gs z).1.ident) ∧ Ext w w' := by
 have HL := H
 obtain ⟨h0, h1, h2, h4, h5, rfl, hs, _⟩ := H
 have hT := FN (z := z) hU (show gs.length ≤ 100 by rw [HB.1]; exact hm)
 have fw : (jV l).Fit := ⟨hf.1, hf.2.1, hf.2.2.1, hf.2.2.2.1, (show (List.replicate 64 (0 : UInt8)).length ≤ 1000000 by rw [List.length_replicate]; omega)⟩
 obtain ⟨ys, y, hE⟩ : ∃ ys y, jv seed (Sg.text Jo.data.toList (gC l gs z)) = (ys, y) := ⟨_, _, rfl⟩
 have F := aA.refl [] w
 refine dn (s := 6) 45 func68 rfl rfl rfl underlying27 rfl Kr rfl ?_
 intro _ hret
 refine aU ?_
 intro _ VB B4 _ ex
 have VO := B4.lt
 replace F := F.ext ex
 refine aU ?_
 intro _ VC B8 Vw ex
 have VP := B8.lt
 replace F := F.grow ex Vw
 replace B4 := B4.grow ex Vw
 replace F := F.mono (S' := [VC, VB]) (by simp)
 refine aU ?_
 have VI := HL.ext (F.aD So); have z1 := F.size; have m1 := B4.lt; have n1 := B8.lt
 refine aB func139 rfl (um _ VI hf) ?_
 rintro e _ ⟨_, rfl, LR, ex⟩
 obtain ⟨F,B4,B8⟩ := bC ex F B4 B8
 have VJ := LR; obtain ⟨i0, i1, i2, i4, i5, rfl, _⟩ := VJ; obtain ⟨_, r0, r1, r2, r4⟩ := LR.inj
 refine aU ?_
 intro _ D cg
 have ex := aA.one cg
 clear cg
 obtain ⟨F,B8,r0,r1,r2,r4⟩ := tM ex F B8 r0 r1 r2 r4
 replace B4 := D; clear D
 replace B4 := B4.congr (cs' := gj i0 i1 i2 l.src i4 i5) rfl
 refine aU ?_
 have m2 := B4.lt; have n2 := B8.lt
 refine ag (du (n := 64) (z := .int .u8 0) (bytes := 1) rfl rfl Tn.u Kr rfl rfl rfl rfl Om Om) rfl ?_
 rintro _ w3 ⟨g5, rfl, B5, _, ex⟩
 obtain ⟨F,B4,B8,r0,r1,r2,r4⟩ := iQ ex F B4 B8 r0 r1 r2 r4
 have J5 : Kp w3.heap.size [VC, VB] (fun w => Bs w (some ⟨g5, 0, none⟩) 64 (List.replicate 64 0)) w3 := Kp.bs (tI B5 (by rfl)) (fun _ g hg o e => by simp at hg e; omega)
 refine aU ?_
 intro _ D cg
 have ex := aA.one cg
 clear cg
 obtain ⟨F,B8,r0,r1,r2,r4,J5⟩ := Ks ex F B8 r0 r1 r2 r4 J5
 replace B4 := D; clear D
 replace B4 := B4.congr (cs' := gj i0 i1 i2 l.src i4 ⟨some ⟨g5, 0, none⟩, 64, 64⟩) rfl
 refine aU ?_
 refine aB func140 rfl (lS _ (fF.mk (h := ⟨some ⟨g5, 0, none⟩, 64, 64⟩) hs r0 r1 r2 r4 J5.out (Nat.le_refl 64)).at) ?_
 rintro e _ ⟨rfl, ex⟩
 obtain ⟨F,B4,B8,r0,r1,r2,r4,J5⟩ := Kw ex F B4 B8 r0 r1 r2 r4 J5
 refine aU ?_
 refine bA rfl (fun VD => ?_) (fun VD => ?_)
 ·refine au 2 ?_
  refine ak (aq rfl (cells := gv) Kr) ?_
  refine aU ?_
  intro _ D cg
  have ex := aA.one cg
  clear cg
  replace F := F.bo ex
  replace B8 := D; clear D
  replace B8 := B8.congr (cs' := gv) rfl
  refine aU ?_
  refine hret rfl rfl B8 rfl ?_
  have hno : ¬ aG (jV l) := by simpa [jV] using VD
  have e1 : gP l seed gs z = (bT.zero, 3) := by unfold gP; rw [if_pos hno]
  rw [e1]; exact ⟨gv, rfl, fF.zero _, PD _ _, F.aD So⟩
 ·have okw : aG (jV l) := by simpa [jV] using VD
  refine aU ?_
  have X5 := F.aD So; have m5 := B4.lt; have n5 := B8.lt
  refine aB func141 rfl (xS (l := jV l) _ (fF.mk (h := ⟨some ⟨g5, 0, none⟩, 64, 64⟩) hs r0 r1 r2 r4 J5.out (Nat.le_refl 64)).at fw (HB.ext X5) Om) ?_
  rintro e _ ⟨_, VK, _, rfl, VH, ex⟩
  obtain ⟨F,B4,B8,r0,r1,r2,r4⟩ := iQ ex F B4 B8 r0 r1 r2 r4
  have VL : (gC l gs z).length = VK := VH.bs.1
  refine aU ?_
  refine bA rfl (fun VE => ?_) (fun VE => ?_)
  ·refine au 2 ?_
   refine ak (aq rfl (cells := gv) Kr) ?_
   refine aU ?_
   intro _ D cg
   have ex := aA.one cg
   clear cg
   replace F := F.bo ex
   replace B8 := D; clear D
   replace B8 := B8.congr (cs' := gv) rfl
   refine aU ?_
   refine hret rfl rfl B8 rfl ?_
   have hno : ¬ pn l z := (show ¬ pn (jV l) z from by simpa using VE)
   have e1 : gP l seed gs z = (bT.zero, 1) := by unfold gP; rw [if_neg (fun h => h okw), if_pos hno]
   rw [e1]; exact ⟨gv, rfl, fF.zero _, PD _ _, F.aD So⟩
  ·have oka : pn l z := (show pn (jV l) z from by simpa using VE)
   refine aU ?_
   have X8 := F.aD So; have m8 := B4.lt; have n8 := B8.lt
   refine aB func63 rfl (GR _ (HA.ext X8) (show Bs _ _ _ (gC l gs z) from VH.bs) Om Fj Om hE) ?_
   rintro e w6 ⟨Vz, Vx, VF, rfl, VA, VG, ex⟩
   obtain ⟨F,B4,B8,r0,r1,r2,r4⟩ := iQ ex F B4 B8 r0 r1 r2 r4
   refine aU ?_
   refine al rfl (fun VM => ?_) (fun VM => ?_)
   ·have e1 : gP l seed gs z = (bT.zero, y) := by unfold gP; rw [hE, if_neg (fun h => h okw), if_neg (fun h => h oka), if_pos (show y ≠ 0 by omega)]
    refine au 2 ?_
    refine ak (aq rfl (cells := gv) Kr) ?_
    refine aU ?_
    intro _ D cg
    have ex := aA.one cg
    clear cg
    replace F := F.bo ex
    replace B8 := D; clear D
    replace B8 := B8.congr (cs' := gv) rfl
    refine aU ?_
    refine hret rfl rfl B8 rfl ?_
    rw [e1]; exact ⟨gv, rfl, fF.zero _, PD _ _, F.aD So⟩
   ·have e1 : gP l seed gs z = (l.put ys, 0) := by unfold gP; rw [hE, if_neg (fun h => h okw), if_neg (fun h => h oka), if_neg (show ¬ y ≠ 0 by omega)]
    have VN : Vx = 64 := by rw [← VA.1]; exact GG hE Om
    have Vy : Kp w6.heap.size [VC, VB] (fun w => Bs w Vz Vx ys) w6 := Kp.bs VA fun _ g hg o e => by
     rcases List.mem_cons.1 hg with rfl | hg
     ·exact VA.Gd B8 (show (6 : Nat) < _ by omega) o e
     ·obtain rfl := List.mem_singleton.1 hg
      exact VA.Gd B4 (show (6 : Nat) < _ by omega) o e
    refine aU ?_
    intro _ D cg
    have ex := aA.one cg
    clear cg
    obtain ⟨F,B8,r0,r1,r2,r4,Vy⟩ := Ks ex F B8 r0 r1 r2 r4 Vy
    replace B4 := D; clear D
    replace B4 := B4.congr (cs' := gj i0 i1 i2 l.src i4 ⟨Vz, Vx, VF⟩) rfl
    refine aU ?_
    intro _ D cg
    have ex := aA.one cg
    clear cg
    obtain ⟨F,r0,r1,r2,r4,Vy⟩ := tM ex F r0 r1 r2 r4 Vy
    replace B8 := D; clear D
    replace B8 := B8.congr (cs' := gj i0 i1 i2 l.src i4 ⟨Vz, Vx, VF⟩) rfl
    refine aU ?_
    refine hret rfl rfl B8 rfl ?_
    rw [e1]; exact ⟨_, rfl, fF.mk (h := ⟨Vz, Vx, VF⟩) hs r0 r1 r2 r4 Vy.out VG, QV (Row.fb (r2.lower z1)), F.aD So⟩
end
section
open Go.RowKit
section
variable {P : Program} {ops : Array Oper} {Q : Exit → Act → World → Prop} {N : Nd} {L : List (Nat × Value)} {w : World} {k n : Nat}
theorem pS {K : Act → World → Prop} (h : ¬ LetsOut Q) : ¬ LetsOut (Exit.then K Q) := fun ⟨a, w, h'⟩ => h ⟨a, w, h'⟩
theorem CB {b : Nat} (h : ¬ LetsOut Q) : ¬ LetsOut (Exit.inBlock b Q) := fun ⟨a, w, h'⟩ => h ⟨a, w, h'⟩
theorem Cg (h : ¬ LetsOut Q) : ¬ LetsOut (iI Q) := fun ⟨a, w, h'⟩ => h ⟨a, w, h'⟩
def WR (k n : Nat) (P : Program) (Q : Exit → Act → World → Prop) (c : Code) (N : Nd) (L : List (Nat × Value)) (w : World) : Prop := ¬ LetsOut Q → ∀ a, Fr N L a → c.wpIn (Fence.wide.inRound k) n P Q a w
theorem ES (hQ : ¬ LetsOut Q) (hd : ∀ (i : Nat) (o : Oper), ops[i]? = some o → ∀ c, o.op ≠ .defer c) : ∀ (l : List Nat) (a : Act) (w : World), wpOps P ops Q l a w → wpOpsIn (Fence.wide.inRound k) n P ops Q l a w
  | [], a, w, h => h
  | i :: rest, a, w, h => by
    have ih := fun a w => ES hQ hd rest a w
    unfold wpOps at h
    unfold wpOpsIn
    cases ho : ops[i]? with
    | none => rw [ho] at h; exact ih _ _ h
    | some o =>
      rw [ho] at h
      simp only at h ⊢
      by_cases hw : Region.wanted o (yielded ops a.tmps) = true
      · rw [if_pos hw] at h ⊢
        rcases h with h | h
        · refine ⟨fun _ _ => trivial, ?_⟩
          rw [show (Fence.wide.inRound k).round = some k from rfl, Oper.semAt_some k a.eval o (hd i o ho)]
          exact Av ih h
        · exact absurd h.2 hQ
      · rw [if_neg hw] at h ⊢
        exact ⟨fun _ _ => trivial, ih _ _ h⟩
theorem wA {l : List Oper} (h : l.all (fun o => nD o.op) = true) (i : Nat) (o : Oper) (ho : l.toArray[i]? = some o) : ∀ c, o.op ≠ .defer c := fun c e => by
 have hm : o ∈ l := by
  rw [List.getElem?_toArray] at ho
  exact List.mem_of_getElem? ho
 have := List.all_eq_true.1 h o hm
 rw [e] at this
 cases this
theorem dW {id : Nat} {l : List Oper} (h : WL P l.toArray Q l N L w) (hd : l.all (fun o => nD o.op) = true := by kernel_rfl) : WR k n P Q (.region id l.toArray false) N L w := fun hQ a ha =>
 wpIn_region_lit (uf hQ (fun o ho c e => by
  have := List.all_eq_true.1 hd o ho
  rw [e] at this
  cases this) (h a ha))
theorem Mh {id : Nat} {l : List Oper} (hd : l.all (fun o => nD o.op) = true) (hm : P.follows .mixedOrders = true) (hQ : ¬ LetsOut Q) {a : Act} (h : wpAny P .any l.toArray (iI Q) l.toArray.size (Array.replicate l.toArray.size false) a w.drew) :
  (Code.region id l.toArray true).wpIn (Fence.wide.inRound k) n P Q a w := by
 have h1 : (Code.region id l.toArray true).wpIn (Fence.wide.inRound k) n P (iI Q) a w := by
  refine wpIn_region_draw fun t => ?_
  simp only [Region.schedule, hm, Bool.true_or, if_true]
  exact ES (Cg hQ) (wA hd) _ _ _ (wpAny_sound l.toArray.size t _ a _ h)
 refine wpIn_mono h1 fun e a w hq => ?_
 cases e <;> first | exact hq | exact hq.elim
theorem tD {id : Nat} {l : List Oper} (hm : P.follows .mixedOrders = true) (n' : Nat) (hn : l.length = n') (h : ∀ w', Ext w w' → w'.heap = w.heap → WM P l.toArray (iI Q) n' (Array.replicate n' false) N L w') (hd : l.all (fun o => nD o.op) = true := by kernel_rfl) : WR k n P Q (.region id l.toArray true) N L w := by
 intro hQ a ha
 subst hn
 refine Mh hd hm hQ (ux _ _ _ _ ?_)
 rw [List.size_toArray]
 exact h _ (Ext.drew w) rfl a ha
theorem ie {x y : Code} (h : ∀ K : Act → World → Prop, (∀ {N L w}, WR k n P Q y N L w → WK K N L w) → WR k n P (Exit.then K Q) x N L w) : WR k n P Q (.seq x y) N L w :=
 fun hQ a ha => wpIn_seq (h (y.wpIn (Fence.wide.inRound k) n P Q) (fun h => h hQ) (pS hQ) a ha)
theorem Jj {c : Operand} {x y : Code} {b : Bool} (hc : ev L c = some (.bool b)) (ht : b = true → WR k n P Q x N L w) (hf : b = false → WR k n P Q y N L w) : WR k n P Q (.cond c x y) N L w :=
 fun hQ a ha => wpIn_cond_split (ha.ev hc) (fun e => ht e hQ a ha) (fun e => hf e hQ a ha)
theorem Nh {c : Operand} {x y : Code} {p : Prop} [Decidable p] (hc : ev L c = some (.bool (decide p))) (ht : p → WR k n P Q x N L w) (hf : ¬ p → WR k n P Q y N L w) : WR k n P Q (.cond c x y) N L w :=
 Jj hc (fun e => ht (of_decide_eq_true e)) (fun e => hf (of_decide_eq_false e))
theorem Ka (h : WQ Q .normal N L w) : WR k n P Q .skip N L w := fun _ a ha => wpIn_skip (h a ha)
theorem Is {id : Nat} (h : WQ Q (.exit id) N L w) : WR k n P Q (.exit id) N L w := fun _ a ha => wpIn_exit (h a ha)
theorem vf {id : Nat} {c : Code} (h : WR k n P (Exit.inBlock id Q) c N L w) : WR k n P Q (.block id c) N L w := fun hQ a ha => wpIn_block (h (CB hQ) a ha)
theorem KP {c : Code} (J : Nat → List (Nat × Value) → World → Prop) (n₀ : Nat) (L₀ : List (Nat × Value)) (h₀ : J n₀ L₀ w) (hS : lU L L₀)
  (round : ∀ (K : Act → World → Prop) (m : Nat) (L : List (Nat × Value)) (w : World), J m L w → (∀ {L1 : List (Nat × Value)} {w' : World} (n' : Nat) (L' : List (Nat × Value)), J n' L' w' → n' < m → lU L1 L' → WK K N L1 w') →
   WR k n P (Exit.then K Q) c N L w) :
  WR k n P Q (.loop c) N L w := by
 intro hQ a ha
 refine wpIn_loop_ghost (fun n a w => ∃ L, Fr N L a ∧ J n L w) n₀ ⟨L₀, ha.sub hS, h₀⟩ ?_
 rintro m a w ⟨L, ha, hJ⟩
 exact round _ m L w hJ (fun n' L' Vw hn hin a' Vx => ⟨n', hn, L', Vx.sub hin, Vw⟩) (pS hQ) a ha
end
section
variable {P : Program} {Q : Exit → Act → World → Prop} {N : Nd} {L : List (Nat × Value)} {w : World} {n : Nat}
theorem vO {α : Type} {B b : Nat} {Kp : World → World → Prop} {I : List α → World → Prop} {Ix : Code → List α → World → Prop} {xs : List α} {W : World} : ¬ LetsOut (Exit.inBlock b (ownPostG B Kp I Ix xs W)) := fun ⟨_, _, h⟩ => h
theorem oA {α : Type} {g : Operand} {p x r0 b gf M : Nat} {Vz : TypeId} {Vx : String} {Vw : Array Edge} {lb : Array Value} {body : Code} {enc : α → Value} {Kp : World → World → Prop} {S Sp : List α → Prop}
  (hn : 1 ≤ n) (hg : ev L g = some (.func (.func gf) #[] lb)) (eg : ∀ args w, (callFunc gf args).run P w = .ok (.enter gf args) w)
  (hseq : SeqStopsK Fence.wide (n - 1) P gf lb (fun v => #[enc v]) Kp S Sp M w)
  (hKt : ∀ {A B C : World}, Kp A B → Kp B C → Kp A C) (hKb : ∀ (W : World) (l : Nat) (o o' : Obj), w.heap.size ≤ l → W.heap[l]? = some o → o.isCells = false → o.isWalk = false → Kp W (W.putObj l o'))
  (I : List α → World → Prop) (hI : OwnFrom w.heap.size I) (h0 : I [] w) (hp : Nat.ble (p + 1) N.n = true) (hx : Nat.ble (x + 1) N.n = true)
  (hbody : ∀ (k : Nat) (Q' : Exit → Act → World → Prop) (pre : List α) (v : α) (W : World), I pre W → pre.length < M → (∀ {N' : Nd} {L' : List (Nat × Value)} {W' : World}, KeepsFrom w.heap.size W W' → Kp W W' → I (pre ++ [v]) W' → WQ Q' .normal N' L' W') →
   WR k (n - 1 - 1) P Q' body ⟨N.n, []⟩ ((x, enc v) :: (p, enc v) :: L) W)
  (hdone : ∀ (D : Nat) (xs : List α) (W : World), w.heap.size ≤ D → S xs → I xs W → W.heap[D]? = some (.deferred (some [])) → WQ Q .normal ⟨N.n, { target := .collected D, args := #[] } :: N.ds⟩ L W) :
  WC P Q (.rangeFunc g #[p] (.region r0 #[⟨some x, .assign (.tmp p), Vz, Vx, Vw, none⟩] false) (.block b body)) N L w := by
 intro a ha
 rw [← wpIn_wide (n := n)]
 have VA : p < a.tmps.size := by rw [ha.size]; exact Nat.le_of_ble_eq_true hp
 have fr : ∀ v, Fr ⟨N.n, []⟩ ((x, enc v) :: (p, enc v) :: L) { tmps := (a.tmps.setIfInBounds p (enc v)).setIfInBounds x (enc v), defers := [] } := fun v => by
  have h1 : Fr ⟨N.n, []⟩ L { tmps := a.tmps, defers := [] } := ⟨ha.size, rfl, ha.has⟩
  exact (h1.put hp (enc v)).put hx (enc v)
 refine wpIn_rangeFunc_ownG rfl hn (ha.ev hg) trivial eg hseq hKt hKb (Below.refl _ _) (fun _ => rfl) I (fun _ _ _ => False) hI (fun _ _ _ _ _ hs _ _ => hs) h0 (fun v => { tmps := (a.tmps.setIfInBounds p (enc v)).setIfInBounds x (enc v), defers := [] }) ?_ ?_ ?_ ?_
 ·intro k v W _ hK
  refine wpIn_region_list ?_
  refine wpListIn_plain rfl fun K' VB => ?_
  refine ⟨fun _ _ => trivial, ?_⟩
  rw [show (Fence.wide.inRound k).round = some k from rfl, Oper.semAt_some k _ _ (fun c e => by cases e)]
  have e : ∀ ρ : Operand → Value, (execOp ρ ⟨some x, .assign (.tmp p), Vz, Vx, Vw, none⟩).run P W = .ok (.value (ρ (.tmp p))) W := fun ρ => by simp [execOp]
  rw [e]
  refine VB _ _ ?_
  simpa [wpListIn, Act.put, Act.eval, VA, Exit.then] using hK
 ·intro k pre v W Vy hl
  refine wpIn_block ?_
  exact hbody k _ pre v W Vy hl (fun h1 h2 h3 _ _ => ⟨h1, h2, h3⟩) vO _ (fr v)
 ·intro D xs W hD hS Vy hK
  exact hdone D xs W hD hS Vy hK _ ⟨ha.size, by rw [ha.defers], ha.has⟩
 ·intro D c pre W _ _ h _
  exact h.elim
end
section
variable {P : Program} {Q : Exit → Act → World → Prop} {N : Nd} {L : List (Nat × Value)} {w : World} {c : Code}
def xF (n : Nat) (P : Program) (Q : Exit → Act → World → Prop) (c : Code) (N : Nd) (L : List (Nat × Value)) (w : World) : Prop := ∀ a, Fr N L a → Code.rounds P c Q n a w
theorem Ce (n : Nat) (h : xF n P Q c N L w) : WC P Q (.loop c) N L w := fun a ha => wp_loop_rounds n (h a ha)
theorem p9 {n : Nat} (h : ∀ K : Act → World → Prop, (∀ {N L w}, xF n P Q c N L w → WK K N L w) → WC P (Exit.then K Q) c N L w) : xF (n + 1) P Q c N L w := fun a ha =>
 h (Code.rounds P c Q n) (fun h => h) a ha
end
section
variable {P : Program} {w : World} {f : FuncId} {fn : Func} {c : Code} {args : Array Value} {R : Ending → World → Prop}
theorem uT (n N : Nat) {t : Tmp} (hf : P.funcs[f]? = some fn) (hb : fn.body = some c) (hN : fn.ntmps = N) (hr : fn.results = #[.tmp t]) (hsz : Nat.ble args.size N = true)
  (h : ∀ Q : Exit → Act → World → Prop,
   (∀ {N D D' : Nat} {L : List (Nat × Value)} {w : World} {v : Value}, look L t = some v → w.heap[D]? = some (.deferred (some [])) → w.heap[D']? = some (.deferred (some [])) → D ≠ D' → R (.returned v) ((w.putObj D (.deferred none)).putObj D' (.deferred none)) → WQ Q .ret (⟨N, [{ target := .collected D, args := #[] }, { target := .collected D', args := #[] }]⟩ : Nd) L w) →
   WC P Q c ⟨N, []⟩ (fm 0 args.toList) w) : Calls P f args w R :=
 nN n N hf hb hN hsz fun Q hQ => h Q
  (fun {N D D' L w v} hv hK Vw hne hR a ha => hQ (by
   show LeavesInM _ _ _ _ _ _ a.defers _ _
   rw [ha.defers]
   refine ⟨by simp, .inl ⟨_, _, rfl, run_takeDeferred hK, ?_⟩⟩
   refine ⟨by simp, .inl ⟨_, _, rfl, run_takeDeferred ((World.putObj_heap_other (Ne.symm hne)).trans Vw), ?_⟩⟩
   exact ⟨_, results_tmp hr _ _ _, by rw [cA (ha.has _ _ hv)]; exact hR⟩))
end
section
theorem oC {B : Nat} {S : List Nat} {W W' : World} (h : aA S W W') (hS : ∀ g ∈ S, g < B) : KeepsFrom B W W' :=
 ⟨h.size, fun i o hB hi _ => (h.block i (Array.getElem?_eq_some_iff.1 hi).1 (fun hm => absurd (hS i hm) Om)).trans hi⟩
theorem ua {b1 b2 : Nat} {S : List Nat} {W W' : World} (h : aA S W W') (h1 : b1 < W.heap.size) (h2 : b2 < W.heap.size) (n1 : b1 ∉ S) (n2 : b2 ∉ S) : tB b1 b2 W W' :=
 ⟨h.size, h.block b1 h1 n1, h.block b2 h2 n2⟩
end
end
section
open Go.RowKit
attribute [local irreducible] Y Ef WL WC WK WQ WM cE WN WF dc WJ gJ
open Wire Nd
theorem uC {cs : Array Value} {l L : bT} {y : Nat} {A : Oa} {n c : Nat} {seed : Lb} {B : Oa} {m d : Nat} {gs : Lb} {z : Int} (w : World) (H : dO w cs l) (hf : l.Fit) (hU : (dD l).length ≤ 80000) (HA : Bs w A n seed) (hn : n ≤ 100) (HB : Bs w B m gs) (hm : m ≤ 100) (hX : gP l seed gs z = (L, y)) :
  Ct 68 #[.agg cs, .slice A n c, .slice B m d, .int .i64 z] w fun e w' => ∃ cs', e = .returned (.tuple #[.agg cs', .int .u8 (y : Int)]) ∧ fF w' cs' L ∧ (∀ (A : Oa) (n c : Nat), cs'[2]? = some (.slice A n c) → Fb w.heap.size w' A n L.ident) ∧ Ext w w' :=
 (uK w H hf hU HA hn HB hm).mono fun _ _ ⟨cs', h1, h2, h4, h3⟩ => ⟨cs', by rw [h1, hX], by rw [hX] at h2; exact h2, by rw [hX] at h4; exact h4, h3⟩
theorem FW {l : bT} {seed gs : Lb} {z : Int} (okw : aG (jV l)) (ha : pn l z) (Vw : seed.length = 32) : gP l seed gs z = (l.put (Sg.sig seed (Sg.text Jo.data.toList (gC l gs z))), 0) := by
 have e : jv seed (Sg.text Jo.data.toList (gC l gs z)) = (Sg.sig seed (Sg.text Jo.data.toList (gC l gs z)), 0) := by unfold jv; rw [if_pos Vw]
 unfold gP
 rw [if_neg (fun h => h okw), if_neg (fun h => h ha), e, if_neg (fun h => h rfl)]
theorem yS {l : bT} {s : Lb} (okw : aG (jV l)) (hs : s.length = 64) : aG (l.put s) := by
 obtain ⟨o1, o2, _, o4⟩ := okw
 exact ⟨o1, o2, hs, o4⟩
end
section
open Go.RowKit Tryz
section
open Go.Lib
variable {P : Program} {L : List (Nat × Value)} {w : World} {ty t u e : TypeId} {x y : Operand}
theorem BD {A : Oa} {n c base : Nat} {xs : List Value} {s : ByteArray} (hx : ev L x = some (.slice A n c)) (hy : ev L y = some (.string s)) (ht : P.underlying t = some (.slice e)) (hu : P.underlying u = some .string) (hi : (P.info? e).map (fun i => (i.zero, i.size, i.bytes)) = some (some (.int .u8 0), 1, 1)) (hown : Row w base e A n c xs) (hl : n + s.size ≤ 1000000) (hbase : base ≤ w.heap.size) :
    Ef P L w (.call { callee := .builtin .append, args := #[x, y], argTypes := #[t, u] }) ty fun v w' => ∃ A' c', v = .slice A' (n + s.size) c' ∧ Row w' base e A' (n + s.size) c' (xs ++ s.data.toList.map bv) ∧ Below base w w' := Ef.run fun ρ hρ => by
  cases hq : P.info? e with
  | none => rw [hq] at hi; cases hi
  | some i =>
    rw [hq] at hi
    simp only [Option.map_some, Option.some.injEq, Prod.mk.injEq] at hi
    obtain ⟨h1, h2, h3⟩ := hi
    obtain ⟨v', w', hrun, h4, h5, _⟩ := run_append_own_string (P := P) w base t u ty e i ht hu hq h1 h2 h3 _ n xs hown s (by unfold maxLen; omega) Om hbase
    obtain ⟨A', c', rfl⟩ := oB h4
    exact ⟨_, w', ⟨A', c', rfl, h4, (Below.refl base w).grown h5 hbase fun k hk => (World.ownsRow.lt hown k hk).1⟩, fun _ _ _ _ => by simp [execOp, resolve, invoke, builtin, hρ _ _ hx, hρ _ _ hy, hrun]⟩
end
attribute [local irreducible] Y Ef WL WC WK WQ WM cE
namespace Hk
def sb (s : ByteArray) : List UInt8 := s.data.toList
theorem oh (s : ByteArray) : (sb s).length = s.size := by unfold sb; rw [Array.length_toList]; rfl
def cat (ss : List ByteArray) : List UInt8 := ss.flatMap sb
theorem nf (s : ByteArray) (ss : List ByteArray) : cat (s :: ss) = sb s ++ cat ss := rfl
theorem xj {ss : List ByteArray} {i : Nat} (h : i < ss.length) : cat (ss.take (i + 1)) = cat (ss.take i) ++ sb ss[i] := by
 rw [List.take_succ_eq_append_getElem h]; unfold cat; rw [List.flatMap_append]; simp
theorem Ml {ss : List ByteArray} {i : Nat} (h : i < ss.length) : (cat (ss.take i)).length + ss[i].size ≤ (cat ss).length := by
 have h1 : cat ss = cat (ss.take (i + 1)) ++ cat (ss.drop (i + 1)) := by
  unfold cat; rw [← List.flatMap_append, List.take_append_drop]
 rw [h1, xj h, List.length_append, List.length_append, oh]; omega
theorem AA (xs : Lb) : sb (j7 xs) = xs := rfl
def Ly : ByteArray := ⟨#[72, 80, 75, 69, 45, 118, 49]⟩
def ext (nm : ByteArray) (xs : Lb) (lb : ByteArray) (ys : Lb) : List UInt8 := Mac.tag xs (cat [Ly, nm, lb, j7 ys])
def exp (nm : ByteArray) (xs : Lb) (lb : ByteArray) (is : Lb) (k : Nat) : List UInt8 := Kdf.expand xs (cat [j7 (Wire.be 2 k), Ly, nm, lb, j7 is]) k
end Hk
open Hk
theorem pX {g : Nat} {t : TypeId} (ss : List ByteArray) (k : Nat) (w : World) (B : ao w g t (ss.map Value.string).toArray) (hk : ss.length = k) (Vy : k ≤ 100) (hs : (cat ss).length ≤ 100000) :
  Ct 167 #[.slice (some ⟨g, 0, none⟩) k k] w fun e w' => ∃ A' m c', e = .returned (.slice A' m c') ∧ Row w' w.heap.size 5 A' m c' ((cat ss).map bv) ∧ Ext w w' := by
 refine ai 17 func167 rfl rfl rfl rfl ?_
 intro _ hret
 refine aU ?_
 refine az (fun n' L wr => ∃ (i m c5 : Nat) (A5 : Oa), L = [(3, .slice A5 m c5), (6, .slice (some ⟨g, 0, none⟩) k k), (7, .int .i64 (k : Int)), (8, .int .i64 (i : Int))] ∧ n' = k - i ∧ (i ≤ k ∧ Ext w wr ∧ Row wr w.heap.size 5 A5 m c5 ((cat (ss.take i)).map bv))) _ _ ⟨0, 0, 0, none, rfl, rfl, Nat.zero_le _, Ext.refl _, Row.empty _ _ _⟩ Ls ?_
 rintro _ n' L wr ⟨i, m, c5, A5, rfl, rfl, _, F, R⟩ Vw
 refine aU ?_
 refine al rfl (fun Vx => ?_) (fun Vx => ?_)
 ·have hik : i < ss.length := by omega
  have hm : m = (cat (ss.take i)).length := by have := R.len; simpa using this.symm
  have hle := Ml hik
  have hcell : wr.cell? ⟨g, 0 + i, none⟩ = some (.string ss[i]) := by
   rw [Nat.zero_add]
   exact (B.ext F).get (by simp [hik])
  refine au 6 ?_
  refine ak (aw rfl rfl Tn.u Kr (j := i) Om Om) ?_
  refine ak (af rfl Tn.u rfl hcell) ?_
  refine aU ?_
  refine ag (BD rfl rfl Tn.u Tn.u Kr R Om F.size) rfl ?_
  rintro _ _ ⟨A6, c6, rfl, R6, be⟩
  have F6 := F.trans be; rw [← List.map_append] at R6
  refine au 8 ?_
  refine ae ?_
  refine Vw _ _ ⟨i + 1, _, c6, A6, rfl, rfl, by omega, F6, by rw [xj hik]; exact R6⟩ Om Ls
 ·refine aU ?_
  refine hret rfl ?_
  obtain rfl : i = k := by omega
  rw [List.take_of_length_le Om] at R
  exact ⟨A5, m, c5, rfl, R, F⟩
theorem fB (nm lb : ByteArray) (A B : Oa) (n c m d : Nat) (xs ys : Lb) (w : World) (HA : Bs w A n xs) (hn : n ≤ 100000) (HB : Bs w B m ys) (hm : m ≤ 10000) (h1 : nm.size ≤ 100) (h2 : lb.size ≤ 100) :
  Ct 137 #[.string nm, .slice A n c, .string lb, .slice B m d] w fun e w' => ∃ A' c', e = .returned (.slice A' 32 c') ∧ Bs w' A' 32 (Hk.ext nm xs lb ys) ∧ Ext w w' := by
 have E := Ext.refl w
 have hyl := HB.1
 have hl : (cat [Ly, nm, lb, j7 ys]).length ≤ 11000 := by
  simp only [nf, List.length_append, oh nm, oh lb, AA, show (sb Ly).length = 7 from rfl, show (cat []).length = 0 from rfl]; omega
 refine ai 17 func137 rfl rfl rfl rfl ?_
 intro _ hret
 refine au 11 ?_
 refine ak (iZ rfl HB Tn.u Tn.u Tn.u) ?_
 refine ag (aK (z := .string ⟨#[]⟩) Tn.u Kr rfl rfl rfl rfl rfl) rfl ?_
 rintro _ _ ⟨_, rfl, B1, _, ex⟩
 obtain ⟨HA,E⟩ := ba ex HA E
 refine aB func167 rfl (pX [Ly, nm, lb, j7 ys] 4 _ B1 rfl Om Om) ?_
 rintro e _ ⟨A2, m2, c2, rfl, R2, ex⟩
 refine aU ?_
 obtain ⟨HA,E⟩ := ba ex HA E
 have H2 := R2.bs; have Vw := H2.1
 refine aB func99 rfl (oY A A2 n c m2 c2 xs _ _ HA Om H2 Om) ?_
 rintro e _ ⟨A3, c3, rfl, H3, ex⟩
 replace E := E.ext ex
 refine aU ?_
 refine hret rfl ?_
 exact ⟨A3, c3, rfl, H3, E⟩
theorem iE (nm lb : ByteArray) (A B : Oa) (n c m d k : Nat) (xs ys : Lb) (w : World) (HA : Bs w A n xs) (hn : n ≤ 100000) (HB : Bs w B m ys) (hm : m ≤ 10000) (h1 : nm.size ≤ 100) (h2 : lb.size ≤ 100) (hk : k ≤ 8160) :
  Ct 136 #[.string nm, .slice A n c, .string lb, .slice B m d, .int .i64 (k : Int)] w fun e w' => ∃ A' c', e = .returned (.slice A' k c') ∧ Bs w' A' k (Hk.exp nm xs lb ys k) ∧ k ≤ c' ∧ Ext w w' := by
 have E := Ext.refl w
 have hyl := HB.1
 have hbl := Wire.lD 2 k
 have hl : (cat [j7 (Wire.be 2 k), Ly, nm, lb, j7 ys]).length ≤ 11000 := by
  simp only [nf, List.length_append, oh nm, oh lb, AA, show (sb Ly).length = 7 from rfl, show (cat []).length = 0 from rfl]; omega
 refine ai 32 func136 rfl rfl rfl rfl ?_
 intro _ hret
 refine aU ?_
 refine aB func131 rfl (gT none 0 0 2 k [] _ (Bs.nil _ _) Om Om Om) ?_
 rintro e _ ⟨_, _, rfl, R1, ex⟩
 obtain ⟨HA,HB,E⟩ := bC ex HA HB E
 have H1 := R1.bs
 refine au 8 ?_
 refine ak (iZ rfl H1 Tn.u Tn.u Tn.u) ?_
 refine au 3 ?_
 refine ak (iZ rfl HB Tn.u Tn.u Tn.u) ?_
 refine ag (aK (z := .string ⟨#[]⟩) Tn.u Kr rfl rfl rfl rfl rfl) rfl ?_
 rintro _ _ ⟨_, rfl, B2, _, ex⟩
 obtain ⟨HA,E⟩ := ba ex HA E
 refine aB func167 rfl (pX [j7 (Wire.be 2 k), Ly, nm, lb, j7 ys] 5 _ B2 rfl Om Om) ?_
 rintro e _ ⟨A3, m3, c3, rfl, R3, ex⟩
 obtain ⟨HA,E⟩ := ba ex HA E
 have H3 := R3.bs; have Vx := H3.1
 refine aU ?_
 refine aB func191 rfl (qq A A3 n c m3 c3 k xs _ _ HA Om H3 Om hk) ?_
 rintro e _ ⟨A4, c4, rfl, H4, Vw, ex⟩
 replace E := E.ext ex
 refine aU ?_
 refine hret rfl ?_
 exact ⟨A4, c4, rfl, H4, Vw, E⟩
end
end Go.Proofs.YtgfafidlkldeaaaGreat
