/- sched's transcripts, tags, locks and exports, and the reference's: what they hand back; the laws SchedTags, SchedExports. -/
import Derived.Test.YtgfafidlkldeaaaGreatMsZ
import Derived.Test.YtgfafidlkldeaaaGreatBigC
import Derived.Test.YtgfafidlkldeaaaGreatNdP
import Derived.Test.YtgfafidlkldeaaaGreatShaBits
import Derived.Sort.LoopGhostIn
import Derived.Test.YtgfafidlkldeaaaGreatFieldB
import Derived.Test.YtgfafidlkldeaaaGreatWireR
import Derived.Lib.AppendStr
import Derived.Test.YtgfafidlkldeaaaGreatFieldQ
import Derived.Test.YtgfafidlkldeaaaGreatVc7
import Derived.Test.YtgfafidlkldeaaaGreatMacB
set_option linter.unusedVariables false
set_option linter.unusedSimpArgs false
set_option maxHeartbeats 4000000
set_option maxRecDepth 4000
namespace Go.Proofs.YtgfafidlkldeaaaGreat
variable {C args cs ds lb : Array Value} {s : ByteArray} {body c x : Code} {Q : Exit → Act → World → Prop} {h5 : Hd} {z : Int} {gs seed ts ys : Lb} {l l' : List (List UInt8)} {ss : List ByteArray} {S : List Nat} {b b1 b2 base g i id j k m n y : Nat} {hd : Nat → Hd} {N : Nd} {A : Oa} {P : Program} {Vt t : TypeId} {W' w w' : World}
section
open Go.RowKit Tryz
attribute [local irreducible] Y Ef WL WC WK WQ WM cv WN WF cZ WJ gI
theorem xJ (A : Oa) (n c : Nat) (xs : Lb) (w : World) (HA : Bs w A n xs) (hn : n ≤ 35184372088832) :
  Ct 100 #[.slice A n c] w fun e w' => ∃ A' c', e = .returned (.slice A' n c') ∧ Row w' w.heap.size 5 A' n c' (xs.map bv) ∧ Ext w w' := by
 refine ai 8 func100 rfl rfl rfl rfl ?_;intro _ hret;refine au 9 ?_;refine al (pD rfl rfl Tn.u) ?_;refine aU ?_;refine bB rfl (fun Vq => ?_) (fun Vq => ?_)
 ·refine aU ?_;refine hret rfl ?_;obtain rfl : A = none := by cases A <;> first | rfl | cases Vq
  have Vr : n = 0 := by
   rcases Nat.eq_zero_or_pos n with h | h
   ·exact h
   obtain ⟨b, off, hA, _⟩ := HA.get h;cases hA
  subst Vr;have hx : xs = [] := List.eq_nil_of_length_eq_zero HA.1;subst hx;exact ⟨none, 0, rfl, Row.empty _ _ _, Ext.refl _⟩
 refine aU ?_;refine ag (aF (z := .int .u8 0) Tn.u Kr rfl rfl rfl rfl rfl) rfl ?_;rintro _ w1 ⟨g1, rfl, B1, Vs, ex⟩;have E1 := ex; have R1 : Row w1 w.heap.size 5 (some ⟨g1, 0, none⟩) 0 0 [] := Row.new B1 Vs rfl (by unfold maxLen; omega);refine aU ?_;refine ag (iF rfl rfl bT R1 (HA.ext E1).2 (by rw [List.length_map, HA.1]) aJ Om Om E1.size) rfl ?_;rintro _ _ ⟨A2, c2, rfl, R2, be, _, _⟩;have E2 := E1.trans be;refine aU ?_;refine hret rfl ?_;exact ⟨A2, c2, rfl, R2, E2⟩
def m6 (base : Nat) (w : World) (cs : Array Value) (l : cw) : Prop := jT (fun h xs => Row w base 5 h.A h.n h.c (xs.map bv)) cs l
section
variable {l : cw} {n : Node}
theorem m6.lower (h : m6 base w cs l) (hb : b ≤ base) : m6 b w cs l := jT.imp h fun _ _ r => Row.lower r hb
theorem m6.bk (h : m6 base w cs l) (c : aE S w w') (hS : ∀ g ∈ S, g < base := by first | (simp; done) | (simp; omega)) : m6 base w' cs l := jT.imp h fun _ _ r => Row.bk r c hS
end
/-! A leaf's five slices, taken one behind the other through pointers. -/
def Hd.v (h : Hd) : Value := .slice h.A h.n h.c
def qu (i : Nat) : Nat := if i < 3 then i else i + 1
def Qx (g : Nat) : Array Value := #[.pointer (some ⟨g, 0, none⟩), .pointer (some ⟨g, 1, none⟩), .pointer (some ⟨g, 2, none⟩), .pointer (some ⟨g, 4, none⟩), .pointer (some ⟨g, 5, none⟩)]
theorem Oj : ∀ i, i < 5 → (Qx g)[i]? = some (.pointer (some ⟨g, qu i, none⟩))
 | 0, _ => rfl
 | 1, _ => rfl
 | 2, _ => rfl
 | 3, _ => rfl
 | 4, _ => rfl
 | i + 5, h => absurd h Om
theorem DJ (h : i < 5) : qu i < 6 := by unfold qu; split <;> omega
theorem Jy : qu i ≠ 3 := by unfold qu; split <;> omega
theorem Ip (h : qu i = qu j) : i = j := by unfold qu at h; split at h <;> split at h <;> omega
def Ar (w : World) (base : Nat) (C : Array Value) (s : Nat) (hd : Nat → Hd) (xs : Nat → List UInt8) (k : Nat) : Prop :=
 C.size = 6 ∧ C[3]? = some (.int .u8 (s : Int)) ∧ ∀ i, i < 5 → ∃ h : Hd, C[qu i]? = some h.v ∧ (i < k → Row w base 5 h.A h.n h.c ((xs i).map bv)) ∧ (k ≤ i → h = hd i)
section
variable {s : Nat} {xs : Nat → List UInt8}
theorem Ar.ext (h : Ar w base C s hd xs k) (e : Ext w w') : Ar w' base C s hd xs k :=
 ⟨h.1, h.2.1, fun i hi => by obtain ⟨q, h1, h2, h3⟩ := h.2.2 i hi; exact ⟨q, h1, fun hk => Row.ext (h2 hk) e, h3⟩⟩
theorem Ar.bk (h : Ar w base C s hd xs k) (c : aE S w w') (hS : ∀ g ∈ S, g < base) : Ar w' base C s hd xs k :=
 ⟨h.1, h.2.1, fun i hi => by obtain ⟨q, h1, h2, h3⟩ := h.2.2 i hi; exact ⟨q, h1, fun hk => Row.bk (h2 hk) c hS, h3⟩⟩
theorem Ar.step {c : Nat} (h : Ar w base C s hd xs k) (hk : k < 5) (R : Row w base 5 A n c ((xs k).map bv)) : Ar w base (C.setIfInBounds (qu k) (.slice A n c)) s hd xs (k + 1) := by
 obtain ⟨h1, h2, h3⟩ := h;refine ⟨by simp [h1], ?_, fun i hi => ?_⟩
 ·rw [Array.getElem?_setIfInBounds, if_neg Jy]; exact h2
 by_cases e : i = k
 ·subst e;refine ⟨⟨A, n, c⟩, ?_, fun _ => R, fun h => by omega⟩;rw [Array.getElem?_setIfInBounds, if_pos rfl, if_pos (by rw [h1]; exact DJ hi)]; rfl
 obtain ⟨q, q1, q2, q3⟩ := h3 i hi;refine ⟨q, ?_, fun h => q2 Om, fun h => q3 Om⟩;rw [Array.getElem?_setIfInBounds, if_neg (fun h => e (Ip h).symm)]; exact q1
end
def cw.xs (l : cw) : Nat → List UInt8
 | 0 => l.box
 | 1 => l.sign
 | 2 => l.ident
 | 3 => l.parent
 | _ => l.sig
def O0 (h0 h1 h2 h4 h5 : Hd) : Nat → Hd
 | 0 => h0
 | 1 => h1
 | 2 => h2
 | 3 => h4
 | _ => h5
theorem Ar.start {l : cw} {h0 h1 h2 h4 : Hd} : Ar w base (ie h0 h1 h2 l.src h4 h5) l.src (O0 h0 h1 h2 h4 h5) l.xs 0 :=
 ⟨rfl, rfl, fun i hi => ⟨O0 h0 h1 h2 h4 h5 i, (match i, hi with | 0, _ => rfl | 1, _ => rfl | 2, _ => rfl | 3, _ => rfl | 4, _ => rfl | i + 5, h => absurd h Om), fun h => absurd h (Nat.not_lt_zero _), fun _ => rfl⟩⟩
theorem Ar.done {l : cw} (h : Ar w base C l.src hd l.xs 5) (hs : l.src < 256) : m6 base w C l := by
 obtain ⟨h1, h2, h3⟩ := h;obtain ⟨a0, e0, r0, _⟩ := h3 0 Om;obtain ⟨a1, e1, r1, _⟩ := h3 1 Om;obtain ⟨a2, e2, r2, _⟩ := h3 2 Om;obtain ⟨a4, e4, r4, _⟩ := h3 3 Om;obtain ⟨a5, e5, r5, _⟩ := h3 4 Om;refine ⟨a0, a1, a2, a4, a5, ?_, hs, r0 Om, r1 Om, r2 Om, r4 Om, r5 Om⟩;apply Array.ext_getElem?;intro i
 match i with
 | 0 => exact e0
 | 1 => exact e1
 | 2 => exact e2
 | 3 => exact h2
 | 4 => exact e4
 | 5 => exact e5
 | i + 6 => rw [Array.getElem?_eq_none Om, Array.getElem?_eq_none (show 6 ≤ i + 6 by omega)]
theorem wR {l : cw} (w : World) (H : eE w cs l) (hf : l.Fit) :
  Ct 139 #[.agg cs] w fun e w' => ∃ cs', e = .returned (.agg cs') ∧ m6 w.heap.size w' cs' l ∧ Ext w w' := by
 obtain ⟨h0, h1, h2, h4, h5, rfl, hs, b0, b1, b2, b4, b5⟩ := H
 have hb : ∀ i, i < 5 → py w (O0 h0 h1 h2 h4 h5 i) (l.xs i) ∧ (l.xs i).length ≤ 1000000 := fun i hi => by
  obtain ⟨f0, f1, f2, f4, f5⟩ := hf
  match i, hi with
  | 0, _ => exact ⟨b0, f0⟩
  | 1, _ => exact ⟨b1, f1⟩
  | 2, _ => exact ⟨b2, f2⟩
  | 3, _ => exact ⟨b4, f4⟩
  | 4, _ => exact ⟨b5, f5⟩
 have F := aE.refl [] w;refine aK (s := 6) 24 func139 rfl rfl rfl underlying27 rfl Kr rfl ?_;intro _ hret;refine aU ?_;intro _ Vr B1 _ ex;have Vz := B1.lt;replace F := F.ext ex;refine aU ?_;intro _ Vt B2 Vs ex;have VA := B2.lt;replace F := F.grow ex Vs;replace B1 := B1.grow ex Vs;refine aU ?_;refine ag (aF (z := .pointer none) Tn.u Kr rfl rfl rfl rfl rfl) rfl ?_;rintro _ w1 ⟨Vu, rfl, Vq, _, ex⟩;obtain ⟨F,B1,B2⟩ := bF ex F B1 B2;replace Vq : ao w1 Vu 157 (Qx Vr) := Vq;refine aU ?_;have F0 := F; have Vv := B2; have z1 := F.size; have m1 := B1.lt; have m2 := B2.lt;have G := aE.refl [Vr] w1;have M0 : Ar w1 w1.heap.size (ie h0 h1 h2 l.src h4 h5) l.src (O0 h0 h1 h2 h4 h5) l.xs 0 := Ar.start;refine aD (fun n' L wr => ∃ (k : Nat) (C : Array Value), L = [(1, .pointer (some ⟨Vr, 0, none⟩)), (2, .pointer (some ⟨Vt, 0, none⟩)), (10, .slice (some ⟨Vu, 0, none⟩) 5 5), (11, .int .i64 5), (12, .int .i64 (k : Int))] ∧ n' = 5 - k ∧ (k ≤ 5 ∧ aE [Vr] w1 wr ∧ ao wr Vr 27 C ∧ ao wr Vu 157 (Qx Vr) ∧ Ar wr w1.heap.size C l.src (O0 h0 h1 h2 h4 h5) l.xs k)) _ _ ⟨0, ie h0 h1 h2 l.src h4 h5, rfl, rfl, by omega, G, B1, Vq, M0⟩ Ls ?_;rintro _ n' L wr ⟨k, C, rfl, rfl, _, G, B1, Vq, M⟩ Vw;refine aU ?_;refine ak rfl (fun Vx => ?_) (fun Vx => ?_)
 ·have hlt : k < 5 := by omega
  obtain ⟨⟨A, n, c⟩, hC, _, hq⟩ := M.2.2 k hlt;replace hC : C[qu k]? = some (.slice A n c) := hC;obtain ⟨hbs, hfl⟩ := hb k hlt;rw [← hq (Nat.le_refl k)] at hbs;replace hbs : Bs w A n (l.xs k) := hbs;have hbl := hbs.1;have EX : Ext w wr := ((F0.mono (S' := [Vt, Vr]) (by simp)).bk G).aS So;have hz := G.size;refine au 7 ?_;refine al (af rfl Tn.u rfl (show _ = some (.pointer (some ⟨Vr, qu k, none⟩)) from by rw [Nat.zero_add]; exact Vq.get (Oj k hlt))) ?_;refine au 7 ?_;refine al (af rfl Tn.u rfl (B1.get hC)) ?_;refine aC func100 rfl (xJ A n c _ _ (hbs.ext EX) Om) ?_;rintro e _ ⟨A4, c4, rfl, R4, ex⟩;obtain ⟨G,B1,Vq,M⟩ := bU ex G B1 Vq M;replace R4 := R4.lower hz;refine au 2 ?_;refine ag (aq rfl rfl rfl Kr B1 (by rw [M.1]; exact DJ hlt)) rfl ?_;rintro _ _ ⟨rfl, D1, cg⟩;replace M := (M.step hlt R4).bk (aE.one cg) So; replace G := G.bk (aE.one cg); replace Vq := Vq.bk (aE.one cg) So;refine au 7 ?_;refine ae ?_;refine Vw _ _ ⟨k + 1, C.setIfInBounds (qu k) (.slice A4 n c4), rfl, rfl, by omega, G, D1, Vq, M⟩ Om Ls
 obtain rfl : k = 5 := by omega
 have B2 := Vv.bk G So;have LR := M.done hs;have Vy := LR;obtain ⟨i0, i1, i2, i4, i5, rfl, _⟩ := Vy;refine aU ?_;intro _ D2 cg;have F6 := ((F0.mono (S' := [Vt, Vr]) (by simp)).bk G).bk (aE.one cg);refine aU ?_;refine hret rfl (D2.congr (cs' := ie i0 i1 i2 l.src i4 i5) rfl) rfl ?_;exact ⟨_, rfl, (LR.bk (aE.one cg) So).lower Om, F6.aS So⟩
end
section
open Go.RowKit Tryz
attribute [local irreducible] Y Ef WL WC WK WQ WM cv WN WF cZ WJ gI
open Wire Nd
theorem wX (h : ao w g 5 cs) (hc : cs = ((List.replicate 64 (0 : UInt8)).map bv).toArray) : Bs w (some ⟨g, 0, none⟩) 64 (List.replicate 64 0) :=
 bh (h.congr hc) (by rfl)
theorem Jn {c : Nat} {xs : Lb} {B : Oa} {d : Nat} (w : World) (HA : Bs w A n xs) (HB : Bs w B m ts) (hn : n ≤ 100000) (hs : s.size ≤ 1000) (hm : m ≤ 90000) (h : kh xs (Sg.text s.data.toList ts) = (ys, y)) :
  Ct 63 #[.slice A n c, .string s, .slice B m d] w fun e w' => ∃ A' k c', e = .returned (.tuple #[.slice A' k c', .int .u8 (y : Int)]) ∧ Bn w.heap.size w' A' k ys ∧ k ≤ c' ∧ Ext w w' :=
 (vi A n c xs s B m d ts w HA HB hn hs hm).mono fun _ _ ⟨A', k, c', h1, h2, h3, h4⟩ => ⟨A', k, c', by rw [h1, h], by rw [h] at h2; exact h2, h3, h4⟩
def np (k : Nat) (w : World) (cs : Array Value) (l : cw) : Prop := jT (fun h xs => Fb k w h.A h.n xs ∧ h.n ≤ h.c) cs l
def cw.put (l : cw) (s : Lb) : cw := ⟨l.box, l.sign, l.ident, l.src, l.parent, s⟩
def lr (l : cw) : cw := l.put (List.replicate 64 0)
def jv (l : cw) (seed gs : Lb) (z : Int) : cw × Nat :=
 if ¬ aI (lr l) then (cw.zero, 3)
 else if ¬ rn l z then (cw.zero, 1)
 else if (kh seed (Sg.text M8.data.toList (iB l gs z))).2 ≠ 0 then (cw.zero, (kh seed (Sg.text M8.data.toList (iB l gs z))).2)
 else (l.put (kh seed (Sg.text M8.data.toList (iB l gs z))).1, 0)
theorem LV {s t : Lb} (h : kh s t = (ys, y)) (hy : y = 0) : ys.length = 64 := by
 unfold kh at h;split at h
 ·injection h with h _; rw [← h]; exact Sg.kL _ _
 injection h with _ h; omega
theorem Bs.GD {xs : Lb} (H : Bs w A n xs) (B : ao w b t cs) (hn : cs.size < n) : ∀ o, A ≠ some ⟨b, o, none⟩ := fun o e => by
 obtain ⟨b', off, hA, _, hc⟩ := H.2.get (k := n - 1) (by rw [List.length_map, H.1]; omega);rw [hA] at e;injection e with e
 injection e with e1 e2
 subst e1;rw [B.cell, Array.getElem?_eq_none Om] at hc;cases hc
section
variable {l : cw} {i0 i1 i2 i4 i5 h : Hd} {xs : Lb}
theorem m6.inj (h : m6 base w (ie i0 i1 i2 l.src i4 i5) l) : l.src < 256 ∧ Row w base 5 i0.A i0.n i0.c (l.box.map bv) ∧ Row w base 5 i1.A i1.n i1.c (l.sign.map bv) ∧ Row w base 5 i2.A i2.n i2.c (l.ident.map bv) ∧ Row w base 5 i4.A i4.n i4.c (l.parent.map bv) := by
 obtain ⟨j0, j1, j2, j4, j5, e, hs, q0, q1, q2, q4, q5⟩ := h
 have e0 : j0 = i0 ∧ j1 = i1 ∧ j2 = i2 ∧ j4 = i4 := by
  unfold ie at e;simp only [Array.mk.injEq, List.cons.injEq, Value.slice.injEq, and_true, true_and] at e;obtain ⟨a, b, c, d, f⟩ := e;refine ⟨?_, ?_, ?_, ?_⟩
  ·cases i0; cases j0; simp_all
  ·cases i1; cases j1; simp_all
  ·cases i2; cases j2; simp_all
  cases i4; cases j4; simp_all
 obtain ⟨rfl, rfl, rfl, rfl⟩ := e0;exact ⟨hs, q0, q1, q2, q4⟩
theorem pY.mk (hs : l.src < 256) (r0 : Row w base 5 i0.A i0.n i0.c (l.box.map bv)) (r1 : Row w base 5 i1.A i1.n i1.c (l.sign.map bv)) (r2 : Row w base 5 i2.A i2.n i2.c (l.ident.map bv)) (r4 : Row w base 5 i4.A i4.n i4.c (l.parent.map bv)) (b : Bs w h.A h.n xs) (hc : h.n ≤ h.c) : pY w (ie i0 i1 i2 l.src i4 h) (l.put xs) :=
 ⟨i0, i1, i2, i4, h, rfl, hs, ⟨r0.bs, r0.cap⟩, ⟨r1.bs, r1.cap⟩, ⟨r2.bs, r2.cap⟩, ⟨r4.bs, r4.cap⟩, b, hc⟩
theorem np.mk (hs : l.src < 256) (r0 : Row w base 5 i0.A i0.n i0.c (l.box.map bv)) (r1 : Row w base 5 i1.A i1.n i1.c (l.sign.map bv)) (r2 : Row w base 5 i2.A i2.n i2.c (l.ident.map bv)) (r4 : Row w base 5 i4.A i4.n i4.c (l.parent.map bv)) (hk : k ≤ base) (b : Fb k w h.A h.n xs) (hc : h.n ≤ h.c) : np k w (ie i0 i1 i2 l.src i4 h) (l.put xs) :=
 ⟨i0, i1, i2, i4, h, rfl, hs, ⟨r0.fb.mono hk, r0.cap⟩, ⟨r1.fb.mono hk, r1.cap⟩, ⟨r2.fb.mono hk, r2.cap⟩, ⟨r4.fb.mono hk, r4.cap⟩, b, hc⟩
def Nz (i : Nat) (w : World) (cs : Array Value) : Prop := ∀ A n c, cs[i]? = some (.slice A n c) → ∀ b o, A = some ⟨b, o, none⟩ → ∃ cur, ao w b 5 cur
theorem Nz.ext {w w' : World} {cs : Array Value} (h : Nz i w cs) (k : Ext w w') : Nz i w' cs := fun A n c e b o ha => by obtain ⟨cur, hb⟩ := h A n c e b o ha; exact ⟨cur, hb.ext k⟩
theorem TD (w : World) : Nz 2 w jd := fun A n c e b o ha => by have e' : some (Value.slice none 0 0) = some (.slice A n c) := e; injection e' with e'; injection e' with e1 _ _; rw [← e1] at ha; cases ha
theorem Vl {s : Nat} (r : Row w base 5 i2.A i2.n i2.c (xs.map bv)) : Nz 2 w (ie i0 i1 i2 s i4 h5) := fun A n c e b o ha => by
 have e' : some (Value.slice i2.A i2.n i2.c) = some (.slice A n c) := e;injection e' with e'
 injection e' with e1 _ _
 rw [← e1] at ha
 rcases r.2 with ⟨hv, _⟩ | ⟨g, cap, cur, hv, _, hb, _⟩
 ·injection hv with hv; rw [hv] at ha; cases ha
 injection hv with hv; rw [hv] at ha; injection ha with ha; injection ha with ha; subst ha; exact ⟨cur, hb⟩
theorem np.zero (k : Nat) (w : World) : np k w jd cw.zero := ⟨an, an, an, an, an, rfl, by decide, ⟨Fb.nil _ _ _, Nat.le_refl _⟩, ⟨Fb.nil _ _ _, Nat.le_refl _⟩, ⟨Fb.nil _ _ _, Nat.le_refl _⟩, ⟨Fb.nil _ _ _, Nat.le_refl _⟩, Fb.nil _ _ _, Nat.le_refl _⟩
end
theorem vY {l : cw} {c : Nat} {B : Oa} {d : Nat} (w : World) (H : eE w cs l) (hf : l.Fit) (hU : (ey l).length ≤ 80000) (HA : Bs w A n seed) (hn : n ≤ 100) (HB : Bs w B m gs) (hm : m ≤ 100) :
  Ct 68 #[.agg cs, .slice A n c, .slice B m d, .int .i64 z] w fun e w' => ∃ cs', e = .returned (.tuple #[.agg cs', .int .u8 (((jv l seed gs z).2 : Nat) : Int)]) ∧ np w.heap.size w' cs' (jv l seed gs z).1 ∧ Nz 2 w' cs' ∧ Ext w w' := by
 have HL := H;obtain ⟨h0, h1, h2, h4, h5, rfl, hs, _⟩ := H;have hT := Lf (z := z) hU (show gs.length ≤ 100 by rw [HB.1]; exact hm)
 have fw : (lr l).Fit := ⟨hf.1, hf.2.1, hf.2.2.1, hf.2.2.2.1, (show (List.replicate 64 (0 : UInt8)).length ≤ 1000000 by rw [List.length_replicate]; omega)⟩
 obtain ⟨ys, y, hE⟩ : ∃ ys y, kh seed (Sg.text M8.data.toList (iB l gs z)) = (ys, y) := ⟨_, _, rfl⟩
 have F := aE.refl [] w;refine du (s := 6) 45 func68 rfl rfl rfl underlying27 rfl Kr rfl ?_;intro _ hret;refine aU ?_;intro _ Vv B4 _ ex;have VJ := B4.lt;replace F := F.ext ex;refine aU ?_;intro _ Vw B8 Vq ex;have VK := B8.lt;replace F := F.grow ex Vq;replace B4 := B4.grow ex Vq;replace F := F.mono (S' := [Vw, Vv]) (by simp);refine aU ?_;have VD := HL.ext (F.aS So); have z1 := F.size; have m1 := B4.lt; have n1 := B8.lt;refine aC func139 rfl (wR _ VD hf) ?_;rintro e _ ⟨_, rfl, LR, ex⟩;obtain ⟨F,B4,B8⟩ := bF ex F B4 B8;have VE := LR; obtain ⟨i0, i1, i2, i4, i5, rfl, _⟩ := VE; obtain ⟨_, r0, r1, r2, r4⟩ := LR.inj;refine aU ?_;intro _ D cg;have ex := aE.one cg;clear cg;obtain ⟨F,B8,r0,r1,r2,r4⟩ := nQ ex F B8 r0 r1 r2 r4;replace B4 := D; clear D;replace B4 := B4.congr (cs' := ie i0 i1 i2 l.src i4 i5) rfl;refine aU ?_;have m2 := B4.lt; have n2 := B8.lt;refine ag (dD (n := 64) (z := .int .u8 0) (bytes := 1) rfl rfl Tn.u Kr rfl rfl rfl rfl Om Om) rfl ?_;rintro _ w3 ⟨g5, rfl, B5, _, ex⟩;obtain ⟨F,B4,B8,r0,r1,r2,r4⟩ := iO ex F B4 B8 r0 r1 r2 r4;have J5 : Kp w3.heap.size [Vw, Vv] (fun w => Bs w (some ⟨g5, 0, none⟩) 64 (List.replicate 64 0)) w3 := Kp.bs (wX B5 (by rfl)) (fun _ g hg o e => by simp at hg e; omega);refine aU ?_;intro _ D cg;have ex := aE.one cg;clear cg;obtain ⟨F,B8,r0,r1,r2,r4,J5⟩ := Mv ex F B8 r0 r1 r2 r4 J5;replace B4 := D; clear D;replace B4 := B4.congr (cs' := ie i0 i1 i2 l.src i4 ⟨some ⟨g5, 0, none⟩, 64, 64⟩) rfl;refine aU ?_;refine aC func140 rfl (mX _ (pY.mk (h := ⟨some ⟨g5, 0, none⟩, 64, 64⟩) hs r0 r1 r2 r4 J5.out (Nat.le_refl 64)).at) ?_;rintro e _ ⟨rfl, ex⟩;obtain ⟨F,B4,B8,r0,r1,r2,r4,J5⟩ := NZ ex F B4 B8 r0 r1 r2 r4 J5;refine aU ?_;refine bB rfl (fun Vx => ?_) (fun Vx => ?_)
 ·refine au 2 ?_;refine al (ar rfl (cells := jd) Kr) ?_;refine aU ?_;intro _ D cg;have ex := aE.one cg;clear cg;replace F := F.bk ex;replace B8 := D; clear D;replace B8 := B8.congr (cs' := jd) rfl;refine aU ?_;refine hret rfl rfl B8 rfl ?_;have hno : ¬ aI (lr l) := by simpa [lr] using Vx
  have e1 : jv l seed gs z = (cw.zero, 3) := by unfold jv; rw [if_pos hno]
  rw [e1]; exact ⟨jd, rfl, np.zero _ _, TD _, F.aS So⟩
 have okw : aI (lr l) := by simpa [lr] using Vx
 refine aU ?_;have X5 := F.aS So; have m5 := B4.lt; have n5 := B8.lt;refine aC func141 rfl (AR (l := lr l) _ (pY.mk (h := ⟨some ⟨g5, 0, none⟩, 64, 64⟩) hs r0 r1 r2 r4 J5.out (Nat.le_refl 64)).at fw (HB.ext X5) Om) ?_;rintro e _ ⟨_, VF, _, rfl, VC, ex⟩;obtain ⟨F,B4,B8,r0,r1,r2,r4⟩ := iO ex F B4 B8 r0 r1 r2 r4;have VG : (iB l gs z).length = VF := VC.bs.1;refine aU ?_;refine bB rfl (fun Vy => ?_) (fun Vy => ?_)
 ·refine au 2 ?_;refine al (ar rfl (cells := jd) Kr) ?_;refine aU ?_;intro _ D cg;have ex := aE.one cg;clear cg;replace F := F.bk ex;replace B8 := D; clear D;replace B8 := B8.congr (cs' := jd) rfl;refine aU ?_;refine hret rfl rfl B8 rfl ?_
  have hno : ¬ rn l z := (show ¬ rn (lr l) z from by simpa using Vy)
  have e1 : jv l seed gs z = (cw.zero, 1) := by unfold jv; rw [if_neg (fun h => h okw), if_pos hno]
  rw [e1]; exact ⟨jd, rfl, np.zero _ _, TD _, F.aS So⟩
 have oka : rn l z := (show rn (lr l) z from by simpa using Vy)
 refine aU ?_;have X8 := F.aS So; have z8 := F.size; have m8 := B4.lt; have n8 := B8.lt;refine aC func63 rfl (Jn _ (HA.ext X8) (show Bs _ _ _ (iB l gs z) from VC.bs) Om GG Om hE) ?_;rintro e w6 ⟨Vt, Vr, Vz, rfl, ⟨Vu, VA⟩, VB, ex⟩;obtain ⟨F,B4,B8,r0,r1,r2,r4⟩ := iO ex F B4 B8 r0 r1 r2 r4;refine aU ?_;refine ak rfl (fun VH => ?_) (fun VH => ?_)
 ·have e1 : jv l seed gs z = (cw.zero, y) := by unfold jv; rw [hE, if_neg (fun h => h okw), if_neg (fun h => h oka), if_pos (show y ≠ 0 by omega)]
  refine au 2 ?_;refine al (ar rfl (cells := jd) Kr) ?_;refine aU ?_;intro _ D cg;have ex := aE.one cg;clear cg;replace F := F.bk ex;replace B8 := D; clear D;replace B8 := B8.congr (cs' := jd) rfl;refine aU ?_;refine hret rfl rfl B8 rfl ?_;rw [e1]; exact ⟨jd, rfl, np.zero _ _, TD _, F.aS So⟩
 have e1 : jv l seed gs z = (l.put ys, 0) := by unfold jv; rw [hE, if_neg (fun h => h okw), if_neg (fun h => h oka), if_neg (show ¬ y ≠ 0 by omega)]
 have VI : Vr = 64 := by rw [← Vu.1]; exact LV hE Om
 have Vs : Kp w6.heap.size [Vw, Vv] (fun w => Bs w Vt Vr ys) w6 := Kp.bs Vu fun _ g hg o e => by
  rcases List.mem_cons.1 hg with rfl | hg
  ·exact Vu.GD B8 (show (6 : Nat) < _ by omega) o e
  obtain rfl := List.mem_singleton.1 hg;exact Vu.GD B4 (show (6 : Nat) < _ by omega) o e
 refine aU ?_;intro _ D cg;have ex := aE.one cg;clear cg;obtain ⟨F,B8,r0,r1,r2,r4,Vs⟩ := Mv ex F B8 r0 r1 r2 r4 Vs;replace B4 := D; clear D;replace B4 := B4.congr (cs' := ie i0 i1 i2 l.src i4 ⟨Vt, Vr, Vz⟩) rfl;refine aU ?_;intro _ D cg;have ex := aE.one cg;clear cg;obtain ⟨F,r0,r1,r2,r4,Vs⟩ := nQ ex F r0 r1 r2 r4 Vs;replace B8 := D; clear D;replace B8 := B8.congr (cs' := ie i0 i1 i2 l.src i4 ⟨Vt, Vr, Vz⟩) rfl;refine aU ?_;refine hret rfl rfl B8 rfl ?_;rw [e1]; exact ⟨_, rfl, np.mk (h := ⟨Vt, Vr, Vz⟩) hs r0 r1 r2 r4 z1 ⟨Vs.out, fun _ b o e => Nat.le_trans z8 (VA b o e).1⟩ VB, Vl r2, F.aS So⟩
end
section
open Go.RowKit
section
variable {ops : Array Oper} {L : List (Nat × Value)}
theorem sB {K : Act → World → Prop} (h : ¬ LetsOut Q) : ¬ LetsOut (Exit.then K Q) := fun ⟨a, w, h'⟩ => h ⟨a, w, h'⟩
theorem EH (h : ¬ LetsOut Q) : ¬ LetsOut (Exit.inBlock b Q) := fun ⟨a, w, h'⟩ => h ⟨a, w, h'⟩
theorem Fk (h : ¬ LetsOut Q) : ¬ LetsOut (jD Q) := fun ⟨a, w, h'⟩ => h ⟨a, w, h'⟩
def WR (k n : Nat) (P : Program) (Q : Exit → Act → World → Prop) (c : Code) (N : Nd) (L : List (Nat × Value)) (w : World) : Prop := ¬ LetsOut Q → ∀ a, Fr N L a → c.wpIn (Fence.wide.inRound k) n P Q a w
theorem IG (hQ : ¬ LetsOut Q) (hd : ∀ (i : Nat) (o : Oper), ops[i]? = some o → ∀ c, o.op ≠ .defer c) : ∀ (l : List Nat) (a : Act) (w : World), wpOps P ops Q l a w → wpOpsIn (Fence.wide.inRound k) n P ops Q l a w
  | [], a, w, h => h
  | i :: rest, a, w, h => by
    have ih := fun a w => IG hQ hd rest a w;unfold wpOps at h;unfold wpOpsIn
    cases ho : ops[i]? with
    | none => rw [ho] at h; exact ih _ _ h
    | some o =>
      rw [ho] at h
      simp only at h ⊢
      by_cases hw : Region.wanted o (yielded ops a.tmps) = true
      · rw [if_pos hw] at h ⊢
        rcases h with h | h
        · refine ⟨fun _ _ => trivial, ?_⟩
          rw [show (Fence.wide.inRound k).round = some k from rfl, Oper.semAt_some k a.eval o (hd i o ho)]
          exact DX ih h
        exact absurd h.2 hQ
      rw [if_neg hw] at h ⊢
      exact ⟨fun _ _ => trivial, ih _ _ h⟩
theorem Af {l : List Oper} (h : l.all (fun o => oC o.op) = true) (i : Nat) (o : Oper) (ho : l.toArray[i]? = some o) : ∀ c, o.op ≠ .defer c := fun c e => by
 have hm : o ∈ l := by grind
 have := List.all_eq_true.1 h o hm;rw [e] at this;cases this
theorem eV {l : List Oper} (h : WL P l.toArray Q l N L w) (hd : l.all (fun o => oC o.op) = true := by kernel_rfl) : WR k n P Q (.region id l.toArray false) N L w := fun hQ a ha =>
 wpIn_region_lit (wB hQ (fun o ho c e => by
  have := List.all_eq_true.1 hd o ho;rw [e] at this
  cases this) (h a ha))
theorem QH {l : List Oper} (hd : l.all (fun o => oC o.op) = true) (hm : P.follows .mixedOrders = true) (hQ : ¬ LetsOut Q) {a : Act} (h : wpAny P .any l.toArray (jD Q) l.toArray.size (Array.replicate l.toArray.size false) a w.drew) :
  (Code.region id l.toArray true).wpIn (Fence.wide.inRound k) n P Q a w := by
 have h1 : (Code.region id l.toArray true).wpIn (Fence.wide.inRound k) n P (jD Q) a w := by refine wpIn_region_draw fun t => ?_;simp only [Region.schedule, hm, Bool.true_or, if_true];exact IG (Fk hQ) (Af hd) _ _ _ (wpAny_sound l.toArray.size t _ a _ h)
 refine wpIn_mono h1 fun e a w hq => ?_;cases e <;> first | exact hq | exact hq.elim
theorem vK {l : List Oper} (hm : P.follows .mixedOrders = true) (n' : Nat) (hn : l.length = n') (h : ∀ w', Ext w w' → w'.heap = w.heap → WM P l.toArray (jD Q) n' (Array.replicate n' false) N L w') (hd : l.all (fun o => oC o.op) = true := by kernel_rfl) : WR k n P Q (.region id l.toArray true) N L w := by intro hQ a ha;subst hn;refine QH hd hm hQ (vX _ _ _ _ ?_);rw [List.size_toArray];exact h _ (Ext.drew w) rfl a ha
theorem ji {y : Code} (h : ∀ K : Act → World → Prop, (∀ {N L w}, WR k n P Q y N L w → WK K N L w) → WR k n P (Exit.then K Q) x N L w) : WR k n P Q (.seq x y) N L w :=
 fun hQ a ha => wpIn_seq (h (y.wpIn (Fence.wide.inRound k) n P Q) (fun h => h hQ) (sB hQ) a ha)
theorem Mb {c : Operand} {y : Code} {b : Bool} (hc : ev L c = some (.bool b)) (ht : b = true → WR k n P Q x N L w) (hf : b = false → WR k n P Q y N L w) : WR k n P Q (.cond c x y) N L w :=
 fun hQ a ha => wpIn_cond_split (ha.ev hc) (fun e => ht e hQ a ha) (fun e => hf e hQ a ha)
theorem QL {c : Operand} {y : Code} {p : Prop} [Decidable p] (hc : ev L c = some (.bool (decide p))) (ht : p → WR k n P Q x N L w) (hf : ¬ p → WR k n P Q y N L w) : WR k n P Q (.cond c x y) N L w :=
 Mb hc (fun e => ht (of_decide_eq_true e)) (fun e => hf (of_decide_eq_false e))
theorem Mm (h : WQ Q .normal N L w) : WR k n P Q .skip N L w := fun _ a ha => wpIn_skip (h a ha)
theorem NF (h : WQ Q (.exit id) N L w) : WR k n P Q (.exit id) N L w := fun _ a ha => wpIn_exit (h a ha)
theorem yx (h : WR k n P (Exit.inBlock id Q) c N L w) : WR k n P Q (.block id c) N L w := fun hQ a ha => wpIn_block (h (EH hQ) a ha)
theorem MH (J : Nat → List (Nat × Value) → World → Prop) (n₀ : Nat) (L₀ : List (Nat × Value)) (h₀ : J n₀ L₀ w) (hS : mY L L₀)
  (round : ∀ (K : Act → World → Prop) (m : Nat) (L : List (Nat × Value)) (w : World), J m L w → (∀ {L1 : List (Nat × Value)} {w' : World} (n' : Nat) (L' : List (Nat × Value)), J n' L' w' → n' < m → mY L1 L' → WK K N L1 w') →
   WR k n P (Exit.then K Q) c N L w) :
  WR k n P Q (.loop c) N L w := by
 intro hQ a ha;refine wpIn_loop_ghost (fun n a w => ∃ L, Fr N L a ∧ J n L w) n₀ ⟨L₀, ha.sub hS, h₀⟩ ?_;rintro m a w ⟨L, ha, hJ⟩;exact round _ m L w hJ (fun n' L' Vq hn hin a' Vr => ⟨n', hn, L', Vr.sub hin, Vq⟩) (sB hQ) a ha
end
section
variable {L : List (Nat × Value)}
theorem yv {α : Type} {B : Nat} {Kp : World → World → Prop} {I : List α → World → Prop} {Ix : Code → List α → World → Prop} {xs : List α} {W : World} : ¬ LetsOut (Exit.inBlock b (ownPostG B Kp I Ix xs W)) := fun ⟨_, _, h⟩ => h
theorem qt {α : Type} {g : Operand} {p x r0 gf M : Nat} {Vr : String} {Vq : Array Edge} {enc : α → Value} {Kp : World → World → Prop} {S Sp : List α → Prop}
  (hn : 1 ≤ n) (hg : ev L g = some (.func (.func gf) #[] lb)) (eg : ∀ args w, (callFunc gf args).run P w = .ok (.enter gf args) w)
  (hseq : SeqStopsK Fence.wide (n - 1) P gf lb (fun v => #[enc v]) Kp S Sp M w)
  (hKt : ∀ {A B C : World}, Kp A B → Kp B C → Kp A C) (hKb : ∀ (W : World) (l : Nat) (o o' : Obj), w.heap.size ≤ l → W.heap[l]? = some o → o.isCells = false → o.isWalk = false → Kp W (W.putObj l o'))
  (I : List α → World → Prop) (hI : OwnFrom w.heap.size I) (h0 : I [] w) (hp : Nat.ble (p + 1) N.n = true) (hx : Nat.ble (x + 1) N.n = true)
  (hbody : ∀ (k : Nat) (Q' : Exit → Act → World → Prop) (pre : List α) (v : α) (W : World), I pre W → pre.length < M → (∀ {N' : Nd} {L' : List (Nat × Value)} {W' : World}, KeepsFrom w.heap.size W W' → Kp W W' → I (pre ++ [v]) W' → WQ Q' .normal N' L' W') →
   WR k (n - 1 - 1) P Q' body ⟨N.n, []⟩ ((x, enc v) :: (p, enc v) :: L) W)
  (hdone : ∀ (D : Nat) (xs : List α) (W : World), w.heap.size ≤ D → S xs → I xs W → W.heap[D]? = some (.deferred (some [])) → WQ Q .normal ⟨N.n, { target := .collected D, args := #[] } :: N.ds⟩ L W) :
  WC P Q (.rangeFunc g #[p] (.region r0 #[⟨some x, .assign (.tmp p), Vt, Vr, Vq, none⟩] false) (.block b body)) N L w := by
 intro a ha;rw [← wpIn_wide (n := n)];have Vu : p < a.tmps.size := by rw [ha.size]; exact Nat.le_of_ble_eq_true hp
 have fr : ∀ v, Fr ⟨N.n, []⟩ ((x, enc v) :: (p, enc v) :: L) { tmps := (a.tmps.setIfInBounds p (enc v)).setIfInBounds x (enc v), defers := [] } := fun v => by
  have h1 : Fr ⟨N.n, []⟩ L { tmps := a.tmps, defers := [] } := ⟨ha.size, rfl, ha.has⟩
  exact (h1.put hp (enc v)).put hx (enc v)
 refine wpIn_rangeFunc_ownG rfl hn (ha.ev hg) trivial eg hseq hKt hKb (Below.refl _ _) (fun _ => rfl) I (fun _ _ _ => False) hI (fun _ _ _ _ _ hs _ _ => hs) h0 (fun v => { tmps := (a.tmps.setIfInBounds p (enc v)).setIfInBounds x (enc v), defers := [] }) ?_ ?_ ?_ ?_
 ·intro k v W _ hK;refine wpIn_region_list ?_;refine wpListIn_plain rfl fun K' Vv => ?_;refine ⟨fun _ _ => trivial, ?_⟩;rw [show (Fence.wide.inRound k).round = some k from rfl, Oper.semAt_some k _ _ (fun c e => by cases e)];have e : ∀ ρ : Operand → Value, (execOp ρ ⟨some x, .assign (.tmp p), Vt, Vr, Vq, none⟩).run P W = .ok (.value (ρ (.tmp p))) W := fun ρ => by simp [execOp]
  rw [e];refine Vv _ _ ?_;simpa [wpListIn, Act.put, Act.eval, Vu, Exit.then] using hK
 ·intro k pre v W Vs hl;refine wpIn_block ?_;exact hbody k _ pre v W Vs hl (fun h1 h2 h3 _ _ => ⟨h1, h2, h3⟩) yv _ (fr v)
 ·intro D xs W hD hS Vs hK;exact hdone D xs W hD hS Vs hK _ ⟨ha.size, by rw [ha.defers], ha.has⟩
 grind
end
section
variable {L : List (Nat × Value)}
def qK (n : Nat) (P : Program) (Q : Exit → Act → World → Prop) (c : Code) (N : Nd) (L : List (Nat × Value)) (w : World) : Prop := ∀ a, Fr N L a → Code.rounds P c Q n a w
theorem EN (n : Nat) (h : qK n P Q c N L w) : WC P Q (.loop c) N L w := fun a ha => wp_loop_rounds n (h a ha)
theorem rU (h : ∀ K : Act → World → Prop, (∀ {N L w}, qK n P Q c N L w → WK K N L w) → WC P (Exit.then K Q) c N L w) : qK (n + 1) P Q c N L w := fun a ha =>
 h (Code.rounds P c Q n) (fun h => h) a ha
end
section
variable {f : FuncId} {fn : Func} {R : Ending → World → Prop}
theorem xv (n N : Nat) {t : Tmp} (hf : P.funcs[f]? = some fn) (hb : fn.body = some c) (hN : fn.ntmps = N) (hr : fn.results = #[.tmp t]) (hsz : Nat.ble args.size N = true)
  (h : ∀ Q : Exit → Act → World → Prop,
   (∀ {N D D' : Nat} {L : List (Nat × Value)} {w : World} {v : Value}, look L t = some v → w.heap[D]? = some (.deferred (some [])) → w.heap[D']? = some (.deferred (some [])) → D ≠ D' → R (.returned v) ((w.putObj D (.deferred none)).putObj D' (.deferred none)) → WQ Q .ret (⟨N, [{ target := .collected D, args := #[] }, { target := .collected D', args := #[] }]⟩ : Nd) L w) →
   WC P Q c ⟨N, []⟩ (gk 0 args.toList) w) : Calls P f args w R :=
 pI n N hf hb hN hsz fun Q hQ => h Q
  (fun {N D D' L w v} hv hK Vq hne hR a ha => hQ (by
   show LeavesInM _ _ _ _ _ _ a.defers _ _;rw [ha.defers];refine ⟨by simp, .inl ⟨_, _, rfl, run_takeDeferred hK, ?_⟩⟩;refine ⟨by simp, .inl ⟨_, _, rfl, run_takeDeferred ((World.putObj_heap_other (Ne.symm hne)).trans Vq), ?_⟩⟩
   exact ⟨_, results_tmp hr _ _ _, by rw [cK (ha.has _ _ hv)]; exact hR⟩))
end
theorem pA {B : Nat} {W : World} (h : aE S W W') (hS : ∀ g ∈ S, g < B) : KeepsFrom B W W' :=
 ⟨h.size, fun i o hB hi _ => (h.block i (Array.getElem?_eq_some_iff.1 hi).1 (fun hm => absurd (hS i hm) Om)).trans hi⟩
theorem wL {W : World} (h : aE S W W') (h1 : b1 < W.heap.size) (h2 : b2 < W.heap.size) (n1 : b1 ∉ S) (n2 : b2 ∉ S) : wD b1 b2 W W' :=
 ⟨h.size, h.block b1 h1 n1, h.block b2 h2 n2⟩
end
section
open Go.RowKit
attribute [local irreducible] Y Ef WL WC WK WQ WM cv WN WF cZ WJ gI WR qK
open Wire Nd M20
def OU (w : World) (cs : Array Value) (x : jq) : Prop := fX w cs x ∧ ∀ A n c, cs[6]? = some (.slice A n c) → n ≤ c
end
section
open Go.RowKit
attribute [local irreducible] Y Ef WL WC WK WQ WM cv WN WF cZ WJ gI
open Wire Nd
theorem xq {l L : cw} {c : Nat} {B : Oa} {d : Nat} (w : World) (H : eE w cs l) (hf : l.Fit) (hU : (ey l).length ≤ 80000) (HA : Bs w A n seed) (hn : n ≤ 100) (HB : Bs w B m gs) (hm : m ≤ 100) (hX : jv l seed gs z = (L, y)) :
  Ct 68 #[.agg cs, .slice A n c, .slice B m d, .int .i64 z] w fun e w' => ∃ cs', e = .returned (.tuple #[.agg cs', .int .u8 (y : Int)]) ∧ np w.heap.size w' cs' L ∧ Nz 2 w' cs' ∧ Ext w w' :=
 (vY w H hf hU HA hn HB hm).mono fun _ _ ⟨cs', h1, h2, h4, h3⟩ => ⟨cs', by rw [h1, hX], by rw [hX] at h2; exact h2, h4, h3⟩
theorem II {l : cw} (okw : aI (lr l)) (ha : rn l z) (Vq : seed.length = 32) : jv l seed gs z = (l.put (Sg.sig seed (Sg.text M8.data.toList (iB l gs z))), 0) := by
 have e : kh seed (Sg.text M8.data.toList (iB l gs z)) = (Sg.sig seed (Sg.text M8.data.toList (iB l gs z)), 0) := by unfold kh; rw [if_pos Vq]
 unfold jv;rw [if_neg (fun h => h okw), if_neg (fun h => h ha), e, if_neg (fun h => h rfl)]
theorem Cg {l : cw} {s : Lb} (okw : aI (lr l)) (hs : s.length = 64) : aI (l.put s) := by obtain ⟨o1, o2, _, o4⟩ := okw;exact ⟨o1, o2, hs, o4⟩
end
section
open Go.RowKit Tryz
section
open Go.Lib
variable {L : List (Nat × Value)} {ty u e : TypeId} {x y : Operand}
theorem FM {c : Nat} {xs : List Value} (hx : ev L x = some (.slice A n c)) (hy : ev L y = some (.string s)) (ht : P.underlying t = some (.slice e)) (hu : P.underlying u = some .string) (hi : (P.info? e).map (fun i => (i.zero, i.size, i.bytes)) = some (some (.int .u8 0), 1, 1)) (hown : Row w base e A n c xs) (hl : n + s.size ≤ 1000000) (hbase : base ≤ w.heap.size) :
    Ef P L w (.call { callee := .builtin .append, args := #[x, y], argTypes := #[t, u] }) ty fun v w' => ∃ A' c', v = .slice A' (n + s.size) c' ∧ Row w' base e A' (n + s.size) c' (xs ++ s.data.toList.map bv) ∧ Below base w w' := Ef.run fun ρ hρ => by
  cases hq : P.info? e with
  | none => rw [hq] at hi; cases hi
  | some i =>
    rw [hq] at hi
    simp only [Option.map_some, Option.some.injEq, Prod.mk.injEq] at hi
    obtain ⟨h1, h2, h3⟩ := hi
    obtain ⟨v', w', hrun, h4, h5, _⟩ := run_append_own_string (P := P) w base t u ty e i ht hu hq h1 h2 h3 _ n xs hown s (by unfold maxLen; omega) Om hbase
    obtain ⟨A', c', rfl⟩ := qn h4
    exact ⟨_, w', ⟨A', c', rfl, h4, (Below.refl base w).grown h5 hbase fun k hk => (World.ownsRow.lt hown k hk).1⟩, fun _ _ _ _ => by simp [execOp, resolve, invoke, builtin, hρ _ _ hx, hρ _ _ hy, hrun]⟩
end
attribute [local irreducible] Y Ef WL WC WK WQ WM cv
namespace Hk
def sb (s : ByteArray) : List UInt8 := s.data.toList
theorem ql (s : ByteArray) : (sb s).length = s.size := by unfold sb; rw [Array.length_toList]; rfl
def cat (ss : List ByteArray) : List UInt8 := ss.flatMap sb
theorem oh (s : ByteArray) (ss : List ByteArray) : cat (s :: ss) = sb s ++ cat ss := rfl
theorem xU (h : i < ss.length) : cat (ss.take (i + 1)) = cat (ss.take i) ++ sb ss[i] := by rw [List.take_succ_eq_append_getElem h]; unfold cat; rw [List.flatMap_append]; simp
theorem Rr (h : i < ss.length) : (cat (ss.take i)).length + ss[i].size ≤ (cat ss).length := by
 have h1 : cat ss = cat (ss.take (i + 1)) ++ cat (ss.drop (i + 1)) := by unfold cat; rw [← List.flatMap_append, List.take_append_drop]
 rw [h1, xU h, List.length_append, List.length_append, ql]; omega
theorem Dw (xs : Lb) : sb (lx xs) = xs := rfl
def OG : ByteArray := ⟨#[72, 80, 75, 69, 45, 118, 49]⟩
def ext (nm : ByteArray) (xs : Lb) (lb : ByteArray) (ys : Lb) : List UInt8 := Mac.tag xs (cat [OG, nm, lb, lx ys])
def exp (nm : ByteArray) (xs : Lb) (lb : ByteArray) (is : Lb) (k : Nat) : List UInt8 := Kdf.expand xs (cat [lx (Wire.be 2 k), OG, nm, lb, lx is]) k
end Hk
open Hk
theorem rS (ss : List ByteArray) (k : Nat) (w : World) (B : ao w g t (ss.map Value.string).toArray) (hk : ss.length = k) (Vs : k ≤ 100) (hs : (cat ss).length ≤ 100000) :
  Ct 167 #[.slice (some ⟨g, 0, none⟩) k k] w fun e w' => ∃ A' m c', e = .returned (.slice A' m c') ∧ Row w' w.heap.size 5 A' m c' ((cat ss).map bv) ∧ Ext w w' := by
 refine ai 17 func167 rfl rfl rfl rfl ?_;intro _ hret;refine aU ?_;refine aD (fun n' L wr => ∃ (i m c5 : Nat) (A5 : Oa), L = [(3, .slice A5 m c5), (6, .slice (some ⟨g, 0, none⟩) k k), (7, .int .i64 (k : Int)), (8, .int .i64 (i : Int))] ∧ n' = k - i ∧ (i ≤ k ∧ Ext w wr ∧ Row wr w.heap.size 5 A5 m c5 ((cat (ss.take i)).map bv))) _ _ ⟨0, 0, 0, none, rfl, rfl, Nat.zero_le _, Ext.refl _, Row.empty _ _ _⟩ Ls ?_;rintro _ n' L wr ⟨i, m, c5, A5, rfl, rfl, _, F, R⟩ Vq;refine aU ?_;refine ak rfl (fun Vr => ?_) (fun Vr => ?_)
 ·have hik : i < ss.length := by omega
  have hm : m = (cat (ss.take i)).length := by have := R.len; simpa using this.symm
  have hle := Rr hik
  have hcell : wr.cell? ⟨g, 0 + i, none⟩ = some (.string ss[i]) := by rw [Nat.zero_add];exact (B.ext F).get (by simp [hik])
  refine au 6 ?_;refine al (aB rfl rfl Tn.u Kr (j := i) Om Om) ?_;refine al (af rfl Tn.u rfl hcell) ?_;refine aU ?_;refine ag (FM rfl rfl Tn.u Tn.u Kr R Om F.size) rfl ?_;rintro _ _ ⟨A6, c6, rfl, R6, be⟩;have F6 := F.trans be; rw [← List.map_append] at R6;refine au 8 ?_;refine ae ?_;refine Vq _ _ ⟨i + 1, _, c6, A6, rfl, rfl, by omega, F6, by rw [xU hik]; exact R6⟩ Om Ls
 refine aU ?_;refine hret rfl ?_;obtain rfl : i = k := by omega
 rw [List.take_of_length_le Om] at R;exact ⟨A5, m, c5, rfl, R, F⟩
theorem gB (nm lb : ByteArray) (A B : Oa) (n c m d : Nat) (xs ys : Lb) (w : World) (HA : Bs w A n xs) (hn : n ≤ 100000) (HB : Bs w B m ys) (hm : m ≤ 10000) (h1 : nm.size ≤ 100) (h2 : lb.size ≤ 100) :
  Ct 137 #[.string nm, .slice A n c, .string lb, .slice B m d] w fun e w' => ∃ A' c', e = .returned (.slice A' 32 c') ∧ Bs w' A' 32 (Hk.ext nm xs lb ys) ∧ Ext w w' := by
 have E := Ext.refl w;have hyl := HB.1
 have hl : (cat [OG, nm, lb, lx ys]).length ≤ 11000 := by simp only [oh, List.length_append, ql nm, ql lb, Dw, show (sb OG).length = 7 from rfl, show (cat []).length = 0 from rfl]; omega
 refine ai 17 func137 rfl rfl rfl rfl ?_;intro _ hret;refine au 11 ?_;refine al (jS rfl HB Tn.u Tn.u Tn.u) ?_;refine ag (aF (z := .string ⟨#[]⟩) Tn.u Kr rfl rfl rfl rfl rfl) rfl ?_;rintro _ _ ⟨_, rfl, B1, _, ex⟩;obtain ⟨HA,E⟩ := aZ ex HA E;refine aC func167 rfl (rS [OG, nm, lb, lx ys] 4 _ B1 rfl Om Om) ?_;rintro e _ ⟨A2, m2, c2, rfl, R2, ex⟩;refine aU ?_;obtain ⟨HA,E⟩ := aZ ex HA E;have H2 := R2.bs; have Vq := H2.1;refine aC func99 rfl (qy A A2 n c m2 c2 xs _ _ HA Om H2 Om) ?_;rintro e _ ⟨A3, c3, rfl, H3, ex⟩;replace E := E.ext ex;refine aU ?_;refine hret rfl ?_;exact ⟨A3, c3, rfl, H3, E⟩
theorem jA (nm lb : ByteArray) (A B : Oa) (n c m d k : Nat) (xs ys : Lb) (w : World) (HA : Bs w A n xs) (hn : n ≤ 100000) (HB : Bs w B m ys) (hm : m ≤ 10000) (h1 : nm.size ≤ 100) (h2 : lb.size ≤ 100) (hk : k ≤ 8160) :
  Ct 136 #[.string nm, .slice A n c, .string lb, .slice B m d, .int .i64 (k : Int)] w fun e w' => ∃ A' c', e = .returned (.slice A' k c') ∧ Bn w.heap.size w' A' k (Hk.exp nm xs lb ys k) ∧ k ≤ c' ∧ Ext w w' := by
 have E := Ext.refl w;have hyl := HB.1;have hbl := Wire.iK 2 k
 have hl : (cat [lx (Wire.be 2 k), OG, nm, lb, lx ys]).length ≤ 11000 := by simp only [oh, List.length_append, ql nm, ql lb, Dw, show (sb OG).length = 7 from rfl, show (cat []).length = 0 from rfl]; omega
 refine ai 32 func136 rfl rfl rfl rfl ?_;intro _ hret;refine aU ?_;refine aC func131 rfl (je none 0 0 2 k [] _ (Bs.nil _ _) Om Om Om) ?_;rintro e _ ⟨_, _, rfl, R1, ex⟩;obtain ⟨HA,HB,E⟩ := bF ex HA HB E;have H1 := R1.bs;refine au 8 ?_;refine al (jS rfl H1 Tn.u Tn.u Tn.u) ?_;refine au 3 ?_;refine al (jS rfl HB Tn.u Tn.u Tn.u) ?_;refine ag (aF (z := .string ⟨#[]⟩) Tn.u Kr rfl rfl rfl rfl rfl) rfl ?_;rintro _ _ ⟨_, rfl, B2, _, ex⟩;obtain ⟨HA,E⟩ := aZ ex HA E;refine aC func167 rfl (rS [lx (Wire.be 2 k), OG, nm, lb, lx ys] 5 _ B2 rfl Om Om) ?_;rintro e _ ⟨A3, m3, c3, rfl, R3, ex⟩;obtain ⟨HA,E⟩ := aZ ex HA E;have H3 := R3.bs; have Vt := H3.1;refine aU ?_;have Vq := E.size;refine aC func191 rfl (sI A A3 n c m3 c3 k xs _ _ HA Om H3 Om hk) ?_;rintro e _ ⟨A4, c4, rfl, ⟨H4, Vr⟩, Vs, ex⟩;replace E := E.ext ex;refine aU ?_;refine hret rfl ?_;exact ⟨A4, c4, rfl, Bn.lo ⟨H4, Vr⟩ Vq, Vs, E⟩
end
section
open Go.RowKit Tryz
attribute [local irreducible] Y Ef WL WC WK WQ WM cv WN WF cZ
def bm (u : Fp.F) (N : Nat) : Nat → (Fp.F × Fp.F) × (Fp.F × Fp.F)
 | 0 => ((1, 0), (u, 1))
 | i + 1 => if N / 2 ^ (254 - i) % 2 = 1 then ((Gq (bm u N i).2.1 (bm u N i).2.2 (bm u N i).1.1 (bm u N i).1.2 u).2, (Gq (bm u N i).2.1 (bm u N i).2.2 (bm u N i).1.1 (bm u N i).1.2 u).1)
   else Gq (bm u N i).1.1 (bm u N i).1.2 (bm u N i).2.1 (bm u N i).2.2 u
theorem oX {u : Fp.F} {N : Nat} (h : N / 2 ^ (254 - i) % 2 = 1) : bm u N (i + 1) = ((Gq (bm u N i).2.1 (bm u N i).2.2 (bm u N i).1.1 (bm u N i).1.2 u).2, (Gq (bm u N i).2.1 (bm u N i).2.2 (bm u N i).1.1 (bm u N i).1.2 u).1) := by rw [bm, if_pos h]
theorem o9 {u : Fp.F} {N : Nat} (h : ¬ N / 2 ^ (254 - i) % 2 = 1) : bm u N (i + 1) = Gq (bm u N i).1.1 (bm u N i).1.2 (bm u N i).2.1 (bm u N i).2.2 u := by rw [bm, if_neg h]
def gJ (N : Nat) (u : Fp.F) : Fp.F := (bm u N 255).1.1 * Fp.inv (bm u N 255).1.2
theorem xP (A : Oa) (c : Nat) (es : Lb) (f3 : Nat → Nat) (u : Fp.F) (w : World) (HA : Bs w A 32 es) (U : FE (fe f3) u) :
  Ct 238 #[.slice A 32 c, .agg (fe f3)] w fun e w' => ∃ g, e = .returned (.slice (some ⟨g, 0, none⟩) 32 32) ∧ w.heap.size ≤ g ∧ ao w' g 5 (dd (Fp.le 32 (gJ (Fp.num es) u).val)) ∧ Ext w w' := by
 have hle := HA.1;have E := Ext.refl w;have VK := HA;refine ai 49 func238 rfl rfl rfl rfl ?_;intro _ hret;refine aU ?_;intro w1 g3 (B3 : ao _ _ _ (fe f3)) VS ex;replace E := E.ext ex;refine aU ?_;refine fY 0 (fun n' L wr => ∃ (b g5 g6 : Nat) (p1 p2 q1 q2 : Nat → Nat), L = [(0, .slice A 32 c), (3, .pointer (some ⟨g3, 0, none⟩)), (5, .pointer (some ⟨g5, 0, none⟩)), (6, .pointer (some ⟨g6, 0, none⟩)), (7, .int .i64 (b : Int))] ∧ n' = 1 + b ∧ (b ≤ 254 ∧ w.heap.size ≤ g5 ∧ w.heap.size ≤ g6 ∧ g3 < g5 ∧ g3 < g6 ∧ g5 ≠ g6 ∧ Ext w wr ∧ ao wr g3 134 (fe f3) ∧ ao wr g5 300 (pr p1 p2) ∧ ao wr g6 300 (pr q1 q2) ∧ FE (fe p1) (bm u (Fp.num es) (254 - b)).1.1 ∧ FE (fe p2) (bm u (Fp.num es) (254 - b)).1.2 ∧ FE (fe q1) (bm u (Fp.num es) (254 - b)).2.1 ∧ FE (fe q2) (bm u (Fp.num es) (254 - b)).2.2)) rfl ?_ ?_
 ·rintro G n' L wr ⟨b, g5, g6, p1, p2, q1, q2, rfl, rfl, _, Vt, Vu, VA, VB, n56, E, B3, B5, B6, P1, P2, Q1, Q2⟩ VC
  obtain ⟨i, hi⟩ : ∃ i, i = 254 - b := ⟨_, rfl⟩
  have hbi : b = 254 - i := by omega
  rw [← hi] at P1 P2 Q1 Q2;have hnb := DK es b Om;obtain ⟨b1, VL, x, rfl, hx, Vv⟩ := VK.byte (k := b / 8) Om;have hcx := (E.cell (dX Vv)).trans Vv;have hxl := x.toNat_lt;rw [← hx.out] at hnb;have hxd : x.toNat / 2 ^ (b % 8) < 256 := Nat.lt_of_le_of_lt (Nat.div_le_self _ _) Om;refine au 5 ?_;refine al (dG rfl rfl Om (show IntKind.i64.wrap ((b : Int).tdiv 8) = ((b / 8 : Nat) : Int) from bD rfl Om)) ?_;refine al (aB rfl rfl Tn.u Kr (j := b / 8) rfl Om) ?_;refine al (af rfl Tn.u rfl hcx) ?_;refine au 1 ?_;refine al (ck rfl rfl Om (show ((b : Int).tmod 8) = ((b % 8 : Nat) : Int) from rfl)) ?_;refine al (cB rfl rfl Om (GI _ _ Om)) ?_;refine al (cV rfl rfl (OV _ hxd)) ?_;refine aU ?_;refine ak rfl (fun VM => ?_) (fun VM => ?_)
  ·have hlad := oX (u := u) (N := Fp.num es) (i := i) (by rw [← hbi]; omega);refine au 1 ?_;refine al (Nq rfl B6) ?_;refine al (Nq rfl B5) ?_;refine al (dn rfl B3) ?_;refine aC func259 rfl (tG q1 q2 p1 p2 f3 _ _ _ _ u _ Q1 Q2 P1 P2 U) ?_;rintro e w6 ⟨h1, h2, h3, h4, rfl, G1, G2, G3, G4, ex⟩;obtain ⟨E,B3,B5,B6⟩ := bU ex E B3 B5 B6;refine au 4 ?_;refine ag (ah rfl rfl (by rw [cC]; kernel_rfl) B6 (by rw [cC, cC]) (lU _ _)) rfl ?_;rintro _ w7 ⟨rfl, D6, cg⟩;replace B3 := B3.aA cg Om; replace B5 := B5.aA cg Om; replace E := E.aA cg Vu;refine ag (ah rfl rfl (by rw [cC]; kernel_rfl) B5 (by rw [cC, cC]) (lU _ _)) rfl ?_;rintro _ w8 ⟨rfl, D5, cg⟩;replace B3 := B3.aA cg Om; replace D6 := D6.aA cg Om; replace E := E.aA cg Vt;refine aU ?_;refine ak rfl (fun VF => ?_) (fun VF => ?_)
   ·refine aU ?_;refine cz ?_
    obtain ⟨j, rfl⟩ : ∃ j, b = j + 1 := ⟨b - 1, by omega⟩
    rw [show (((j + 1 : Nat) : Int) - 1) = (j : Int) by omega];have hij : 254 - j = i + 1 := by omega
    refine VC _ _ ⟨j, g5, g6, h3, h4, h1, h2, rfl, rfl, by omega, Vt, Vu, VA, VB, n56, E, B3, D5, D6, by rw [hij, hlad]; exact G3, by rw [hij, hlad]; exact G4, by rw [hij, hlad]; exact G1, by rw [hij, hlad]; exact G2⟩ Om Ls
   refine aU ?_;refine az Kr 8 rfl ?_; intro VN ex VO;obtain ⟨E,D5⟩ := aZ ex E D5;refine zm [0] ?_;refine my 1 rfl (uI rfl D5) ?_;refine zm [2] ?_;refine my 3 rfl (vB rfl D5) ?_;refine bz 4 rfl func145 rfl (j6 G4 _) ?_;rintro e w9 ⟨c9, rfl, F9, ex⟩;replace E := E.ext ex;refine aU ?_;refine bz 5 rfl func144 rfl (bQ G3 F9 _) ?_;rintro e VP ⟨c10, rfl, Vs, ex⟩;refine aU ?_;replace E := E.ext ex;replace Vs := Vs.congr (show _ = gJ (Fp.num es) u by unfold gJ; rw [show (255 : Nat) = i + 1 by omega, hlad]); have hsz := E.size;refine bz 6 rfl func155 rfl (kv Vs _) ?_;rintro e VQ ⟨VG, rfl, VH, VI, ex⟩;replace E := E.ext ex;refine zm [7] ?_;refine bW ?_;refine hret rfl ?_;exact ⟨VG, rfl, by omega, VI, E⟩
  have hlad := o9 (u := u) (N := Fp.num es) (i := i) (by rw [← hbi]; omega);refine au 1 ?_;refine al (Nq rfl B5) ?_;refine al (Nq rfl B6) ?_;refine al (dn rfl B3) ?_;refine aC func259 rfl (tG p1 p2 q1 q2 f3 _ _ _ _ u _ P1 P2 Q1 Q2 U) ?_;rintro e w6 ⟨h1, h2, h3, h4, rfl, G1, G2, G3, G4, ex⟩;obtain ⟨E,B3,B5,B6⟩ := bU ex E B3 B5 B6;refine au 4 ?_;refine ag (ah rfl rfl (by rw [cC]; kernel_rfl) B5 (by rw [cC, cC]) (lU _ _)) rfl ?_;rintro _ w7 ⟨rfl, D5, cg⟩;replace B3 := B3.aA cg Om; replace B6 := B6.aA cg Om; replace E := E.aA cg Vt;refine ag (ah rfl rfl (by rw [cC]; kernel_rfl) B6 (by rw [cC, cC]) (lU _ _)) rfl ?_;rintro _ w8 ⟨rfl, D6, cg⟩;replace B3 := B3.aA cg Om; replace D5 := D5.aA cg Om; replace E := E.aA cg Vu;refine aU ?_;refine ak rfl (fun VF => ?_) (fun VF => ?_)
  ·refine aU ?_;refine cz ?_
   obtain ⟨j, rfl⟩ : ∃ j, b = j + 1 := ⟨b - 1, by omega⟩
   rw [show (((j + 1 : Nat) : Int) - 1) = (j : Int) by omega];have hij : 254 - j = i + 1 := by omega
   refine VC _ _ ⟨j, g5, g6, h1, h2, h3, h4, rfl, rfl, by omega, Vt, Vu, VA, VB, n56, E, B3, D5, D6, by rw [hij, hlad]; exact G1, by rw [hij, hlad]; exact G2, by rw [hij, hlad]; exact G3, by rw [hij, hlad]; exact G4⟩ Om Ls
  refine aU ?_;refine az Kr 8 rfl ?_; intro VN ex VO;obtain ⟨E,D5⟩ := aZ ex E D5;refine zm [0] ?_;refine my 1 rfl (uI rfl D5) ?_;refine zm [2] ?_;refine my 3 rfl (vB rfl D5) ?_;refine bz 4 rfl func145 rfl (j6 G2 _) ?_;rintro e w9 ⟨c9, rfl, F9, ex⟩;replace E := E.ext ex;refine aU ?_;refine bz 5 rfl func144 rfl (bQ G1 F9 _) ?_;rintro e VP ⟨c10, rfl, Vs, ex⟩;refine aU ?_;replace E := E.ext ex;replace Vs := Vs.congr (show _ = gJ (Fp.num es) u by unfold gJ; rw [show (255 : Nat) = i + 1 by omega, hlad]); have hsz := E.size;refine bz 6 rfl func155 rfl (kv Vs _) ?_;rintro e VQ ⟨VG, rfl, VH, VI, ex⟩;replace E := E.ext ex;refine zm [7] ?_;refine bW ?_;refine hret rfl ?_;exact ⟨VG, rfl, by omega, VI, E⟩
 intro G VC;refine aU ?_;refine dB Kr 10 rfl ?_; intro VR ex VT;obtain ⟨E,B3⟩ := aZ ex E B3;have VD := E;have Vq := B3;have X0 := Ext.refl VR;refine cS 1 rfl Kr (ar rfl (cells := fe (fun _ => 0)) Kr) rfl ?_;refine cS 3 rfl Kr (dn rfl Vq) rfl ?_;refine dC (fl := [rQ 6 5 300 (pr (fun _ => 0) (fun _ => 0)), rQ 7 6 300 (pr (fun _ => 0) (fun _ => 0))]) rfl ?_;refine kM 0 (some 8) func143 ?_;intro _ ex exb;obtain ⟨E,B3,X0⟩ := bF ex E B3 X0;refine ⟨_, (dv 1 _ Om), ?_⟩;rintro e _ ⟨_, rfl, F2, ex⟩;refine ⟨_, rfl, ex, ?_⟩;obtain ⟨E,B3,X0⟩ := bF ex E B3 X0;obtain ⟨f2, rfl, F2⟩ := F2.fe;refine kJ (dst := some 10) 2 rfl Kr (ar rfl (cells := pr f2 (fun _ => 0)) Kr) rfl (aT (of_decide_eq_true rfl) (aT (of_decide_eq_true rfl) av)) ?_;refine kM 4 (some 12) func143 ?_;intro _ ex exb;obtain ⟨E,B3,X0⟩ := bF ex E B3 X0;refine ⟨_, (dv 1 _ Om), ?_⟩;rintro e _ ⟨_, rfl, F4, ex⟩;refine ⟨_, rfl, ex, ?_⟩;obtain ⟨E,B3,X0⟩ := bF ex E B3 X0;obtain ⟨f4, rfl, F4⟩ := F4.fe;refine kJ (dst := some 13) 5 rfl Kr (ar rfl (cells := pr f3 f4) Kr) rfl (aT (of_decide_eq_true rfl) (aT (of_decide_eq_true rfl) av)) ?_;refine jf ⟨(aT (bM rfl Kr) (aT (bM rfl Kr) av)), of_decide_eq_true rfl, of_decide_eq_true rfl, (aT (⟨rfl, of_decide_eq_true rfl⟩) (aT (⟨rfl, of_decide_eq_true rfl⟩) av)), (aT (aV Kr) (aT (aV Kr) av))⟩ Kr ?_;rintro _ _ _ ex ⟨⟨g5, rfl, Vw⟩, Vx⟩ ⟨⟨g6, rfl, Vy⟩, Vz⟩ Vr;replace Vx := Vx g5 rfl;replace Vz := Vz g6 rfl;have VE : g5 ≠ g6 := fun e => Vr g5 rfl (by rw [e]; rfl);obtain ⟨E,B3,X0⟩ := bF ex E B3 X0;have Vt := Nat.le_trans VD.size Vx; have VA := Nat.lt_of_lt_of_le Vq.lt Vx;have Vu := Nat.le_trans VD.size Vz; have VB := Nat.lt_of_lt_of_le Vq.lt Vz;refine df 8 Kr ?_;refine eC rfl (ah rfl rfl (by rw [cC]; kernel_rfl) Vw (by rw [cC, cC]) (lU _ _)) rfl ?_;rintro _ _ ⟨rfl, Vw, cg⟩;replace X0 := X0.aA cg Vx;refine ⟨X0, ?_⟩;replace E := VD.ext X0;replace B3 := Vq.ext X0;replace Vy := Vy.aA cg Om;refine df 9 Kr ?_;refine eC rfl (ah rfl rfl (by rw [cC]; kernel_rfl) Vy (by rw [cC, cC]) (lU _ _)) rfl ?_;rintro _ _ ⟨rfl, Vy, cg⟩;replace X0 := X0.aA cg Vz;refine ⟨X0, ?_⟩;replace E := VD.ext X0;replace B3 := Vq.ext X0;replace Vw := Vw.aA cg Om;refine dW Kr ?_;refine au 7 ?_;refine er ?_; intro VU VJ;refine iq ?_;refine ae (VJ ?_);exact VC _ _ ⟨254, g5, g6, f2, (fun _ => 0), f3, f4, rfl, rfl, by omega, Vt, Vu, VA, VB, by omega, E, B3, Vw, Vy, F2, FE.zero, U, F4⟩ Ls
def cU (xs : Lb) : List UInt8 := ((Fp.pad xs).set 0 (UInt8.ofNat (((Fp.pad xs).getD 0 0).toNat / 8 * 8))).set 31 (UInt8.ofNat (((Fp.pad xs).getD 31 0).toNat % 64 + 64))
theorem nt (xs : Lb) : (cU xs).length = 32 := by unfold cU; rw [List.length_set, List.length_set, Fp.cP]
theorem Mh : ∀ x : Fin 256, bits .andNot .u8 ((x.val : Nat) : Int) 7 = ((x.val / 8 * 8 : Nat) : Int) := by decide +kernel
theorem Su : ∀ x : Fin 256, bits .and .u8 ((x.val : Nat) : Int) 63 = ((x.val % 64 : Nat) : Int) := by decide +kernel
theorem Ux : ∀ x : Fin 64, bits .or .u8 ((x.val : Nat) : Int) 64 = ((x.val + 64 : Nat) : Int) := by decide +kernel
theorem GO (l : Lb) (i : Nat) (h : i < l.length) : (dd l)[i]? = some (.int .u8 ((l.getD i 0).toNat : Int)) := by simp [dd, bv, h]
theorem gE (l : Lb) (i : Nat) (x : UInt8) : (dd l).setIfInBounds i (.int .u8 (x.toNat : Int)) = dd (l.set i x) := by simp [dd, bv, List.map_set]
theorem uQ (h : n < 256) : ((UInt8.ofNat n).toNat : Int) = (n : Int) := by rw [UInt8.toNat_ofNat']; omega
theorem FJ (A : Oa) (n c : Nat) (xs : Lb) (w : World) (HA : Bs w A n xs) :
  Ct 239 #[.slice A n c] w fun e w' => ∃ g, e = .returned (.slice (some ⟨g, 0, none⟩) 32 32) ∧ Bs w' (some ⟨g, 0, none⟩) 32 (cU xs) ∧ Ext w w' := by
 have hl := HA.1;have hpl := Fp.cP xs
 have HT : Bs w A (min n 32) (xs.take 32) := by
  have h := HA.take (Nat.min_le_left n 32)
  have e : xs.take (min n 32) = xs.take 32 := by
   rcases Nat.le_total n 32 with h | h
   ·rw [Nat.min_eq_left h, List.take_of_length_le Om, List.take_of_length_le Om]
   rw [Nat.min_eq_right h]
  rwa [e] at h
 obtain ⟨x0, Vq⟩ : ∃ x, x = ((Fp.pad xs).getD 0 0).toNat := ⟨_, rfl⟩
 obtain ⟨x1, Vr⟩ : ∃ x, x = ((Fp.pad xs).getD 31 0).toNat := ⟨_, rfl⟩
 have h0 : x0 < 256 := Vq ▸ UInt8.toNat_lt _;have h1 : x1 < 256 := Vr ▸ UInt8.toNat_lt _;refine ai 21 func239 rfl rfl rfl rfl ?_;intro _ hret;refine aU ?_;refine ag (dD (n := 32) (z := .int .u8 0) (bytes := 1) rfl rfl Tn.u Kr rfl rfl rfl rfl Om Om) rfl ?_;rintro _ _ ⟨g, rfl, B1, hg, ex⟩;have E1 := ex; replace B1 := B1.congr (show _ = dd (iC 32) from rfl);refine aU ?_;refine ag (gY rfl rfl Tn.u Kr B1 (HT.wk E1).2 (by rw [List.length_map, HT.1]) (by rw [List.length_map, HT.1, ba]; simp [iC]; omega) aJ) rfl ?_;rintro _ _ ⟨rfl, B2, cg⟩;have E2 := E1.aA cg hg; replace B2 := LK xs B2;refine au 5 ?_;refine al (aB rfl rfl Tn.u Kr (j := 0) rfl Om) ?_;refine al (af rfl Tn.u rfl (B2.get (GO _ 0 Om))) ?_;refine al (y6 rfl rfl (show bits .andNot .u8 _ 7 = ((x0 / 8 * 8 : Nat) : Int) by rw [← Vq]; exact Mh ⟨x0, h0⟩)) ?_;refine al (aB rfl rfl Tn.u Kr (j := 0) rfl Om) ?_;rw [← uQ (n := x0 / 8 * 8) Om];refine ag (aq rfl rfl rfl Kr B2 (by rw [ba]; omega)) rfl ?_;rintro _ _ ⟨rfl, B3, cg⟩;have E3 := E2.aA cg hg; rw [gE] at B3;refine au 6 ?_;refine al (aB rfl rfl Tn.u Kr (j := 31) rfl Om) ?_;refine al (af rfl Tn.u rfl (B3.get (GO _ 31 (by rw [List.length_set]; omega)))) ?_;refine al (cV rfl rfl (show bits .and .u8 _ 63 = ((x1 % 64 : Nat) : Int) by rw [List.getD_eq_getElem?_getD, List.getElem?_set_ne Om, ← List.getD_eq_getElem?_getD, ← Vr]; exact Su ⟨x1, h1⟩)) ?_;refine al (jN rfl rfl (Ux ⟨x1 % 64, by omega⟩)) ?_;refine al (aB rfl rfl Tn.u Kr (j := 31) rfl Om) ?_;rw [← uQ (n := x1 % 64 + 64) Om];refine ag (aq rfl rfl rfl Kr B3 (by rw [ba, List.length_set]; omega)) rfl ?_;rintro _ _ ⟨rfl, B4, cg⟩;have E4 := E3.aA cg hg; rw [gE] at B4;refine aU ?_;refine hret rfl ?_;exact ⟨g, rfl, bh (xs := cU xs) (B4.congr (by unfold cU; rw [← Vq, ← Vr])) (nt xs), E4⟩
theorem uo (A : Oa) (n c : Nat) (xs : Lb) (f : FuncId) (us : List Value) (p : UInt8 → Bool) (fn : Func) (b : Code) (w : World) (HA : Bs w A n xs) (hn : n ≤ 1000000) (hf : Tryz.prog.funcs[f]? = some fn) (hb : fn.body = some b) (hnm : (fn.name == "runtime.NumGoroutine") = false)
  (hp : ∀ (x : UInt8) (w1 : World), Ext w w1 → Ct f ([Value.int .u8 (x.toNat : Int)] ++ us).toArray w1 fun e w' => e = .returned (.bool (p x)) ∧ Ext w1 w') :
  Ct 267 #[.slice A n c, .func (.func f) #[] us.toArray] w fun e w' => ∃ z : Int, e = .returned (.int .i64 z) ∧ (0 ≤ z ↔ xs.any p = true) ∧ Ext w w' := by
 have hl := HA.1;refine ai 19 func267 rfl rfl rfl rfl ?_;intro _ hret;refine aU ?_;refine aD (fun n' L wr => ∃ i : Nat, L = [(0, .slice A n c), (1, .func (.func f) #[] us.toArray), (7, .int .i64 (n : Int)), (8, .int .i64 (i : Int))] ∧ n' = n - i ∧ (i ≤ n ∧ Ext w wr ∧ (xs.take i).any p = false)) _ _ ⟨0, rfl, rfl, by omega, Ext.refl _, rfl⟩ Ls ?_;rintro _ n' L wr ⟨i, rfl, rfl, _, E, hno⟩ Vr;refine aU ?_;refine ak rfl (fun Vs => ?_) (fun Vs => ?_)
 ·obtain ⟨b1, Vt, x, rfl, hx, hcx⟩ := (HA.wk E).byte (k := i) Om
  have htk : xs.take (i + 1) = xs.take i ++ [x] := by rw [List.take_succ_eq_append_getElem Om, hx.out, List.getD_eq_getElem?_getD, List.getElem?_eq_getElem Om]; rfl
  refine au 16 ?_;refine al (af rfl Tn.u rfl hcx) ?_;refine ag (lL (Φ := fun v w' => v = .bool (p x) ∧ Ext _ w') (xs := [_]) (vs := [.int .u8 (x.toNat : Int)]) rfl hf hb hnm rfl (hp x _ E) (fun _ _ h => ⟨_, h.1, rfl, h.2⟩)) rfl ?_;rintro _ _ ⟨rfl, ex⟩;have E2 := E.ext ex;refine aU ?_;refine bB rfl (fun Vq => ?_) (fun Vq => ?_)
  ·refine aU ?_;refine hret rfl ?_;refine ⟨i, rfl, ⟨fun _ => ?_, fun _ => by omega⟩, E2⟩;rw [List.any_eq_true];exact ⟨x, List.mem_of_mem_take (i := i + 1) (by rw [htk]; simp), Vq⟩
  refine au 7 ?_;refine ae ?_;refine Vr _ _ ⟨i + 1, rfl, rfl, by omega, E2, by rw [htk, List.any_append, hno]; simpa using Vq⟩ Om Ls
 refine aU ?_;refine hret rfl ?_;refine ⟨-1, rfl, ⟨fun h => absurd h Om, fun h => ?_⟩, E⟩;rw [List.take_of_length_le Om] at hno;rw [hno] at h;cases h
theorem pR (A : Oa) (n c : Nat) (xs : Lb) (f : FuncId) (us : List Value) (p : UInt8 → Bool) (fn : Func) (b : Code) (w : World) (HA : Bs w A n xs) (hn : n ≤ 1000000) (hf : Tryz.prog.funcs[f]? = some fn) (hb : fn.body = some b) (hnm : (fn.name == "runtime.NumGoroutine") = false)
  (hp : ∀ (x : UInt8) (w1 : World), Ext w w1 → Ct f ([Value.int .u8 (x.toNat : Int)] ++ us).toArray w1 fun e w' => e = .returned (.bool (p x)) ∧ Ext w1 w') :
  Ct 250 #[.slice A n c, .func (.func f) #[] us.toArray] w fun e w' => e = .returned (.bool (xs.any p)) ∧ Ext w w' := by
 refine ai 9 func250 rfl rfl rfl rfl ?_;intro _ hret;refine aU ?_;refine aC func267 rfl (uo A n c xs f us p fn b _ HA hn hf hb hnm hp) ?_;rintro e _ ⟨_, rfl, hz, ex⟩;refine aU ?_;refine hret rfl ?_;exact ⟨(rf hz.symm).symm, ex⟩
theorem xA (x : UInt8) (w : World) : Ct 251 #[.int .u8 (x.toNat : Int)] w fun e w' => e = .returned (.bool (decide (x ≠ 0))) ∧ Ext w w' := by refine ai 5 func251 rfl rfl rfl rfl ?_;intro _ hret;refine aU ?_;refine hret rfl ?_;exact ⟨dM ⟨fun h e => h (by rw [e]; rfl), fun h e => h (UInt8.toNat_inj.1 (by simpa using e))⟩, Ext.refl _⟩
def ri (xs ys : Lb) : List UInt8 × Nat := if xs.length ≠ 32 then ([], 1) else if ys.length ≠ 32 then ([], 3) else (Fp.le 32 (gJ (Fp.num (cU xs)) (Fp.of (Fp.RL ys))).val, 0)
def vE (xs ys : Lb) : List UInt8 × Nat := if (ri xs ys).2 ≠ 0 then ([], (ri xs ys).2) else if (ri xs ys).1.any (fun x => decide (x ≠ 0)) then ((ri xs ys).1, 0) else ([], 9)
def QD (w : World) (r : List UInt8 × Nat) (e : Ending) (w' : World) : Prop := ∃ A k c, e = .returned (.tuple #[.slice A k c, .int .u8 (r.2 : Int)]) ∧ Bs w' A k r.1 ∧ Nw w.heap.size w' A ∧ Ext w w'
theorem uW (A B : Oa) (n c m d : Nat) (xs ys : Lb) (w : World) (HA : Bs w A n xs) (HB : Bs w B m ys) :
  Ct 198 #[.slice A n c, .slice B m d] w (QD w (ri xs ys)) := by
 have hx := HA.1; have hy := HB.1;refine bL 19 func198 rfl rfl rfl rfl ?_;intro _ hret;refine aU ?_;refine ak rfl (fun Vq => ?_) (fun Vq => ?_)
 ·refine aU ?_;refine hret rfl rfl ?_;exact ⟨none, 0, 0, by rw [ri, if_pos Om]; rfl, by rw [ri, if_pos Om]; exact Bs.nil _ _, fun _ _ h => (by cases h), Ext.refl _⟩
 refine aU ?_;refine ak rfl (fun Vr => ?_) (fun Vr => ?_)
 ·refine aU ?_;refine hret rfl rfl ?_;exact ⟨none, 0, 0, by rw [ri, if_neg Om, if_pos Om]; rfl, by rw [ri, if_neg Om, if_pos Om]; exact Bs.nil _ _, fun _ _ h => (by cases h), Ext.refl _⟩
 have hM : ri xs ys = (Fp.le 32 (gJ (Fp.num (cU xs)) (Fp.of (Fp.RL ys))).val, 0) := by rw [ri, if_neg Om, if_neg Om]
 refine aU ?_;refine aC func239 rfl (FJ A n c xs _ HA) ?_;rintro e _ ⟨_, rfl, H1, ex⟩;replace HB := HB.ext ex;have E1 := ex;refine aU ?_;refine aC func240 rfl (My B m d ys _ HB) ?_;rintro e _ ⟨_, rfl, F2, ex⟩;refine aU ?_;replace H1 := H1.ext ex;obtain ⟨f2, rfl, F2⟩ := F2.fe; have E2 := E1.ext ex;refine aC func238 rfl (xP _ 32 _ f2 _ _ H1 F2) ?_;rintro e _ ⟨g3, rfl, _, B3, ex⟩;have E3 := E2.ext ex; have hs := E2.size;refine aU ?_;refine hret rfl rfl ?_;exact ⟨some ⟨g3, 0, none⟩, 32, 32, by rw [hM]; rfl, by rw [hM]; exact bh B3 (Fp.cY 32 _), Nw.of B3 Om, E3⟩
theorem sK (A : Oa) (n c : Nat) (xs : Lb) (w : World) (HA : Bs w A n xs) :
  Ct 138 #[.slice A n c] w (QD w (ri xs (Fp.le 32 9))) := by
 refine bL 10 func138 rfl rfl rfl rfl ?_;intro _ hret;refine aU ?_;refine aC func143 rfl (dv 9 _ Om) ?_;rintro e _ ⟨_, rfl, F1, ex⟩;refine aU ?_;replace HA := HA.ext ex;have E1 := ex;refine aC func155 rfl (kv F1 _) ?_;rintro e _ ⟨_, rfl, _, B2, ex⟩;refine aU ?_;replace HA := HA.ext ex;have E2 := E1.ext ex; have H2 := bh B2 (Fp.cY 32 _);refine aC func198 rfl (uW A _ n c 32 32 xs (Fp.le 32 9) _ HA H2) ?_;rintro e _ ⟨A3, k3, c3, rfl, H3, hf, ex⟩;have E3 := E2.ext ex; have hs := E2.size;refine aU ?_;refine hret rfl rfl ?_;exact ⟨A3, k3, c3, rfl, H3, hf.lo Om, E3⟩
theorem oz (A B : Oa) (n c m d : Nat) (xs ys : Lb) (w : World) (HA : Bs w A n xs) (HB : Bs w B m ys) :
  Ct 219 #[.slice A n c, .slice B m d] w (QD w (vE xs ys)) := by
 refine bL 23 func219 rfl rfl rfl rfl ?_;intro _ hret;refine aU ?_;refine aC func198 rfl (uW A B n c m d xs ys _ HA HB) ?_;rintro e w1 ⟨A1, k1, c1, rfl, H1, hf, ex⟩;have E1 := ex; have Vr := H1.1; have hk : k1 ≤ 32 := by rw [← Vr]; unfold ri; split <;> (try split) <;> simp [Fp.cY]
 refine aU ?_;refine ak rfl (fun Vs => ?_) (fun Vs => ?_)
 ·refine aU ?_;refine hret rfl rfl ?_;exact ⟨none, 0, 0, by rw [vE, if_pos Om], by rw [vE, if_pos Om]; exact Bs.nil _ _, fun _ _ h => (by cases h), E1⟩
 refine aU ?_;refine aC func250 rfl (pR A1 k1 c1 _ 251 [] (fun x => decide (x ≠ 0)) _ _ _ H1 Om func251 rfl rfl (fun x w1 _ => xA x w1)) ?_;rintro e _ ⟨rfl, ex⟩;have E2 := E1.ext ex; have H2 := H1.ext ex; have hf := hf.ext ex;refine aU ?_;refine bB rfl (fun Vq => ?_) (fun Vq => ?_)
 ·have hno : ¬ (ri xs ys).1.any (fun x => decide (x ≠ 0)) = true := by simpa using Vq
  refine aU ?_;refine hret rfl rfl ?_;exact ⟨none, 0, 0, by rw [vE, if_neg Om, if_neg hno]; rfl, by rw [vE, if_neg Om, if_neg hno]; exact Bs.nil _ _, fun _ _ h => (by cases h), E2⟩
 have hno : (ri xs ys).1.any (fun x => decide (x ≠ 0)) = true := by simpa using Vq
 refine aU ?_;refine hret rfl rfl ?_;exact ⟨A1, k1, c1, by rw [vE, if_neg Om, if_pos hno]; rfl, by rw [vE, if_neg Om, if_pos hno]; exact H2, hf, E2⟩
end
section
open Go.RowKit
theorem xK (N : Nat) : ∀ i : Nat, (bm 0 N (i + 1)).1.2 = 0 ∧ (bm 0 N (i + 1)).2.2 = 0 := by
  have keyG : ∀ px pz qx qz : Fp.F, (pz = 0 ∨ px = 0) → (Gq px pz qx qz 0).1.2 = 0 ∧ (Gq px pz qx qz 0).2.2 = 0 := fun px pz qx qz h => by unfold Gq; constructor <;> rcases h with h | h <;> subst h <;> grind
  intro i
  induction i with
  | zero =>
    by_cases h : N / 2 ^ (254 - 0) % 2 = 1
    · rw [oX h]
      have := keyG (bm 0 N 0).2.1 (bm 0 N 0).2.2 (bm 0 N 0).1.1 (bm 0 N 0).1.2 (.inr rfl)
      exact ⟨this.2, this.1⟩
    rw [o9 h]
    exact keyG (bm 0 N 0).1.1 (bm 0 N 0).1.2 (bm 0 N 0).2.1 (bm 0 N 0).2.2 (.inl rfl)
  | succ i ih =>
    by_cases h : N / 2 ^ (254 - (i + 1)) % 2 = 1
    · rw [oX h]
      have := keyG (bm 0 N (i + 1)).2.1 (bm 0 N (i + 1)).2.2 (bm 0 N (i + 1)).1.1 (bm 0 N (i + 1)).1.2 (.inl ih.2)
      exact ⟨this.2, this.1⟩
    rw [o9 h]
    exact keyG (bm 0 N (i + 1)).1.1 (bm 0 N (i + 1)).1.2 (bm 0 N (i + 1)).2.1 (bm 0 N (i + 1)).2.2 (.inl ih.1)
theorem Ce (N : Nat) : gJ N 0 = 0 := by unfold gJ;rw [(xK N 254).1, Fp.inv_zero];generalize (bm 0 N 255).1.1 = x;grind
attribute [local irreducible] Y Ef WL WC WK WQ WM cv WN WF cZ
end
section
namespace Ed
open Fp
theorem qX {Q : F × F} (hQ : On Q) {u : F} (hu : u * (1 - Q.2) = 1 + Q.2) (Vq : u ≠ 0) (hq : 1 - Q.2 ≠ 0) (N : Nat) (hN : N < 2 ^ 255) : ∀ i, i ≤ 255 → Un (bm u N i) (N / 2 ^ (255 - i)) Q
  | 0, _ => by
    rw [Nat.sub_zero, Nat.div_eq_of_lt hN];refine ⟨⟨?_, ?_⟩, ⟨?_, ?_⟩⟩
    · show (1 : F) - 0 = 1 * (1 + 0)
      decide +kernel
    · show (1 : F) + 0 ≠ 0
      decide +kernel
    · show u - 1 = (add O Q).2 * (u + 1)
      rw [xN];grind
    show u + 1 ≠ 0;intro _
    have : 2 * u = 0 ∧ u = -1 := ⟨by grind, by grind⟩
    have := (zero_or this.1).resolve_left lH;exact Vq this
  | i + 1, hi => by
    obtain ⟨h1, h2⟩ := qX hQ hu Vq hq N hN i Om;have o1 := mb hQ (N / 2 ^ (255 - i));have o2 := mb hQ (N / 2 ^ (255 - i) + 1);have e : N / 2 ^ (255 - i) = N / 2 ^ (254 - i) / 2 := by rw [Nat.div_div_eq_div_mul, ← Nat.pow_succ, show (254 - i).succ = 255 - i from by omega]
    have d1 : Q.2 = (add (mul (N / 2 ^ (255 - i) + 1) Q) (neg (mul (N / 2 ^ (255 - i)) Q))).2 := by rw [Nat.add_comm, mul_add hQ, mul_one, add_assoc hQ o1 (vJ o1), add_neg o1, JU]
    have d2 : Q.2 = (add (mul (N / 2 ^ (255 - i)) Q) (neg (mul (N / 2 ^ (255 - i) + 1) Q))).2 := by rw [d1, ← ES, neg_neg, add_comm]
    rw [show 255 - (i + 1) = 254 - i from by omega]
    have s3 : mul (2 * (N / 2 ^ (255 - i)) + 1) Q = add (mul (N / 2 ^ (255 - i)) Q) (mul (N / 2 ^ (255 - i) + 1) Q) := by rw [← mul_add hQ]; congr 1; omega
    by_cases hb : N / 2 ^ (254 - i) % 2 = 1
    · rw [oX hb]
      have g1 := O8 o2 h2;have g2 := Ow o2 o1 h2 h1 d2 hu Vq hq;rw [← mul_two hQ] at g1;rw [add_comm, ← s3] at g2;refine ⟨?_, ?_⟩
      · rw [show N / 2 ^ (254 - i) = 2 * (N / 2 ^ (255 - i)) + 1 from by omega]; exact g2
      rw [show N / 2 ^ (254 - i) + 1 = 2 * (N / 2 ^ (255 - i) + 1) from by omega]; exact g1
    rw [o9 hb];have g1 := O8 o1 h1;have g2 := Ow o1 o2 h1 h2 d1 hu Vq hq;rw [← mul_two hQ] at g1;rw [← s3] at g2;refine ⟨?_, ?_⟩
    · rw [show N / 2 ^ (254 - i) = 2 * (N / 2 ^ (255 - i)) from by omega]; exact g1
    rw [show N / 2 ^ (254 - i) + 1 = 2 * (N / 2 ^ (255 - i)) + 1 from by omega]; exact g2
theorem Lh {Q : F × F} (hQ : On Q) (h : Q.2 * Q.2 = 1) : Q.1 = 0 := by
 have hx := SC hQ;rw [h] at hx;have hp := KZ (y := Q.2);have e : (1 : F) - 1 = 0 := by decide +kernel
 rw [e] at hx;exact vL ((zero_or hx).resolve_right hp)
theorem TT : uu O = 0 := by
 unfold uu O;simp only;have h : (1 : F) - 1 = 0 := by decide +kernel
 rw [h, inv_zero];exact SL _
theorem xy {Q : F × F} (hQ : On Q) (N : Nat) (hN : N < 2 ^ 255) (he : N % 2 = 0) : gJ N (uu Q) = uu (mul N Q) := by
 by_cases Vq : uu Q = 0
 ·rw [Vq, Ce]
  have h2 : Q.2 * Q.2 = 1 := by
   unfold uu at Vq;rcases zero_or Vq with h | h
   ·grind
   have h3 : 1 - Q.2 = 0 := Classical.byContradiction fun hc => Iv hc h;grind
  have hx := Lh hQ h2
  have Vr : mul 2 Q = O := by
   show add (add O Q) Q = O;rw [xN]
   have : Q = neg Q := by obtain ⟨x, y⟩ := Q;unfold neg;grind
   rw [show add Q Q = add Q (neg Q) from by rw [← this], add_neg hQ]
  rw [show N = 2 * (N / 2) from by omega, rH hQ, Vr, Ot, TT]
 have hq : 1 - Q.2 ≠ 0 := fun hc => by apply Vq;unfold uu;rw [hc, inv_zero];grind
 have hu : uu Q * (1 - Q.2) = 1 + Q.2 := div_mul hq;have h := (qX hQ hu Vq hq N hN 255 (Nat.le_refl _)).1;rw [Nat.sub_self, Nat.pow_zero, Nat.div_one] at h;exact UD h
theorem T0 : uu B = of 9 := (sA (a := 1 + B.2) (b := 1 - B.2) (c := of 9) (by decide +kernel) (by decide +kernel)).symm
theorem uE : ∀ l : List UInt8, num l % 256 = (l.getD 0 0).toNat
  | [] => rfl
  | x :: l => by have := x.toNat_lt;show (x.toNat + 256 * num l) % 256 = x.toNat;omega
theorem qH (xs : Lb) : ((cU xs).getD 0 0).toNat = ((pad xs).getD 0 0).toNat / 8 * 8 := by have hl : (pad xs).length = 32 := cP xs;have hb := ((pad xs).getD 0 0).toNat_lt;unfold cU;rw [List.getD_eq_getElem?_getD, List.getElem?_set_ne Om, List.getElem?_set_self Om];show (UInt8.ofNat (((pad xs).getD 0 0).toNat / 8 * 8)).toNat = _;rw [UInt8.toNat_ofNat']; omega
theorem tD (xs : Lb) : ((cU xs).getD 31 0).toNat = ((pad xs).getD 31 0).toNat % 64 + 64 := by have hl : (pad xs).length = 32 := cP xs;unfold cU;rw [List.getD_eq_getElem?_getD, List.getElem?_set_self (by rw [List.length_set]; omega)];show (UInt8.ofNat (((pad xs).getD 31 0).toNat % 64 + 64)).toNat = _;rw [UInt8.toNat_ofNat']; omega
theorem te (xs : Lb) : num (cU xs) % 2 = 0 := by have h1 := uE (cU xs);rw [qH] at h1;omega
theorem yf (xs : Lb) : num (cU xs) < 2 ^ 255 := by
 rw [← Mo];have h := Iw (nt xs);rw [tD] at h;have : num (cU xs) / top = 0 := by rw [h]; omega
 exact (Nat.div_eq_zero_iff.1 this).resolve_left (by unfold top; omega)
end Ed
end
section
open Go.RowKit
attribute [local irreducible] Y Ef WL WC WK WQ WM cv WN WF cZ
theorem Kn {xs : Lb} {u : Fp.F} (hx : xs.length = 32) : ri xs (Fp.le 32 u.val) = (Fp.le 32 (gJ (Fp.num (cU xs)) u).val, 0) := by rw [ri, if_neg Om, if_neg (by rw [Fp.cY]; omega), Ed.PZ]
theorem JK : Fp.le 32 9 = Fp.le 32 (Fp.of 9).val := rfl
end
section
open Go.RowKit Tryz
attribute [local irreducible] Y Ef WL WC WK WQ WM cv WN WF cZ
open Hk
theorem qB (A : Oa) (n c : Nat) (xss : List (List UInt8)) (w : World) (ha : rO w A n xss) (hn : n ≤ 70368744177664) (hlen : xss.flatten.length ≤ 70368744177664) :
  Ct 184 #[.slice A n c] w fun e w' => ∃ A' k c', e = .returned (.slice A' k c') ∧ Row w' w.heap.size 5 A' k c' (xss.flatten.map bv) ∧ Ext w w' :=
 (gU A n c xss w ha hn hlen).mono fun _ _ ⟨A', k, c', h1, h2, h3⟩ => ⟨A', k, c', h1, h2, h3⟩
namespace Hk
def OZ : ByteArray := ⟨#[75, 69, 77, 0, 32]⟩
def Bb : ByteArray := ⟨#[72, 80, 75, 69, 0, 32, 0, 1, 0, 1]⟩
def UP : ByteArray := ⟨#[100, 107, 112, 95, 112, 114, 107]⟩
def UQ : ByteArray := ⟨#[115, 107]⟩
def UG : ByteArray := ⟨#[101, 97, 101, 95, 112, 114, 107]⟩
def UM : ByteArray := ⟨#[115, 104, 97, 114, 101, 100, 95, 115, 101, 99, 114, 101, 116]⟩
def Tm : ByteArray := ⟨#[112, 115, 107, 95, 105, 100, 95, 104, 97, 115, 104]⟩
def inf : ByteArray := ⟨#[105, 110, 102, 111, 95, 104, 97, 115, 104]⟩
def sec : ByteArray := ⟨#[115, 101, 99, 114, 101, 116]⟩
def SA : ByteArray := ⟨#[107, 101, 121]⟩
def Ss : ByteArray := ⟨#[98, 97, 115, 101, 95, 110, 111, 110, 99, 101]⟩
def lv (xs : Lb) : List UInt8 := exp OZ (ext OZ [] UP xs) UQ [] 32
def mS (xs : Lb) : List UInt8 := (ri (lv xs) (Fp.le 32 9)).1
def Tf (d enc pb : Lb) : List UInt8 := exp OZ (ext OZ [] UG d) UM (enc ++ pb) 32
def Av (xs ys : Lb) : List UInt8 × Nat := if (vE xs ys).2 ≠ 0 then ([], (vE xs ys).2) else (Tf (vE xs ys).1 ys (ri xs (Fp.le 32 9)).1, 0)
def ctx (is : Lb) : List UInt8 := 0 :: (ext Bb [] Tm [] ++ ext Bb [] inf is)
def Er (s is : Lb) : List UInt8 := exp Bb (ext Bb s sec []) SA (ctx is) 16
def EB (s is : Lb) : List UInt8 := exp Bb (ext Bb s sec []) Ss (ctx is) 12
end Hk
theorem BV (nm lb : ByteArray) (xs is : Lb) (k : Nat) : (Hk.exp nm xs lb is k).length = k := Kdf.mV _ _ _
theorem gS (nm lb : ByteArray) (xs ys : Lb) : (Hk.ext nm xs lb ys).length = 32 := Mac.dQ _ _
theorem GF {xs : Lb} (hx : xs.length = 32) : (ri xs (Fp.le 32 9)).1.length = 32 ∧ (ri xs (Fp.le 32 9)).2 = 0 := by rw [ri, if_neg Om, if_neg (by rw [Fp.cY]; omega)]; exact ⟨Fp.cY _ _, rfl⟩
theorem dO (xs : Lb) : (lv xs).length = 32 := BV _ _ _ _ _
theorem cX (xs : Lb) : (mS xs).length = 32 := (GF (dO xs)).1
theorem qi (A : Oa) (n c : Nat) (xs : Lb) (w : World) (HA : Bs w A n xs) (hn : n ≤ 10000) :
  Ct 66 #[.slice A n c] w fun e w' => ∃ A1 c1 A2 c2, e = .returned (.tuple #[.slice A1 32 c1, .slice A2 32 c2]) ∧ Bn w.heap.size w' A1 32 (lv xs) ∧ Bn w.heap.size w' A2 32 (mS xs) ∧ 32 ≤ c1 ∧ Ext w w' := by
 have E := Ext.refl w;refine bL 14 func66 rfl rfl rfl rfl ?_;intro _ hret;refine aU ?_;refine aC func137 rfl (gB OZ UP none A 0 0 n c [] xs _ (Bs.nil _ _) Om HA hn (by decide) (by decide)) ?_;rintro e _ ⟨A1, c1, rfl, H1, ex⟩;replace E := E.ext ex;refine aU ?_;have z1 := E.size;refine aC func136 rfl (jA OZ UQ A1 none 32 c1 0 0 32 _ [] _ H1 Om (Bs.nil _ _) Om (by decide) (by decide) Om) ?_;rintro e _ ⟨A2, c2, rfl, ⟨H2, n2⟩, Vq, ex⟩;replace E := E.ext ex;refine aU ?_;have z2 := E.size;refine aC func138 rfl (sK A2 32 c2 _ _ H2) ?_;rintro e _ ⟨A3, k3, c3, rfl, H3, hf, ex⟩;obtain ⟨E,H2,n2⟩ := bF ex E H2 n2;have hl : k3 = 32 := by rw [← H3.1]; exact (GF H2.1).1
 refine aU ?_;refine hret rfl rfl ?_;subst hl; exact ⟨A2, c2, A3, c3, rfl, Bn.lo ⟨H2, n2⟩ z1, Bn.lo ⟨H3, hf⟩ z2, Vq, E⟩
theorem qY (A B C : Oa) (n c m d k q : Nat) (xs ys zs : Lb) (w : World) (HA : Bs w A n xs) (hn : n ≤ 1000) (HB : Bs w B m ys) (hm : m ≤ 1000) (HC : Bs w C k zs) (hk : k ≤ 1000) :
  Ct 220 #[.slice A n c, .slice B m d, .slice C k q] w fun e w' => ∃ A' c', e = .returned (.slice A' 32 c') ∧ Bs w' A' 32 (Tf xs ys zs) ∧ Ext w w' := by
 have E := Ext.refl w;have Vr := HB.1; have Vs := HC.1;refine ai 14 func220 rfl rfl rfl rfl ?_;intro _ hret;refine aU ?_;refine aC func137 rfl (gB OZ UG none A 0 0 n c [] xs _ (Bs.nil _ _) Om HA Om (by decide) (by decide)) ?_;rintro e _ ⟨A1, c1, rfl, H1, ex⟩;obtain ⟨HB,HC,E⟩ := bF ex HB HC E;refine aU ?_;refine ag (aF (z := .slice none 0 0) Tn.u Kr rfl rfl rfl rfl rfl) rfl ?_;rintro _ _ ⟨_, rfl, B2, _, ex⟩;obtain ⟨HB,HC,E,H1⟩ := bU ex HB HC E H1;have S2 := ph B2 HB HC;refine aC func184 rfl (qB _ 2 2 [ys, zs] _ S2 Om So) ?_;rintro e _ ⟨A3, k3, c3, rfl, R3, ex⟩;refine aU ?_;obtain ⟨E,H1⟩ := aZ ex E H1;have H3 := R3.bs; have Vq := H3.1; rw [show [ys, zs].flatten = ys ++ zs by simp] at H3 Vq; rw [List.length_append] at Vq;refine aC func136 rfl (jA OZ UM A1 A3 32 c1 k3 c3 32 _ (ys ++ zs) _ H1 Om H3 Om (by decide) (by decide) Om) ?_;rintro e _ ⟨A4, c4, rfl, ⟨H4, _⟩, _, ex⟩;replace E := E.ext ex;refine aU ?_;refine hret rfl ?_;exact ⟨A4, c4, rfl, H4, E⟩
theorem Gy (xs ys : Lb) : (ri xs ys).2 < 256 := by
 unfold ri; split
 ·show 1 < 256; omega
 split
 ·show 3 < 256; omega
 show 0 < 256; omega
theorem Aj (xs ys : Lb) : (vE xs ys).2 < 256 := by
 unfold vE; split
 ·exact Gy _ _
 split
 ·show 0 < 256; omega
 show 9 < 256; omega
theorem DY (xs ys : Lb) : (ri xs ys).1.length ≤ 32 := by
 unfold ri; split
 ·exact Nat.zero_le _
 split
 ·exact Nat.zero_le _
 exact Nat.le_of_eq (Fp.cY _ _)
theorem Dz {xs : Lb} : (vE xs ys).1.length ≤ 32 := by
 unfold vE; split
 ·exact Nat.zero_le _
 split
 ·exact DY _ _
 exact Nat.zero_le _
theorem yi (A B : Oa) (n c m d : Nat) (xs ys : Lb) (w : World) (HA : Bs w A n xs) (_hn : n ≤ 1000) (HB : Bs w B m ys) (hm : m ≤ 1000) :
  Ct 165 #[.slice A n c, .slice B m d] w fun e w' => ∃ A' k c', e = .returned (.tuple #[.slice A' k c', .int .u8 ((Av xs ys).2 : Int)]) ∧ Bs w' A' k (Av xs ys).1 ∧ k ≤ 32 ∧ Ext w w' := by
 have E := Ext.refl w;refine bL 28 func165 rfl rfl rfl rfl ?_;intro _ hret;refine aU ?_;refine aC func219 rfl (oz A B n c m d xs ys _ HA HB) ?_;rintro e _ ⟨A1, k1, c1, rfl, H1, _, ex⟩;obtain ⟨HA,HB,E⟩ := bF ex HA HB E;have Vr := H1.1; have Vs := Dz (xs := xs) (ys := ys);refine aU ?_;refine ak rfl (fun Vq => ?_) (fun Vq => ?_)
 ·refine aU ?_;refine hret rfl rfl ?_;exact ⟨none, 0, 0, by rw [Av, if_pos Om], by rw [Av, if_pos Om]; exact Bs.nil _ _, by omega, E⟩
 refine aU ?_;refine aC func138 rfl (sK A n c xs _ HA) ?_;rintro e _ ⟨A2, k2, c2, rfl, H2, _, ex⟩;obtain ⟨HB,E,H1⟩ := bF ex HB E H1;have Vt := H2.1; have Vu := DY xs (Fp.le 32 9);refine aU ?_;refine aC func220 rfl (qY A1 B A2 k1 c1 m d k2 c2 _ ys _ _ H1 Om HB hm H2 Om) ?_;rintro e _ ⟨A3, c3, rfl, H3, ex⟩;replace E := E.ext ex;refine aU ?_;refine hret rfl rfl ?_;exact ⟨A3, 32, c3, by rw [Av, if_neg Om]; rfl, by rw [Av, if_neg Om]; exact H3, by omega, E⟩
def uf (pb sd : Lb) : List UInt8 × List UInt8 × Nat := if (vE (lv sd) pb).2 ≠ 0 then ([], [], (vE (lv sd) pb).2) else (Tf (vE (lv sd) pb).1 (mS sd) pb, mS sd, 0)
theorem Ey (A B : Oa) (n c m d : Nat) (xs ys : Lb) (w : World) (HA : Bs w A n xs) (hn : n ≤ 1000) (HB : Bs w B m ys) (hm : m ≤ 1000) :
  Ct 189 #[.slice A n c, .slice B m d] w fun e w' => ∃ A' k c' A2 k2 c2, e = .returned (.tuple #[.slice A' k c', .slice A2 k2 c2, .int .u8 ((uf xs ys).2.2 : Int)]) ∧ Bs w' A' k (uf xs ys).1 ∧ Bn w.heap.size w' A2 k2 (uf xs ys).2.1 ∧ k ≤ 32 ∧ k2 ≤ 32 ∧ Ext w w' := by
 have E := Ext.refl w;refine fZ 28 func189 rfl rfl rfl rfl ?_;intro _ hret;refine aU ?_;have z1 := E.size;refine aC func66 rfl (qi B m d ys _ HB Om) ?_;rintro e _ ⟨A1, c1, A2, c2, rfl, ⟨H1, _⟩, ⟨H2, n2⟩, Vq, ex⟩;obtain ⟨HA,E⟩ := aZ ex HA E;refine aU ?_;refine aC func219 rfl (oz A1 A 32 c1 n c (lv ys) xs _ H1 HA) ?_;rintro e _ ⟨A3, k3, c3, rfl, H3, _, ex⟩;obtain ⟨HA,E,H2,n2⟩ := bU ex HA E H2 n2;have Vr := H3.1; have Vs := Dz (xs := lv ys) (ys := xs);refine aU ?_;refine ak rfl (fun Vq => ?_) (fun Vq => ?_)
 ·refine aU ?_;refine hret rfl rfl rfl ?_;exact ⟨none, 0, 0, none, 0, 0, by rw [uf, if_pos Om], by rw [uf, if_pos Om]; exact Bs.nil _ _, by rw [uf, if_pos Om]; exact Bn.nil _ _, by omega, by omega, E⟩
 refine aU ?_;refine aC func220 rfl (qY A3 A2 A k3 c3 32 c2 n c _ _ xs _ H3 Om H2 Om HA hn) ?_;rintro e _ ⟨A4, c4, rfl, H4, ex⟩;obtain ⟨E,H2,n2⟩ := bF ex E H2 n2;refine aU ?_;refine hret rfl rfl rfl ?_;exact ⟨A4, 32, c4, A2, 32, c2, by rw [uf, if_neg Om]; rfl, by rw [uf, if_neg Om]; exact H4, by rw [uf, if_neg Om]; exact Bn.lo ⟨H2, n2⟩ z1, by omega, by omega, E⟩
end
open Go.RowKit Tryz
attribute [local irreducible] Y Ef WL WC WK WQ WM cv WN WF cZ
def cT (w : World) (cs : Array Value) (l : List (List UInt8)) : Prop := ∃ vs : List Value, cs = vs.toArray ∧ vs.length = 12 ∧ l.length = 12 ∧ ∀ i, i < 12 → ∃ A n c, vs[i]? = some (.slice A n c) ∧ Bs w A n (l.getD i [])
theorem cT.ext (h : cT w cs l) (k : Ext w w') : cT w' cs l := by obtain ⟨vs, h1, h2, h3, h4⟩ := h;exact ⟨vs, h1, h2, h3, fun i hi => by obtain ⟨A, n, c, h5, h6⟩ := h4 i hi; exact ⟨A, n, c, h5, h6.ext k⟩⟩
theorem cT.get (h : cT w cs l) (hi : i < 12) : ∃ A n c, cs[i]? = some (.slice A n c) ∧ Bs w A n (l.getD i []) := by obtain ⟨vs, rfl, h2, h3, h4⟩ := h;obtain ⟨A, n, c, h5, h6⟩ := h4 i hi;exact ⟨A, n, c, by simpa using h5, h6⟩
theorem cT.size (h : cT w cs l) : cs.size = 12 := by obtain ⟨vs, rfl, h2, _⟩ := h; simpa using h2
theorem cT.one (h : cT w cs l) : cs.all (·.oneCell') = true := by rw [Array.all_eq_true];intro i _;obtain ⟨A, n, c, h5, _⟩ := h.get (i := i) (by have := h.size; omega);rw [Array.getElem?_eq_some_iff] at h5;obtain ⟨_, h5⟩ := h5;rw [h5]; rfl
def Dx (cs : Array Value) : Prop := ∀ (i : Nat) (v : Value), cs[i]? = some v → ∃ A n c, v = Value.slice A n c
theorem cT.sl (h : cT w cs l) : Dx cs := fun i v hv => by have hi : i < cs.size := (Array.getElem?_eq_some_iff.1 hv).1;obtain ⟨A, n, c, h5, _⟩ := h.get (i := i) (by have := h.size; omega);rw [h5] at hv; injection hv with hv; exact ⟨A, n, c, hv.symm⟩
theorem Bs.sl {xs : Lb} (h : Bs w A n xs) (B : ao w g t cs) (hs : Dx cs) (cg : lF w g w') : Bs w' A n xs := by
 rcases Nat.eq_zero_or_pos n with h0 | h0
 ·subst h0;have : xs = [] := List.length_eq_zero_iff.1 h.1;subst this;exact Bs.nil w' A
 refine h.aA cg fun b off hA e => ?_;obtain ⟨b', Vr, Vq, _, hc⟩ := h.get h0;rw [hA] at Vq;injection Vq with Vq
 injection Vq with Vq _ _
 subst Vq;rw [e, B.cell] at hc;obtain ⟨A, n, c, hv⟩ := hs _ _ hc;cases hv
theorem cT.put {c : Nat} {xs : Lb} (h : cT w cs l) (B : ao w g t cs) (cg : lF w g w') (hx : Bs w A n xs) (hi : i < 12) : cT w' (cs.setIfInBounds i (Value.slice A n c)) (l.set i xs) := by
 have O9 := h.sl;obtain ⟨vs, rfl, h2, h3, h4⟩ := h;refine ⟨vs.set i (.slice A n c), by simp, by simpa using h2, by simpa using h3, fun j hj => ?_⟩;by_cases e : i = j
 ·subst e;exact ⟨A, n, c, by rw [List.getElem?_set_self Om], by rw [List.getD_eq_getElem?_getD, List.getElem?_set_self Om]; exact hx.sl B O9 cg⟩
 obtain ⟨A', n', c', h5, h6⟩ := h4 j hj;exact ⟨A', n', c', by rw [List.getElem?_set_ne e]; exact h5, by rw [List.getD_eq_getElem?_getD, List.getElem?_set_ne e, ← List.getD_eq_getElem?_getD]; exact h6.sl B O9 cg⟩
def fD : Nat → ByteArray
 | 0 => ⟨#[115, 101, 110, 100, 101, 114, 32, 100, 97, 116, 97]⟩
 | 1 => ⟨#[101, 110, 99, 114, 121, 112, 116, 105, 111, 110]⟩
 | 2 => ⟨#[101, 120, 112, 111, 114, 116, 101, 114]⟩
 | 3 => ⟨#[97, 117, 116, 104, 101, 110, 116, 105, 99, 97, 116, 105, 111, 110]⟩
 | 4 => ⟨#[101, 120, 116, 101, 114, 110, 97, 108]⟩
 | 5 => ⟨#[99, 111, 110, 102, 105, 114, 109]⟩
 | 6 => ⟨#[109, 101, 109, 98, 101, 114, 115, 104, 105, 112]⟩
 | 7 => ⟨#[114, 101, 115, 117, 109, 112, 116, 105, 111, 110]⟩
 | 8 => ⟨#[105, 110, 105, 116]⟩
 | _ => ⟨#[]⟩
theorem eU (i : Nat) : (fD i).size ≤ 1048576 := by unfold fD;split <;> decide
def jh : ByteArray := ⟨#[119, 101, 108, 99, 111, 109, 101]⟩
def Bf : ByteArray := ⟨#[101, 112, 111, 99, 104]⟩
def pZ (j : Lb) : List UInt8 := Mac.tag j (List.replicate 32 0)
def sM (j : Lb) (c : Ctx) : List UInt8 := Kdf.label (pZ j) Bf.data.toList (dw c) 32
def tB (e : Lb) (i : Nat) : List UInt8 := Kdf.label e (fD i).data.toList [] 32
def eo (j : Lb) (c : Ctx) : List (List UInt8) := [j, Kdf.label (pZ j) jh.data.toList [] 32, sM j c] ++ (List.range 9).map (tB (sM j c))
theorem dK (k s c : Lb) (n : Nat) : (Kdf.label k s c n).length = n := by unfold Kdf.label; exact Kdf.mV _ _ _
theorem kH (A B : Oa) (n c m d k : Nat) (s : ByteArray) (ks cs : Lb) (w : World) (HA : Bs w A n ks) (hn : n ≤ 35184372088832) (hs : s.size ≤ 1048576) (HB : Bs w B m cs) (hm : m ≤ 1048576) (hk : k ≤ 8160) :
  Ct 98 #[.slice A n c, .string s, .slice B m d, .int .i64 (k : Int)] w fun e w' => ∃ A' c', e = .returned (.slice A' k c') ∧ Bs w' A' k (Kdf.label ks s.data.toList cs k) ∧ Ext w w' := by
 refine ai 20 func98 rfl rfl rfl rfl ?_;intro _ hret;refine aU ?_;refine aC func130 rfl (vD A B n c m d k s ks cs _ HA hn hs HB hm hk) ?_;rintro e _ ⟨A1, c1, rfl, ⟨H1, _⟩, _, ex⟩;refine aU ?_;refine hret rfl ?_;exact ⟨A1, c1, rfl, H1, ex⟩
def mg (g : Nat) : Array Value := #[.string (fD 0), .pointer (some ⟨g, 3, none⟩), .string (fD 1), .pointer (some ⟨g, 4, none⟩), .string (fD 2), .pointer (some ⟨g, 5, none⟩), .string (fD 3), .pointer (some ⟨g, 6, none⟩), .string (fD 4), .pointer (some ⟨g, 7, none⟩), .string (fD 5), .pointer (some ⟨g, 8, none⟩), .string (fD 6), .pointer (some ⟨g, 9, none⟩), .string (fD 7), .pointer (some ⟨g, 10, none⟩), .string (fD 8), .pointer (some ⟨g, 11, none⟩)]
theorem PU (g : Nat) (h : i < 9) : (mg g)[2 * i]? = some (.string (fD i)) ∧ (mg g)[2 * i + 1]? = some (.pointer (some ⟨g, 3 + i, none⟩)) := by
 match i, h with
 | 0, _ => exact ⟨rfl, rfl⟩
 | 1, _ => exact ⟨rfl, rfl⟩
 | 2, _ => exact ⟨rfl, rfl⟩
 | 3, _ => exact ⟨rfl, rfl⟩
 | 4, _ => exact ⟨rfl, rfl⟩
 | 5, _ => exact ⟨rfl, rfl⟩
 | 6, _ => exact ⟨rfl, rfl⟩
 | 7, _ => exact ⟨rfl, rfl⟩
 | 8, _ => exact ⟨rfl, rfl⟩
theorem zy (g : Nat) (w : World) :
  Ct 102 #[.pointer (some ⟨g, 0, none⟩)] w fun e w' => ∃ gt, e = .returned (.slice (some ⟨gt, 0, none⟩) 9 9) ∧ ao w' gt 159 (mg g) ∧ w.heap.size ≤ gt ∧ Ext w w' := by
 have E := Ext.refl w;refine ai 40 func102 rfl rfl rfl rfl ?_;intro _ hret;refine aU ?_;refine az Kr 38 rfl ?_; intro Vq ex Vr;replace E := E.ext ex;refine zm [0, 1, 2] ?_;refine my 3 rfl (ar rfl (cells := #[.string (fD 0), .pointer (some ⟨g, 3, none⟩)]) Kr) ?_;refine zm [4, 5, 6] ?_;refine my 7 rfl (ar rfl (cells := #[.string (fD 1), .pointer (some ⟨g, 4, none⟩)]) Kr) ?_;refine zm [8, 9, 10] ?_;refine my 11 rfl (ar rfl (cells := #[.string (fD 2), .pointer (some ⟨g, 5, none⟩)]) Kr) ?_;refine zm [12, 13, 14] ?_;refine my 15 rfl (ar rfl (cells := #[.string (fD 3), .pointer (some ⟨g, 6, none⟩)]) Kr) ?_;refine zm [16, 17, 18] ?_;refine my 19 rfl (ar rfl (cells := #[.string (fD 4), .pointer (some ⟨g, 7, none⟩)]) Kr) ?_;refine zm [20, 21, 22] ?_;refine my 23 rfl (ar rfl (cells := #[.string (fD 5), .pointer (some ⟨g, 8, none⟩)]) Kr) ?_;refine zm [24, 25, 26] ?_;refine my 27 rfl (ar rfl (cells := #[.string (fD 6), .pointer (some ⟨g, 9, none⟩)]) Kr) ?_;refine zm [28, 29, 30] ?_;refine my 31 rfl (ar rfl (cells := #[.string (fD 7), .pointer (some ⟨g, 10, none⟩)]) Kr) ?_;refine zm [32, 33, 34] ?_;refine my 35 rfl (ar rfl (cells := #[.string (fD 8), .pointer (some ⟨g, 11, none⟩)]) Kr) ?_;refine aL 36 Kr ?_; refine aQ rfl (rF (cells := mg g) Tn.u rfl Kr) rfl ?_;rintro _ _ ⟨gt, rfl, B1, _, ex⟩;refine ⟨.inr ex, ?_⟩;replace E := E.ext ex;refine zm [37] ?_;refine hret rfl ?_;have h2 : Vq.heap.size = w.heap.size := by rw [Vr]
 exact ⟨gt, rfl, B1, by omega, E⟩
theorem cT.aA (h : cT w cs l) (B : ao w g t ds) (hs : Dx ds) (cg : lF w g w') : cT w' cs l := by obtain ⟨vs, h1, h2, h3, h4⟩ := h;exact ⟨vs, h1, h2, h3, fun i hi => by obtain ⟨A, n, c, h5, h6⟩ := h4 i hi; exact ⟨A, n, c, h5, h6.sl B hs cg⟩⟩
theorem cT.congr (h : cT w cs l) (e : l = l') : cT w cs l' := e ▸ h
def Gv : Array Value := #[.slice none 0 0, .slice none 0 0, .slice none 0 0, .slice none 0 0, .slice none 0 0, .slice none 0 0, .slice none 0 0, .slice none 0 0, .slice none 0 0, .slice none 0 0, .slice none 0 0, .slice none 0 0]
theorem Dd : Dx Gv := fun i v hv => by
 match i, hv with
 | 0, hv => injection hv with hv; exact ⟨_, _, _, hv.symm⟩
 | 1, hv => injection hv with hv; exact ⟨_, _, _, hv.symm⟩
 | 2, hv => injection hv with hv; exact ⟨_, _, _, hv.symm⟩
 | 3, hv => injection hv with hv; exact ⟨_, _, _, hv.symm⟩
 | 4, hv => injection hv with hv; exact ⟨_, _, _, hv.symm⟩
 | 5, hv => injection hv with hv; exact ⟨_, _, _, hv.symm⟩
 | 6, hv => injection hv with hv; exact ⟨_, _, _, hv.symm⟩
 | 7, hv => injection hv with hv; exact ⟨_, _, _, hv.symm⟩
 | 8, hv => injection hv with hv; exact ⟨_, _, _, hv.symm⟩
 | 9, hv => injection hv with hv; exact ⟨_, _, _, hv.symm⟩
 | 10, hv => injection hv with hv; exact ⟨_, _, _, hv.symm⟩
 | 11, hv => injection hv with hv; exact ⟨_, _, _, hv.symm⟩
 | i + 12, hv => simp [Gv] at hv
def jE (j W e : Lb) (i : Nat) : List (List UInt8) := [j, W, e] ++ (List.range i).map (tB e) ++ List.replicate (9 - i) []
theorem Bg (j W e : Lb) (h : i < 9) : (jE j W e i).set (3 + i) (tB e i) = jE j W e (i + 1) := by unfold jE;rw [List.set_append_right _ _ So, List.range_succ, List.map_append];simp only [List.length_append, List.length_cons, List.length_nil, List.length_map, List.length_range];rw [show 3 + i - (0 + 1 + 1 + 1 + i) = 0 by omega, show 9 - i = (9 - (i + 1)) + 1 by omega, List.replicate_succ, List.set_cons_zero];simp
theorem Cm (j W e : Lb) (i : Nat) : (jE j W e i).getD 2 [] = e := rfl
theorem xW {B : Oa} {c d : Nat} {xs : Lb} (HA : Bs w A n xs) (HB : Bs w B m ys) : cT w #[.slice A n c, .slice B m d, .slice none 0 0, .slice none 0 0, .slice none 0 0, .slice none 0 0, .slice none 0 0, .slice none 0 0, .slice none 0 0, .slice none 0 0, .slice none 0 0, .slice none 0 0] (jE xs ys [] 0) := by
 refine ⟨_, rfl, rfl, rfl, fun i hi => ?_⟩
 match i, hi with
 | 0, _ => exact ⟨A, n, c, rfl, HA⟩
 | 1, _ => exact ⟨B, m, d, rfl, HB⟩
 | 2, _ => exact ⟨none, 0, 0, rfl, Bs.nil _ _⟩
 | 3, _ => exact ⟨none, 0, 0, rfl, Bs.nil _ _⟩
 | 4, _ => exact ⟨none, 0, 0, rfl, Bs.nil _ _⟩
 | 5, _ => exact ⟨none, 0, 0, rfl, Bs.nil _ _⟩
 | 6, _ => exact ⟨none, 0, 0, rfl, Bs.nil _ _⟩
 | 7, _ => exact ⟨none, 0, 0, rfl, Bs.nil _ _⟩
 | 8, _ => exact ⟨none, 0, 0, rfl, Bs.nil _ _⟩
 | 9, _ => exact ⟨none, 0, 0, rfl, Bs.nil _ _⟩
 | 10, _ => exact ⟨none, 0, 0, rfl, Bs.nil _ _⟩
 | 11, _ => exact ⟨none, 0, 0, rfl, Bs.nil _ _⟩
theorem wK (j W e : Lb) : (jE j W [] 0).set 2 e = jE j W e 0 := rfl
theorem CA (j : Lb) (c : Ctx) : jE j (Kdf.label (pZ j) jh.data.toList [] 32) (sM j c) 9 = eo j c := by unfold jE eo; simp
theorem sj (B : ao w g t (List.replicate 32 (Value.int .u8 0)).toArray) : Bs w (some ⟨g, 0, none⟩) 32 (List.replicate 32 0) := bh (B.congr (by rfl)) (by simp)
theorem DN (A : Oa) (n c : Nat) (xs : Lb) (cs : Array Value) (x : Ctx) (w : World) (HA : Bs w A n xs) (hn : n ≤ 1000) (H : gP w cs x) (hs : x.Small) :
  Ct 41 #[.slice A n c, .agg cs] w fun e w' => ∃ ds, e = .returned (.agg ds) ∧ cT w' ds (eo xs x) ∧ Ext w w' := by
 have hz := H.size;have E := Ext.refl w
 obtain ⟨W, hW⟩ : ∃ W, W = Kdf.label (pZ xs) jh.data.toList [] 32 := ⟨_, rfl⟩
 obtain ⟨ep, hep⟩ : ∃ e, e = sM xs x := ⟨_, rfl⟩
 have hepl : ep.length = 32 := by rw [hep]; exact dK _ _ _ _
 refine aK (s := 12) 38 func41 rfl rfl rfl underlying44 rfl Kr rfl ?_;intro _ hret;refine au 2 ?_;refine ag (nA (cs := cs) rfl rfl) rfl ?_;rintro _ _ ⟨_, rfl, B3, _, ex⟩;obtain ⟨E,HA,H⟩ := bF ex E HA H;have E0 := E;refine ag (dJ (Z := Gv) Kr) rfl ?_;rintro _ _ ⟨g4, rfl, B4, VE, ex⟩;obtain ⟨E,HA,H,B3⟩ := bU ex E HA H B3;have VF := Nat.le_trans E0.size VE;refine au 5 ?_;refine ag (dD (n := 32) (z := .int .u8 0) (bytes := 1) rfl rfl Tn.u Kr rfl rfl rfl rfl Om Om) rfl ?_;rintro _ _ ⟨_, rfl, BZ, _, ex⟩;obtain ⟨E,HA,H,B3,B4⟩ := eQ ex E HA H B3 B4;have HZ := sj BZ;refine aC func99 rfl (qy A _ n c 32 32 xs _ _ HA Om HZ Om) ?_;rintro e _ ⟨A5, c5, rfl, H5, ex⟩;obtain ⟨E,HA,H,B3,B4⟩ := eQ ex E HA H B3 B4;refine au 7 ?_;refine aC func100 rfl (AJ A n c xs _ HA Om) ?_;rintro e _ ⟨A6, c6, rfl, H6, _, ex⟩;obtain ⟨E,H,B3,B4,H5⟩ := eQ ex E H B3 B4 H5;refine au 2 ?_;refine aC func67 rfl (iR A5 32 c5 jh _ _ H5 Om (by decide)) ?_;rintro e w6 ⟨A7, c7, rfl, ⟨H7, _⟩, ex⟩;refine au 1 ?_;obtain ⟨E,H,B3,B4,H5,H6⟩ := iJ ex E H B3 B4 H5 H6;replace H7 : Bs w6 A7 32 W := by rw [hW]; exact H7
 refine al (ar rfl (cells := #[.slice A6 n c6, .slice A7 32 c7, .slice none 0 0, .slice none 0 0, .slice none 0 0, .slice none 0 0, .slice none 0 0, .slice none 0 0, .slice none 0 0, .slice none 0 0, .slice none 0 0, .slice none 0 0]) Kr) ?_;have Vt := E;have VA := H;have Vu := B3;have Vs := B4;have Vv := H5;have Vw := H6;have Vx := H7;refine ag (dJ (Z := Gv) Kr) rfl ?_;rintro _ _ ⟨g6, rfl, Vq, VB, ex⟩;have Vr := ex;obtain ⟨E,H,B3,B4,H5,H6,H7⟩ := iO ex E H B3 B4 H5 H6 H7;have VD := Nat.le_trans Vt.size VB; have VO := Nat.lt_of_lt_of_le Vs.lt VB;refine ag (ah rfl rfl Kr Vq rfl (by simp [Value.oneCell'])) rfl ?_;rintro _ _ ⟨rfl, Vq, cg⟩;replace Vr := Vr.aA cg VB;replace E := Vt.ext Vr;replace H := VA.ext Vr;replace B3 := Vu.ext Vr;replace B4 := Vs.ext Vr;replace H5 := Vv.ext Vr;replace H6 := Vw.ext Vr;replace H7 := Vx.ext Vr;have HS := xW (c := c6) (d := c7) H6 H7;refine au 5 ?_;refine al (aW rfl Tn.u rfl (by rw [hz]; kernel_rfl) B3) ?_;refine aC func101 rfl (vS cs x _ H hs) ?_;rintro e _ ⟨A8, k8, c8, rfl, H8, _, ex⟩;obtain ⟨E,B4,H5,Vq,HS⟩ := eQ ex E B4 H5 Vq HS;refine au 1 ?_;refine aC func98 rfl (kH A5 A8 32 c5 k8 c8 32 Bf _ _ _ H5 Om (by decide) H8 Om Om) ?_;rintro e w9 ⟨A9, c9, rfl, H9, ex⟩;refine au 1 ?_;obtain ⟨E,B4,Vq,HS⟩ := bU ex E B4 Vq HS;replace H9 : Bs w9 A9 32 ep := by rw [hep]; exact H9
 refine al (fP 2 1 0 2 Tn.u) ?_;refine ag (aq rfl rfl rfl Kr Vq (by rw [HS.size]; omega)) rfl ?_;rintro _ _ ⟨rfl, VG, cg⟩;replace E := E.aA cg VD; replace B4 := B4.aA cg Om; replace HS := (HS.put Vq cg H9 (c := c9) (i := 2) Om).congr (wK xs W ep); replace Vq := VG;refine au 5 ?_;have VP := Vq.lt;refine aC func102 rfl (zy g6 _) ?_;rintro e _ ⟨gt, rfl, BT, _, ex⟩;obtain ⟨E,B4,Vq,HS⟩ := bU ex E B4 Vq HS;have VQ : g6 < gt := by omega
 refine au 6 ?_;refine aD (fun n' L wr => ∃ (i : Nat) (ds : Array Value), L = [(4, .pointer (some ⟨g4, 0, none⟩)), (6, .pointer (some ⟨g6, 0, none⟩)), (22, .slice (some ⟨gt, 0, none⟩) 9 9), (23, .int .i64 ((9 : Nat) : Int)), (24, .int .i64 (i : Int))] ∧ n' = 9 - i ∧ (i ≤ 9 ∧ Ext w wr ∧ ao wr g4 44 Gv ∧ ao wr g6 44 ds ∧ cT wr ds (jE xs W ep i) ∧ ao wr gt 159 (mg g6))) _ _ ⟨0, _, rfl, rfl, by omega, E, B4, Vq, HS, BT⟩ Ls ?_;rintro _ n' L wr ⟨i, ds, rfl, rfl, _, E, B4, B6, HS, BT⟩ VH;refine au 2 ?_;refine al (eX rfl rfl) ?_;refine au 3 ?_;refine ak rfl (fun VI => ?_) (fun VI => ?_)
 ·have htab := PU g6 (i := i) Om;refine au 6 ?_;refine al (JX (s := 2) rfl rfl Tn.u Kr (j := i) rfl Om) ?_;refine al ((dP (cs := #[.string (fD i), .pointer (some ⟨g6, 3 + i, none⟩)]) rfl Tn.u rfl Kr (fun j v hv => by rw [Addr.add_plain, BT.cell, Nat.zero_add, Nat.mul_comm]; match j, hv with | 0, hv => injection hv with hv; rw [← hv]; exact htab.1 | 1, hv => injection hv with hv; rw [← hv]; exact htab.2 | j + 2, hv => simp at hv))) ?_;have E_gx := E;have Vy := B4;have Vz := B6;have HS_gx := HS;have BT_gx := BT;refine ag (dJ (Z := #[.string ⟨#[]⟩, .pointer none]) Kr) rfl ?_;rintro _ _ ⟨_, rfl, Bgx, hgx, ex⟩;have Xgx := ex;obtain ⟨E,B4,B6,HS,BT⟩ := eQ ex E B4 B6 HS BT;refine ag (ah rfl rfl Kr Bgx rfl (by simp [Value.oneCell'])) rfl ?_;rintro _ _ ⟨rfl, Bgx, cg⟩;replace Xgx := Xgx.aA cg hgx;replace E := E_gx.ext Xgx;replace B4 := Vy.ext Xgx;replace B6 := Vz.ext Xgx;replace HS := HS_gx.ext Xgx;replace BT := BT_gx.ext Xgx;refine au 2 ?_;refine az Kr 9 rfl ?_; intro VR ex VS;obtain ⟨E,B4,B6,HS,BT,Bgx⟩ := iJ ex E B4 B6 HS BT Bgx;obtain ⟨Ae, ne, ce, hce, He⟩ := HS.get (i := 2) Om;rw [Cm] at He;have hne : ne = 32 := by rw [← He.1]; exact hepl
  refine dg 0 rfl (fun _ => fP 1 1 0 1 Tn.u) ?_;refine my 1 rfl (af rfl Tn.u rfl (Bgx.get (i := 1) rfl)) ?_;refine dg 2 rfl (fun _ => fP 2 1 0 2 Tn.u) ?_;refine my 3 rfl (af rfl Tn.u rfl (B6.get hce)) ?_;refine dg 4 rfl (fun _ => fP 0 1 0 0 Tn.u) ?_;refine my 5 rfl (af rfl Tn.u rfl (Bgx.get (i := 0) rfl)) ?_;refine bz 6 rfl func67 rfl (iR Ae ne ce (fD i) ep _ He Om (eU i)) ?_;rintro e _ ⟨_, VJ, rfl, ⟨VK, _⟩, ex⟩;obtain ⟨E,B4,B6,HS,BT⟩ := eQ ex E B4 B6 HS BT;refine au 1 ?_;refine dg 7 rfl (fun _ => GN rfl) ?_;refine aL 8 Kr ?_; refine aQ rfl (aq rfl rfl rfl Kr B6 (by rw [HS.size]; omega)) rfl ?_;rintro _ _ ⟨rfl, VL, cg⟩;refine ⟨.inl rfl, ?_⟩;replace E := E.aA cg VD; replace B4 := B4.aA cg Om; replace BT := BT.aA cg Om; replace HS := (HS.put B6 cg VK (c := VJ) (i := 3 + i) Om).congr (Bg xs W ep Om);refine oq Kr ?_;refine au 4 ?_;refine al (aN rfl rfl (bj Om Om)) ?_;refine au 2 ?_;refine ae ?_;refine VH _ _ ⟨i + 1, _, rfl, rfl, by omega, E, B4, VL, HS, BT⟩ Om Ls
 refine au 7 ?_;refine al (aW rfl Tn.u rfl (by rw [HS.size]; kernel_rfl) B6) ?_;refine ag (ah rfl rfl (by rw [HS.size]; kernel_rfl) B4 (by rw [HS.size]; rfl) HS.one) rfl ?_;rintro _ _ ⟨rfl, VM, cg⟩;have VN := E.aA cg VF; have VC := HS.aA B4 Dd cg;refine au 3 ?_;refine hret rfl VM HS.size ?_;exact ⟨ds, rfl, VC.congr (by rw [show i = 9 by omega, hW, hep]; exact CA xs x), VN⟩
theorem Em (A B : Oa) (n m c d : Nat) (xs ys : Lb) (w : World) (ha : Bs w A n xs) (hb : Bs w B m ys) (hn : n ≤ 140737488355328) (hm : m ≤ 140737488355328) :
  Ct 26 #[.slice A n c, .slice B m d] w fun e w' => e = .returned (.bool (decide (xs = ys))) ∧ Ext w w' :=
 (zM A B n m c d xs ys w ha hb hn hm).mono fun _ _ ⟨h, k, hk⟩ => ⟨h, hk ▸ Ext.drewN w k⟩
theorem dz (A : Oa) (n c : Nat) (s : ByteArray) (ks : Lb) (w : World) (HA : Bs w A n ks) (hn : n ≤ 35184372088832) (hs : s.size ≤ 1048576) :
  Ct 51 #[.slice A n c, .string s] w fun e w' => ∃ A' c', e = .returned (.slice A' 32 c') ∧ Bs w' A' 32 (Kdf.label ks s.data.toList [] 32) ∧ Ext w w' := by
 refine ai 8 func51 rfl rfl rfl rfl ?_;intro _ hret;refine aU ?_;refine aC func47 rfl (dN A none n c 0 0 32 s ks [] _ HA hn hs (Bs.nil _ _) Om Om) ?_;rintro e _ ⟨A1, c1, rfl, H1, ex⟩;refine aU ?_;refine hret rfl ?_;exact ⟨A1, c1, rfl, H1, ex⟩
theorem lS (A : Oa) (n c : Nat) (xs : Lb) (w : World) (HA : Bs w A n xs) (hn : n ≤ 1000) :
  Ct 48 #[.slice A n c] w fun e w' => ∃ A' c', e = .returned (.slice A' 32 c') ∧ Bs w' A' 32 (pZ xs) ∧ Ext w w' := by
 refine ai 6 func48 rfl rfl rfl rfl ?_;intro _ hret;refine aU ?_;refine ag (dD (n := 32) (z := .int .u8 0) (bytes := 1) rfl rfl Tn.u Kr rfl rfl rfl rfl Om Om) rfl ?_;rintro _ _ ⟨_, rfl, BZ, _, ex⟩;replace HA := HA.ext ex;have HZ := sj BZ; have E1 := ex;refine aC func18 rfl (kf A _ n c 32 32 xs _ _ HA Om HZ Om) ?_;rintro e _ ⟨A2, c2, rfl, R2, ex⟩;have E2 := E1.ext ex;refine aU ?_;refine hret rfl ?_;exact ⟨A2, c2, rfl, R2.bs, E2⟩
theorem Ax (A : Oa) (n c : Nat) (xs : Lb) (cs : Array Value) (x : Ctx) (w : World) (HA : Bs w A n xs) (hn : n ≤ 1000) (H : gP w cs x) (hs : x.Small) :
  Ct 50 #[.slice A n c, .agg cs] w fun e w' => ∃ A' c', e = .returned (.slice A' 32 c') ∧ Bs w' A' 32 (sM xs x) ∧ Ext w w' := by
 have hz := H.size;have E := Ext.refl w;refine ai 10 func50 rfl rfl rfl rfl ?_;intro _ hret;refine aU ?_;intro w1 g1 (B1 : ao _ _ _ (cs)) Vq ex;obtain ⟨E,HA,H⟩ := bF ex E HA H;refine aU ?_;refine az Kr 6 rfl ?_; intro Vr ex Vs;obtain ⟨E,HA,H,B1⟩ := bU ex E HA H B1;refine zm [0] ?_;refine my 2 rfl (aW rfl Tn.u rfl (by rw [hz]; kernel_rfl) B1) ?_;refine bz 1 rfl func48 rfl (lS A n c xs _ HA hn) ?_;rintro e _ ⟨A2, c2, rfl, H2, ex⟩;obtain ⟨E,H⟩ := aZ ex E H;refine aU ?_;refine bz 3 rfl func119 rfl (jH cs x _ H hs) ?_;rintro e _ ⟨A3, k3, c3, rfl, R3, _, ex⟩;obtain ⟨E,H2⟩ := aZ ex E H2;refine aU ?_;refine bz 4 rfl func47 rfl (dN A2 A3 32 c2 k3 c3 32 Bf _ _ _ H2 Om (by decide) R3.bs Om Om) ?_;rintro e _ ⟨A4, c4, rfl, H4, ex⟩;replace E := E.ext ex;refine zm [5] ?_;refine hret rfl ?_;exact ⟨A4, c4, rfl, H4, E⟩
theorem EJ {A0 A1 A2 A3 A4 A5 A6 A7 A8 A9 Vq Vr : Oa} {n0 n1 n2 n3 n4 n5 n6 n7 n8 n9 Vs Vt c0 c1 c2 c3 c4 c5 c6 c7 c8 c9 c10 c11 : Nat} {x0 x1 x2 x3 x4 x5 x6 x7 x8 x9 Vu Vv : Lb}
  (h0 : Bs w A0 n0 x0) (h1 : Bs w A1 n1 x1) (h2 : Bs w A2 n2 x2) (h3 : Bs w A3 n3 x3) (h4 : Bs w A4 n4 x4) (h5 : Bs w A5 n5 x5) (h6 : Bs w A6 n6 x6) (h7 : Bs w A7 n7 x7) (h8 : Bs w A8 n8 x8) (h9 : Bs w A9 n9 x9) (Vw : Bs w Vq Vs Vu) (Vx : Bs w Vr Vt Vv) :
  cT w #[.slice A0 n0 c0, .slice A1 n1 c1, .slice A2 n2 c2, .slice A3 n3 c3, .slice A4 n4 c4, .slice A5 n5 c5, .slice A6 n6 c6, .slice A7 n7 c7, .slice A8 n8 c8, .slice A9 n9 c9, .slice Vq Vs c10, .slice Vr Vt c11] [x0, x1, x2, x3, x4, x5, x6, x7, x8, x9, Vu, Vv] := by
 refine ⟨_, rfl, rfl, rfl, fun i hi => ?_⟩
 match i, hi with
 | 0, _ => exact ⟨_, _, _, rfl, h0⟩
 | 1, _ => exact ⟨_, _, _, rfl, h1⟩
 | 2, _ => exact ⟨_, _, _, rfl, h2⟩
 | 3, _ => exact ⟨_, _, _, rfl, h3⟩
 | 4, _ => exact ⟨_, _, _, rfl, h4⟩
 | 5, _ => exact ⟨_, _, _, rfl, h5⟩
 | 6, _ => exact ⟨_, _, _, rfl, h6⟩
 | 7, _ => exact ⟨_, _, _, rfl, h7⟩
 | 8, _ => exact ⟨_, _, _, rfl, h8⟩
 | 9, _ => exact ⟨_, _, _, rfl, h9⟩
 | 10, _ => exact ⟨_, _, _, rfl, Vw⟩
 | 11, _ => exact ⟨_, _, _, rfl, Vx⟩
theorem Ak (A : Oa) (n c : Nat) (xs : Lb) (cs : Array Value) (x : Ctx) (w : World) (HA : Bs w A n xs) (hn : n ≤ 1000) (H : gP w cs x) (hs : x.Small) :
  Ct 17 #[.slice A n c, .agg cs] w fun e w' => ∃ ds, e = .returned (.agg ds) ∧ cT w' ds (eo xs x) ∧ Ext w w' := by
 have hz := H.size;have E := Ext.refl w;refine aK (s := 12) 33 func17 rfl rfl rfl underlying44 rfl Kr rfl ?_;intro _ hret;refine aU ?_;intro w1 g3 (B3 : ao _ _ _ (cs)) Vz ex;obtain ⟨E,HA,H⟩ := bF ex E HA H;have E0 := E;refine aU ?_;intro w2 g4 (B4 : ao _ _ _ (Gv)) Vs ex;obtain ⟨E,HA,H,B3⟩ := bU ex E HA H B3;have Vt := Nat.le_trans E0.size Vs;refine au 5 ?_;refine al (aW rfl Tn.u rfl (by rw [hz]; kernel_rfl) B3) ?_;refine aC func50 rfl (Ax A n c xs cs x _ HA hn H hs) ?_;rintro e _ ⟨Ae, ce, rfl, He, ex⟩;obtain ⟨E,HA,B4⟩ := bF ex E HA B4;refine aU ?_;refine aC func48 rfl (lS A n c xs _ HA hn) ?_;rintro e _ ⟨Am, cm, rfl, Hm, ex⟩;obtain ⟨E,HA,B4,He⟩ := bU ex E HA B4 He;refine aU ?_;refine aC func51 rfl (dz Am 32 cm jh _ _ Hm Om (by decide)) ?_;rintro e _ ⟨A1, c1, rfl, H1, ex⟩;obtain ⟨E,HA,B4,He⟩ := bU ex E HA B4 He;refine aU ?_;refine aC func51 rfl (dz Ae 32 ce (fD 0) _ _ He Om (eU 0)) ?_;rintro e _ ⟨A3, c3, rfl, H3, ex⟩;obtain ⟨E,HA,B4,He,H1⟩ := eQ ex E HA B4 He H1;refine aU ?_;refine aC func51 rfl (dz Ae 32 ce (fD 1) _ _ He Om (eU 1)) ?_;rintro e _ ⟨A4, c4, rfl, H4, ex⟩;obtain ⟨E,HA,B4,He,H1,H3⟩ := iJ ex E HA B4 He H1 H3;refine aU ?_;refine aC func51 rfl (dz Ae 32 ce (fD 2) _ _ He Om (eU 2)) ?_;rintro e _ ⟨A5, c5, rfl, H5, ex⟩;obtain ⟨E,HA,B4,He,H1,H3,H4⟩ := iO ex E HA B4 He H1 H3 H4;refine aU ?_;refine aC func51 rfl (dz Ae 32 ce (fD 3) _ _ He Om (eU 3)) ?_;rintro e _ ⟨A6, c6, rfl, H6, ex⟩;obtain ⟨E,HA,B4,He,H1,H3,H4,H5⟩ := NZ ex E HA B4 He H1 H3 H4 H5;refine aU ?_;refine aC func51 rfl (dz Ae 32 ce (fD 4) _ _ He Om (eU 4)) ?_;rintro e _ ⟨A7, c7, rfl, H7, ex⟩;obtain ⟨E,HA,B4,He,H1,H3,H4,H5,H6⟩ := tU ex E HA B4 He H1 H3 H4 H5 H6;refine aU ?_;refine aC func51 rfl (dz Ae 32 ce (fD 5) _ _ He Om (eU 5)) ?_;rintro e _ ⟨A8, c8, rfl, H8, ex⟩;obtain ⟨E,HA,B4,He,H1,H3,H4,H5,H6⟩ := tU ex E HA B4 He H1 H3 H4 H5 H6;replace H7 := H7.ext ex;refine aU ?_;refine aC func51 rfl (dz Ae 32 ce (fD 6) _ _ He Om (eU 6)) ?_;rintro e _ ⟨A9, c9, rfl, H9, ex⟩;obtain ⟨E,HA,B4,He,H1,H3,H4,H5,H6⟩ := tU ex E HA B4 He H1 H3 H4 H5 H6;obtain ⟨H7,H8⟩ := aZ ex H7 H8;refine aU ?_;refine aC func51 rfl (dz Ae 32 ce (fD 7) _ _ He Om (eU 7)) ?_;rintro e _ ⟨Vu, c10, rfl, Vq, ex⟩;obtain ⟨E,HA,B4,He,H1,H3,H4,H5,H6⟩ := tU ex E HA B4 He H1 H3 H4 H5 H6;obtain ⟨H7,H8,H9⟩ := bF ex H7 H8 H9;refine aU ?_;refine aC func51 rfl (dz Ae 32 ce (fD 8) _ _ He Om (eU 8)) ?_;rintro e _ ⟨Vv, c11, rfl, Vw, ex⟩;obtain ⟨E,HA,B4,He,H1,H3,H4,H5,H6⟩ := tU ex E HA B4 He H1 H3 H4 H5 H6;obtain ⟨H7,H8,H9,Vq⟩ := bU ex H7 H8 H9 Vq;refine au 1 ?_;refine al (ar rfl (cells := #[.slice A n c, .slice A1 32 c1, .slice Ae 32 ce, .slice A3 32 c3, .slice A4 32 c4, .slice A5 32 c5, .slice A6 32 c6, .slice A7 32 c7, .slice A8 32 c8, .slice A9 32 c9, .slice Vu 32 c10, .slice Vv 32 c11]) Kr) ?_;have HS := EJ (c0 := c) (c1 := c1) (c2 := ce) (c3 := c3) (c4 := c4) (c5 := c5) (c6 := c6) (c7 := c7) (c8 := c8) (c9 := c9) (c10 := c10) (c11 := c11) HA H1 He H3 H4 H5 H6 H7 H8 H9 Vq Vw;refine ag (ah rfl rfl Kr B4 rfl (by simp [Value.oneCell'])) rfl ?_;rintro _ _ ⟨rfl, Vx, cg⟩;have Vy := E.aA cg Vt; have Vr := HS.aA B4 Dd cg;refine aU ?_;refine hret rfl Vx rfl ?_;exact ⟨_, rfl, Vr.congr (by unfold eo sM tB; rfl), Vy⟩
theorem uk (A B : Oa) (n c m d : Nat) (xss yss : List (List UInt8)) (w : World) (HA : rO w A n xss) (HB : rO w B m yss) (hn : n ≤ 1000000) (hx : ∀ x ∈ xss, x.length ≤ 1000000) (hy : ∀ x ∈ yss, x.length ≤ 1000000) :
  Ct 65 #[.slice A n c, .slice B m d] w fun e w' => e = .returned (.bool (decide (xss = yss))) ∧ Ext w w' := by
 have Vt := HA.1; have Vu := HB.1;have Vv := HA; have Vw := HB;refine ai 27 func65 rfl rfl rfl rfl ?_;intro _ hret;refine aU ?_;refine ak rfl (fun Vx => ?_) (fun Vx => ?_)
 ·have hne : xss ≠ yss := fun e => by rw [e, Vu] at Vt; omega
  refine aU ?_;refine hret rfl ?_;exact ⟨by rw [decide_eq_false hne], Ext.refl _⟩
 refine aU ?_;refine aD (fun n' L wr => ∃ i : Nat, L = [(0, .slice A n c), (1, .slice B m d), (5, .int .i64 (i : Int))] ∧ n' = n - i ∧ (i ≤ n ∧ Ext w wr ∧ xss.take i = yss.take i)) _ _ ⟨0, rfl, rfl, by omega, Ext.refl _, rfl⟩ Ls ?_;rintro _ n' L wr ⟨i, rfl, rfl, _, E, ht⟩ Vy;refine aU ?_;refine ak rfl (fun Vz => ?_) (fun Vz => ?_)
 ·refine aU ?_;refine az Kr 10 rfl ?_; intro VE ex VF;replace E := E.ext ex;obtain ⟨b1, o1, A1, m1, d1, x1, VA, Vr, VB, H1⟩ := rO.get (Vv.ext E) (k := i) Om;obtain ⟨b2, o2, A2, m2, d2, x2, VC, Vs, VD, H2⟩ := rO.get (Vw.ext E) (k := i) Om;subst VA; subst VC
  have z1 : m1 ≤ 1000000 := by rw [← H1.1, Vr.out, List.getD_eq_getElem?_getD, List.getElem?_eq_getElem Om]; exact hx _ (List.getElem_mem _)
  have z2 : m2 ≤ 1000000 := by rw [← H2.1, Vs.out, List.getD_eq_getElem?_getD, List.getElem?_eq_getElem Om]; exact hy _ (List.getElem_mem _)
  refine zm [0, 1, 2] ?_;refine my 3 rfl (af rfl Tn.u rfl VB) ?_;refine zm [4, 5, 6] ?_;refine my 7 rfl (af rfl Tn.u rfl VD) ?_;refine bz 8 rfl func26 rfl (Em A1 A2 m1 m2 d1 d2 x1 x2 _ H1 H2 Om Om) ?_;rintro e _ ⟨rfl, ex⟩;refine au 1 ?_;have E3 := E.ext ex;have e1 : x1 = xss[i]'Om := by rw [Vr.out, List.getD_eq_getElem?_getD, List.getElem?_eq_getElem Om]; rfl
  have e2 : x2 = yss[i]'Om := by rw [Vs.out, List.getD_eq_getElem?_getD, List.getElem?_eq_getElem Om]; rfl
  refine zm [9] ?_;refine bB rfl (fun Vq => ?_) (fun Vq => ?_)
  ·have hd : x1 ≠ x2 := by simpa using Vq
   refine aU ?_;refine hret rfl ?_;have hne : xss ≠ yss := fun e => hd (by rw [e1, e2]; simp only [e]);exact ⟨by rw [decide_eq_false hne], E3⟩
  have hd : x1 = x2 := by simpa using Vq
  refine au 8 ?_;refine ae ?_;refine Vy _ _ ⟨i + 1, rfl, rfl, by omega, E3, by rw [List.take_succ_eq_append_getElem Om, List.take_succ_eq_append_getElem Om, ht, ← e1, ← e2, hd]⟩ Om Ls
 refine aU ?_;refine hret rfl ?_
 have he : xss = yss := by rw [List.take_of_length_le Om, List.take_of_length_le Om] at ht; exact ht
 exact ⟨by rw [decide_eq_true he], E⟩
theorem Ei (H : cT w cs l) (B : ao w g t cs) : rO w (some ⟨g, 0, none⟩) 12 l := by obtain ⟨vs, rfl, h2, h3, h4⟩ := H;refine ⟨h3, vs, by omega, At.jn B, fun i hi => ?_⟩;obtain ⟨A, n, c, h5, h6⟩ := h4 i hi;exact ⟨A, n, c, h5, h6⟩
theorem BY (cs ds : Array Value) (l m : List (List UInt8)) (w : World) (H : cT w cs l) (K : cT w ds m) (hl : ∀ x ∈ l, x.length ≤ 1000000) (hm : ∀ x ∈ m, x.length ≤ 1000000) :
  Ct 25 #[.agg cs, .agg ds] w fun e w' => e = .returned (.bool (decide (l = m))) ∧ Ext w w' := by
 have E := Ext.refl w;have hcs : cs.size = 12 := H.size;have O0 : ds.size = 12 := K.size;obtain ⟨a0, VW, VX, VC, _⟩ := H.get (i := 0) Om;obtain ⟨b0, VY, VZ, VD, _⟩ := K.get (i := 0) Om;obtain ⟨a1, V0, V4, VE, _⟩ := H.get (i := 1) Om;obtain ⟨b1, Tx, V5, VF, _⟩ := K.get (i := 1) Om;obtain ⟨a2, V6, V9, VG, _⟩ := H.get (i := 2) Om;obtain ⟨b2, Wa, Wb, VH, _⟩ := K.get (i := 2) Om;obtain ⟨a3, Wc, We, VI, _⟩ := H.get (i := 3) Om;obtain ⟨b3, Wf, Wg, VJ, _⟩ := K.get (i := 3) Om;obtain ⟨a4, Wh, Wi, VK, _⟩ := H.get (i := 4) Om;obtain ⟨b4, UI, Wj, VL, _⟩ := K.get (i := 4) Om;obtain ⟨a5, Wk, Wl, VM, _⟩ := H.get (i := 5) Om;obtain ⟨b5, Wm, Wn, VN, _⟩ := K.get (i := 5) Om;obtain ⟨a6, Wo, Wq, VO, _⟩ := H.get (i := 6) Om;obtain ⟨b6, Wr, Ws, VP, _⟩ := K.get (i := 6) Om;obtain ⟨a7, Ww, Wx, VQ, _⟩ := H.get (i := 7) Om;obtain ⟨b7, Wy, Wz, VR, _⟩ := K.get (i := 7) Om;obtain ⟨a8, WA, WB, VS, _⟩ := H.get (i := 8) Om;obtain ⟨b8, WD, WE, VT, _⟩ := K.get (i := 8) Om;obtain ⟨a9, WG, WH, VU, _⟩ := H.get (i := 9) Om;obtain ⟨b9, WI, WO, VV, _⟩ := K.get (i := 9) Om;obtain ⟨WS, Vu, Vv, Vq, _⟩ := H.get (i := 10) Om;obtain ⟨WT, Vw, Vx, Vr, _⟩ := K.get (i := 10) Om;obtain ⟨WU, Vy, Vz, Vs, _⟩ := H.get (i := 11) Om;obtain ⟨WV, VA, VB, Vt, _⟩ := K.get (i := 11) Om
 have ecs : cs = #[.slice a0 VW VX, .slice a1 V0 V4, .slice a2 V6 V9, .slice a3 Wc We, .slice a4 Wh Wi, .slice a5 Wk Wl, .slice a6 Wo Wq, .slice a7 Ww Wx, .slice a8 WA WB, .slice a9 WG WH, .slice WS Vu Vv, .slice WU Vy Vz] := by
  apply Array.ext_getElem?;intro i
  match i with
  | 0 => rw [VC]; rfl
  | 1 => rw [VE]; rfl
  | 2 => rw [VG]; rfl
  | 3 => rw [VI]; rfl
  | 4 => rw [VK]; rfl
  | 5 => rw [VM]; rfl
  | 6 => rw [VO]; rfl
  | 7 => rw [VQ]; rfl
  | 8 => rw [VS]; rfl
  | 9 => rw [VU]; rfl
  | 10 => rw [Vq]; rfl
  | 11 => rw [Vs]; rfl
  | i + 12 => rw [Array.getElem?_eq_none Om]; simp
 have eds : ds = #[.slice b0 VY VZ, .slice b1 Tx V5, .slice b2 Wa Wb, .slice b3 Wf Wg, .slice b4 UI Wj, .slice b5 Wm Wn, .slice b6 Wr Ws, .slice b7 Wy Wz, .slice b8 WD WE, .slice b9 WI WO, .slice WT Vw Vx, .slice WV VA VB] := by
  apply Array.ext_getElem?;intro i
  match i with
  | 0 => rw [VD]; rfl
  | 1 => rw [VF]; rfl
  | 2 => rw [VH]; rfl
  | 3 => rw [VJ]; rfl
  | 4 => rw [VL]; rfl
  | 5 => rw [VN]; rfl
  | 6 => rw [VP]; rfl
  | 7 => rw [VR]; rfl
  | 8 => rw [VT]; rfl
  | 9 => rw [VV]; rfl
  | 10 => rw [Vr]; rfl
  | 11 => rw [Vt]; rfl
  | i + 12 => rw [Array.getElem?_eq_none Om]; simp
 refine ai 60 func25 rfl rfl rfl rfl ?_;intro _ hret;refine aU ?_;intro w1 g1 (B1 : ao _ _ _ (cs)) WW ex;obtain ⟨E,H,K⟩ := bF ex E H K;refine aU ?_;intro w2 g2 (B2 : ao _ _ _ (ds)) WX ex;obtain ⟨E,H,K,B1⟩ := bU ex E H K B1;refine au 6 ?_;refine al (af rfl Tn.u rfl (B1.get VC)) ?_;refine au 1 ?_;refine al (af rfl Tn.u rfl (B1.get VE)) ?_;refine au 1 ?_;refine al (af rfl Tn.u rfl (B1.get VG)) ?_;refine au 1 ?_;refine al (af rfl Tn.u rfl (B1.get VI)) ?_;refine au 1 ?_;refine al (af rfl Tn.u rfl (B1.get VK)) ?_;refine au 1 ?_;refine al (af rfl Tn.u rfl (B1.get VM)) ?_;refine au 1 ?_;refine al (af rfl Tn.u rfl (B1.get VO)) ?_;refine au 1 ?_;refine al (af rfl Tn.u rfl (B1.get VQ)) ?_;refine au 1 ?_;refine al (af rfl Tn.u rfl (B1.get VS)) ?_;refine au 1 ?_;refine al (af rfl Tn.u rfl (B1.get VU)) ?_;refine au 1 ?_;refine al (af rfl Tn.u rfl (B1.get Vq)) ?_;refine au 1 ?_;refine al (af rfl Tn.u rfl (B1.get Vs)) ?_;refine ag (aF (z := .slice none 0 0) Tn.u Kr rfl rfl rfl rfl rfl) rfl ?_;rintro _ _ ⟨_, rfl, B3, _, ex⟩;obtain ⟨E,H,K,B2⟩ := bU ex E H K B2;refine au 6 ?_;refine al (af rfl Tn.u rfl (B2.get VD)) ?_;refine au 1 ?_;refine al (af rfl Tn.u rfl (B2.get VF)) ?_;refine au 1 ?_;refine al (af rfl Tn.u rfl (B2.get VH)) ?_;refine au 1 ?_;refine al (af rfl Tn.u rfl (B2.get VJ)) ?_;refine au 1 ?_;refine al (af rfl Tn.u rfl (B2.get VL)) ?_;refine au 1 ?_;refine al (af rfl Tn.u rfl (B2.get VN)) ?_;refine au 1 ?_;refine al (af rfl Tn.u rfl (B2.get VP)) ?_;refine au 1 ?_;refine al (af rfl Tn.u rfl (B2.get VR)) ?_;refine au 1 ?_;refine al (af rfl Tn.u rfl (B2.get VT)) ?_;refine au 1 ?_;refine al (af rfl Tn.u rfl (B2.get VV)) ?_;refine au 1 ?_;refine al (af rfl Tn.u rfl (B2.get Vr)) ?_;refine au 1 ?_;refine al (af rfl Tn.u rfl (B2.get Vt)) ?_;refine ag (aF (z := .slice none 0 0) Tn.u Kr rfl rfl rfl rfl rfl) rfl ?_;rintro _ _ ⟨_, rfl, B4, _, ex⟩;obtain ⟨E,H,K,B3⟩ := bU ex E H K B3;refine aU ?_;refine aC func65 rfl (uk _ _ 12 12 12 12 l m _ (Ei H (B3.congr ecs.symm)) (Ei K (B4.congr eds.symm)) Om hl hm) ?_;rintro e _ ⟨rfl, ex⟩;replace E := E.ext ex;refine aU ?_;refine hret rfl ?_;exact ⟨rfl, E⟩
def sn : ByteArray := ⟨#[107, 101, 121]⟩
def jl : ByteArray := ⟨#[110, 111, 110, 99, 101]⟩
theorem GR (cs : Array Value) (l : List (List UInt8)) (B : Oa) (m d : Nat) (ys : Lb) (w : World) (HS : cT w cs l) (hl : (l.getD 8 []).length ≤ 1000) (HB : Bs w B m ys) (hm : m ≤ 1000) :
  Ct 45 #[.agg cs, .slice B m d] w fun e w' => ∃ A' c', e = .returned (.slice A' 32 c') ∧ Bs w' A' 32 (Mac.tag (l.getD 8 []) ys) ∧ Ext w w' := by
 have hy := HB.1;obtain ⟨A8, n8, c8, q8, H8⟩ := HS.get (i := 8) Om;have hz := H8.1;refine ai 10 func45 rfl rfl rfl rfl ?_;intro _ hret;refine aU ?_;intro w0 g0 (B0 : ao _ _ _ (cs)) Vq ex;obtain ⟨HB,H8⟩ := aZ ex HB H8;have E0 := ex;refine au 6 ?_;refine al (af rfl Tn.u rfl (B0.get q8)) ?_;refine aU ?_;refine ag (aF (z := .slice none 0 0) Tn.u Kr rfl rfl rfl rfl rfl) rfl ?_;rintro _ _ ⟨_, rfl, B1, _, ex⟩;obtain ⟨HB,H8⟩ := aZ ex HB H8;have E1 := E0.ext ex;refine aC func112 rfl (wV A8 _ n8 c8 1 1 _ _ _ H8 Om (mD B1 HB) Om So) ?_;rintro e _ ⟨_, rfl, _, B2, ex⟩;have E2 := E1.ext ex;refine aU ?_;refine hret rfl ?_;exact ⟨_, 32, rfl, by have := bh B2 (Mac.dQ _ _); simpa using this, E2⟩
theorem FQ (cs : Array Value) (l : List (List UInt8)) (w : World) (HS : cT w cs l) (hl : (l.getD 1 []).length ≤ 1000) :
  Ct 40 #[.agg cs] w fun e w' => ∃ A1 c1 A2 c2, e = .returned (.tuple #[.slice A1 16 c1, .slice A2 12 c2]) ∧ Bs w' A1 16 (Kdf.label (l.getD 1 []) sn.data.toList [] 16) ∧ Bs w' A2 12 (Kdf.label (l.getD 1 []) jl.data.toList [] 12) ∧ Ext w w' := by
 obtain ⟨A0, n0, c0, q0, H0⟩ := HS.get (i := 1) Om;have z0 := H0.1;have E := Ext.refl w;refine bL 10 func40 rfl rfl rfl rfl ?_;intro _ hret;refine aU ?_;intro w0 g0 (B0 : ao _ _ _ (cs)) Vq ex;obtain ⟨E,H0⟩ := aZ ex E H0;refine aU ?_;refine az Kr 8 rfl ?_; intro Vr ex Vs;obtain ⟨E,H0,B0⟩ := bF ex E H0 B0;refine zm [0] ?_;refine my 1 rfl (af rfl Tn.u rfl (B0.get q0)) ?_;refine zm [3] ?_;refine my 4 rfl (af rfl Tn.u rfl (B0.get q0)) ?_;refine bz 2 rfl func98 rfl (kH A0 none n0 c0 0 0 16 sn _ [] _ H0 Om (by decide) (Bs.nil _ _) Om Om) ?_;rintro e _ ⟨A1, c1, rfl, H1, ex⟩;obtain ⟨E,H0⟩ := aZ ex E H0;refine aU ?_;refine bz 5 rfl func98 rfl (kH A0 none n0 c0 0 0 12 jl _ [] _ H0 Om (by decide) (Bs.nil _ _) Om Om) ?_;rintro e _ ⟨A2, c2, rfl, H2, ex⟩;obtain ⟨E,H1⟩ := aZ ex E H1;refine zm [6, 7] ?_;refine hret rfl rfl ?_;exact ⟨A1, c1, A2, c2, rfl, H1, H2, E⟩
end Go.Proofs.YtgfafidlkldeaaaGreat
