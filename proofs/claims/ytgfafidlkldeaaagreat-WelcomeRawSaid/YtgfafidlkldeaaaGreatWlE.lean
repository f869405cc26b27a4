/- welcome.Open. No conditions: contracts of functions. -/
import Derived.Test.YtgfafidlkldeaaaGreatWlB
import Derived.Test.YtgfafidlkldeaaaGreatHkG
import Derived.Test.YtgfafidlkldeaaaGreatMuG
import Derived.Test.YtgfafidlkldeaaaGreatMsZ
import Derived.Test.YtgfafidlkldeaaaGreatAu
set_option linter.unusedVariables false
set_option linter.unusedSimpArgs false
set_option maxHeartbeats 4000000
set_option maxRecDepth 4000
namespace Go.Proofs.YtgfafidlkldeaaaGreat
section
open Go.RowKit
attribute [local irreducible] Y Ef WL WC WK WQ WM cE WN WF dc WJ gJ WR xF
open Wire Nd Hk
/-! Blocks in which no byte lies. -/
def uQ (cs : Array Value) : Bool := cs.toList.all fun v => match v with | .int .u8 _ => false | _ => true
theorem Bs.P8 {w : World} {A : Oa} {n b : Nat} {t : TypeId} {cs : Array Value} {xs : Lb} (H : Bs w A n xs) (B : ao w b t cs) (h8 : uQ cs = true) (hn : 0 < n) (o : Nat) : A ≠ some ⟨b, o, none⟩ := fun e => by
 obtain ⟨b', off, hA, _, hc⟩ := H.get (k := 0) hn
 rw [e] at hA
 injection hA with hA
 injection hA with hA _ _
 subst hA
 rw [B.cell] at hc
 rw [← Array.getElem?_toList] at hc
 have h := List.all_eq_true.1 h8 _ (List.mem_of_getElem? hc)
 cases h
theorem fQ {w : World} {A : Oa} {n : Nat} {xs : Lb} {S : List Nat} (H : Bs w A n xs) (hS : ∀ g ∈ S, ∃ t cs, ao w g t cs ∧ uQ cs = true) : Kp w.heap.size S (fun w => Bs w A n xs) w :=
 Kp.bs H fun hn g hg o => by obtain ⟨t, cs, B, h⟩ := hS g hg; exact H.P8 B h hn o
theorem dP {w : World} : ∀ g ∈ ([] : List Nat), ∃ t cs, ao w g t cs ∧ uQ cs = true := fun _ h => by cases h
theorem bU {w : World} {a : Nat} {S : List Nat} {t : TypeId} {cs : Array Value} (B : ao w a t cs) (h : uQ cs = true) (hS : ∀ g ∈ S, ∃ t cs, ao w g t cs ∧ uQ cs = true) : ∀ g ∈ a :: S, ∃ t cs, ao w g t cs ∧ uQ cs = true := fun g hg => by
 rcases List.mem_cons.1 hg with rfl | hg
 ·exact ⟨t, cs, B, h⟩
 ·exact hS g hg
/-! Welcomes whose slices have their capacities; what a welcome has for one. -/
def fK (w : World) (cs : Array Value) (x : mx) : Prop := oX w cs x ∧ ∀ A n c, cs[2]? = some (.slice A n c) → n ≤ c
def gF (w : World) (cs : Array Value) (x : kX) : Prop := ∃ h0 h1, cs = jZ h0 h1 ∧ xV fK 3 w h0.A h0.n x.guests ∧ (kP w h1 x.info ∧ h1.n ≤ h1.c)
theorem fK.ext {w w' : World} {cs : Array Value} {x : mx} (h : fK w cs x) (e : Ext w w') : fK w' cs x := ⟨h.1.ext e, h.2⟩
theorem gF.ext {w w' : World} {cs : Array Value} {x : kX} (h : gF w cs x) (e : Ext w w') : gF w' cs x := by
 obtain ⟨h0, h1, rfl, a, b⟩ := h
 exact ⟨h0, h1, rfl, a.ext e fun _ _ h => fK.ext h e, Bs.ext b.1 e, b.2⟩
structure iy where
 info : kb
 secs : List (List UInt8)
 way : List UInt8
def iy.zero : iy := ⟨kb.zero, List.replicate 12 [], []⟩
def xZ (a b c d e f g h i j k l : Hd) : Array Value := #[.slice a.A a.n a.c, .slice b.A b.n b.c, .slice c.A c.n c.c, .slice d.A d.n d.c, .slice e.A e.n e.c, .slice f.A f.n f.c, .slice g.A g.n g.c, .slice h.A h.n h.c, .slice i.A i.n i.c, .slice j.A j.n j.c, .slice k.A k.n k.c, .slice l.A l.n l.c]
def mV (g : Hd) (ep : Nat) (t u tg : Hd) (z : Int) (sg a b c d e f g' h i j k l y : Hd) : Array Value := #[.slice g.A g.n g.c, .int .u64 (ep : Int), .slice t.A t.n t.c, .slice u.A u.n u.c, .slice tg.A tg.n tg.c, .int .i64 z, .slice sg.A sg.n sg.c, .slice a.A a.n a.c, .slice b.A b.n b.c, .slice c.A c.n c.c, .slice d.A d.n d.c, .slice e.A e.n e.c, .slice f.A f.n f.c, .slice g'.A g'.n g'.c, .slice h.A h.n h.c, .slice i.A i.n i.c, .slice j.A j.n j.c, .slice k.A k.n k.c, .slice l.A l.n l.c, .slice y.A y.n y.c]
def cC : Array Value := mV an 0 an an an 0 an an an an an an an an an an an an an an
def ew (w : World) (cs : Array Value) (x : iy) : Prop :=
 ∃ g t u tg sg a b c d e f g' h i j k l y, cs = mV g x.info.ctx.ep t u tg x.info.frm sg a b c d e f g' h i j k l y ∧ ir w (pq g x.info.ctx.ep t u tg x.info.frm sg) x.info ∧ cP w (xZ a b c d e f g' h i j k l) x.secs ∧ kP w y x.way
theorem ew.ext {w w' : World} {cs : Array Value} {x : iy} (H : ew w cs x) (E : Ext w w') : ew w' cs x := by
 obtain ⟨g, t, u, tg, sg, a, b, c, d, e, f, g', h, i, j, k, l, y, rfl, h1, h2, h3⟩ := H
 exact ⟨g, t, u, tg, sg, a, b, c, d, e, f, g', h, i, j, k, l, y, rfl, h1.ext E, h2.ext E, Bs.ext h3 E⟩
theorem cP.form {w : World} {cs : Array Value} {s : List (List UInt8)} (H : cP w cs s) : ∃ a b c d e f g h i j k l : Hd, cs = xZ a b c d e f g h i j k l := by
 have hz := H.size
 have hd : ∀ i, i < 12 → ∃ h : Hd, cs[i]? = some (.slice h.A h.n h.c) := fun i hi => by
  obtain ⟨A, n, c, h1, _⟩ := H.get hi
  exact ⟨⟨A, n, c⟩, h1⟩
 obtain ⟨a, ea⟩ := hd 0 Om
 obtain ⟨b, eb⟩ := hd 1 Om
 obtain ⟨c, ec⟩ := hd 2 Om
 obtain ⟨d, ed⟩ := hd 3 Om
 obtain ⟨e, ee⟩ := hd 4 Om
 obtain ⟨f, ef⟩ := hd 5 Om
 obtain ⟨g, eg⟩ := hd 6 Om
 obtain ⟨h, eh⟩ := hd 7 Om
 obtain ⟨i, ei⟩ := hd 8 Om
 obtain ⟨j, ej⟩ := hd 9 Om
 obtain ⟨k, ek⟩ := hd 10 Om
 obtain ⟨l, el⟩ := hd 11 Om
 refine ⟨a, b, c, d, e, f, g, h, i, j, k, l, ?_⟩
 refine Array.ext_getElem? fun q => ?_
 match q with
 | 0 => exact ea
 | 1 => exact eb
 | 2 => exact ec
 | 3 => exact ed
 | 4 => exact ee
 | 5 => exact ef
 | 6 => exact eg
 | 7 => exact eh
 | 8 => exact ei
 | 9 => exact ej
 | 10 => exact ek
 | 11 => exact el
 | q + 12 => rw [Array.getElem?_eq_none Om]; exact (Array.getElem?_eq_none (by show 12 ≤ _; omega)).symm
theorem IF (w : World) : cP w (xZ an an an an an an an an an an an an) (List.replicate 12 []) := by
 refine ⟨List.replicate 12 (.slice none 0 0), rfl, rfl, rfl, fun i hi => ⟨none, 0, 0, ?_, ?_⟩⟩
 ·rw [List.getElem?_replicate, if_pos hi]
 ·rw [List.getD_eq_getElem?_getD, List.getElem?_replicate, if_pos hi]; exact Bs.nil _ _
theorem ew.zero (w : World) : ew w cC iy.zero :=
 ⟨an, an, an, an, an, an, an, an, an, an, an, an, an, an, an, an, an, an, rfl, ⟨an, an, an, an, an, rfl, (by decide), (by decide), Bs.nil _ _, Bs.nil _ _, Bs.nil _ _, Bs.nil _ _, Bs.nil _ _⟩, IF w, Bs.nil _ _⟩
theorem Bf {w : World} {cs : Array Value} {s : List (List UInt8)} {S : List Nat} (H : cP w cs s) (hS : ∀ g ∈ S, ∃ t cs, ao w g t cs ∧ uQ cs = true) : Kp w.heap.size S (fun w => cP w cs s) w := by
 refine ⟨Nat.le_refl _, fun w2 hw => ?_⟩
 obtain ⟨vs, h1, h2, h3, h4⟩ := H
 exact ⟨vs, h1, h2, h3, fun i hi => by obtain ⟨A, n, c, h5, h6⟩ := h4 i hi; exact ⟨A, n, c, h5, (fQ h6 hS).2 w2 hw⟩⟩
theorem Ak {w : World} {cs : Array Value} {x : kb} {S : List Nat} (H : ir w cs x) (hS : ∀ g ∈ S, ∃ t cs, ao w g t cs ∧ uQ cs = true) : Kp w.heap.size S (fun w => ir w cs x) w :=
 ⟨Nat.le_refl _, fun w2 hw => j8.imp H fun _ _ b => (fQ b hS).2 w2 hw⟩
/-! What a welcome has for a package, plainly. -/
def mJ : ByteArray := ⟨#[87, 101, 108, 99, 111, 109, 101]⟩
theorem sk : mJ.size ≤ 100 := by decide
def mO (x : kX) (j way t : Lb) : iy × Nat :=
 if (M20.cW t).2 ≠ 0 then (iy.zero, (M20.cW t).2)
 else if (M20.cW t).1.tag ≠ Mac.tag ((bJ j (M20.cW t).1.ctx).getD 8 []) (M20.cW t).1.ctx.trans then (iy.zero, 16)
 else (⟨(M20.cW t).1, bJ j (M20.cW t).1.ctx, way⟩, 0)
def kE (j : Lb) : List UInt8 := Kdf.label (oz j) ib.data.toList [] 32
def Ny (x : kX) (j way : Lb) : Option (List UInt8) → iy × Nat
 | none => (iy.zero, 11)
 | some t => mO x j way t
def Bt (x : kX) (j way : Lb) : iy × Nat := Ny x j way (Gm.xH (Kdf.label (kE j) yi.data.toList [] 16) (Kdf.label (kE j) mf.data.toList [] 12) x.info [])
def oT (x : kX) (t : Lb) : iy × Nat := if (M20.bJ t).2 ≠ 0 then (iy.zero, (M20.bJ t).2) else Bt x (M20.bJ t).1.1 (M20.bJ t).1.2.2
def pe (x : kX) (ini : Lb) (g : mx) : iy × Nat :=
 if (op ini g.enc (Hk.info mJ x.info) g.box []).2 ≠ 0 then (iy.zero, (op ini g.enc (Hk.info mJ x.info) g.box []).2) else oT x (op ini g.enc (Hk.info mJ x.info) g.box []).1
def NI (x : kX) (ini : Lb) : Option mx → iy × Nat
 | none => (iy.zero, 7)
 | some g => pe x ini g
def bN (x : kX) (p : Pack) (ini : Lb) : iy × Nat := if ¬ dt p then (iy.zero, 3) else NI x ini (x.guests.find? fun g => decide (g.ref = ij p))
end
section
open Go.ChangeShapes Go.WideShapes Go.ChangeAt Go.RowKit
section
variable {H : Type} {enc : TypeId × Value → H} {W : World} {base : Nat} {spare : Nat → Bool} {held : Bool}
theorem wM {fuel : Nat} {cs : List Value} {x : DataW H × List MemPlace} (h : DataW.trod enc Tryz.prog W base spare held fuel 37 cs = some x) : ∃ p, fK W cs.toArray p := by
 obtain ⟨p, hp⟩ := xR h
 refine ⟨p, hp, ?_⟩
 obtain ⟨Vx, hl, hfs⟩ := trod_struct Tryz.underlying37 h
 have c1 : Tryz.prog.cellsOf 35 = 2 := by kernel_rfl
 obtain ⟨_, t1⟩ := hfs 1 _ rfl
 obtain ⟨Vy, Vz, Vw⟩ := trod_struct Tryz.underlying35 t1
 have c0 : Tryz.prog.cellsOf 23 = 1 := by kernel_rfl
 obtain ⟨_, t2⟩ := Vw 1 _ rfl
 obtain ⟨A, n, c, r, e, _, hc⟩ := eB t2
 have q0 : ((cs.drop 1).take (Tryz.prog.cellsOf 35))[1]? = some (.slice A n c) := ny (i := 1) c0 e
 rw [c1] at q0
 have q := mn (o := 1) (k := 2) (i := 1) Om q0
 intro A' n' c' e'
 have e2 : cs[1 + 1]? = some (.slice A' n' c') := by simpa using e'
 rw [q] at e2
 injection e2 with e2
 injection e2 with _ e3 e4
 omega
theorem Cv {fuel : Nat} {cs : List Value} {x : DataW H × List MemPlace} (h : DataW.trod enc Tryz.prog W base spare held fuel 25 cs = some x) : ∃ p, gF W cs.toArray p := by
 obtain ⟨Vw, hl, hfs⟩ := trod_struct Tryz.underlying25 h
 have hc : Tryz.prog.cellsOf 25 = 2 := by kernel_rfl
 rw [hc] at hl
 have c0 : Tryz.prog.cellsOf 23 = 1 := by kernel_rfl
 have c1 : Tryz.prog.cellsOf 22 = 1 := by kernel_rfl
 obtain ⟨_, t0⟩ := hfs 0 _ rfl
 obtain ⟨_, t1⟩ := hfs 1 _ rfl
 obtain ⟨A0, n0, k0, r0, e0, b0, _⟩ := Ge (R := fK) (sz := 3) Tryz.underlying22 Kr (fun _ _ _ h => wM h) t0
 obtain ⟨A1, n1, k1, r1, e1, b1, Vx⟩ := eB t1
 have e : cs.drop 0 = _ := qR (o := 0) c1 e0
 rw [qR (o := 1) c0 e1, yX hl] at e
 refine ⟨⟨r0, r1⟩, ⟨A0, n0, k0⟩, ⟨A1, n1, k1⟩, ?_, b0, b1, Vx⟩
 rw [show cs = _ from e]
 rfl
theorem CO {v : Value} {d : DataW H} {p : List MemPlace} (h : DataW.Trod enc Tryz.prog W base spare held 25 v d p) : ∃ cs x, v = .agg cs ∧ gF W cs x := by
 obtain ⟨fuel, hf⟩ := h
 obtain ⟨x, hx⟩ := Cv hf
 obtain ⟨_, hl, _⟩ := trod_struct Tryz.underlying25 hf
 exact ⟨_, x, Ep rfl (by rw [hl]; decide +kernel), hx⟩
end
end
section
open Go.RowKit Tryz
attribute [local irreducible] Y Ef WL WC WK WQ WM cE WN WF dc WJ gJ WR xF
open Wire Nd Hk
theorem CQ {α : Type} (p : α → Bool) (l : List α) (i : Nat) (x : α) (hx : l[i]? = some x) (h : (l.take i).find? p = none) (hp : p x = true) : l.find? p = some x := by
 obtain ⟨hi, hx⟩ := List.getElem?_eq_some_iff.1 hx
 have e2 : l.drop i = x :: l.drop (i + 1) := by rw [List.drop_eq_getElem_cons hi, hx]
 have h2 : (l.take i ++ l.drop i).find? p = some x := by rw [e2, List.find?_append, h, Option.none_or, List.find?_cons_of_pos hp]
 rwa [List.take_append_drop] at h2
theorem BW {α : Type} (p : α → Bool) (l : List α) (i : Nat) (x : α) (hx : l[i]? = some x) (h : (l.take i).find? p = none) (hp : ¬ p x = true) : (l.take (i + 1)).find? p = none := by
 rw [List.take_add_one, hx, List.find?_append, h, Option.none_or]
 simp [hp]
theorem BN {cs : Array Value} {x : kX} {A : Oa} {n c : Nat} {nm : Lb} (w : World) (H : gF w cs x) (hn : x.guests.length ≤ 1000) (HA : Bs w A n nm) (hA : n ≤ 1000) (hs : ∀ g ∈ x.guests, g.ref.length ≤ 1000) :
  Ct 37 #[.agg cs, .slice A n c] w fun e w' => ∃ a b : Hd, e = .returned (.tuple #[.agg (jZ a b), .bool (x.guests.find? (fun g => decide (g.ref = nm))).isSome]) ∧ (∀ g, x.guests.find? (fun g => decide (g.ref = nm)) = some g → kP w' a g.enc ∧ kP w' b g.box ∧ b.n ≤ b.c) ∧ Ext w w' := by
 have HW := H
 obtain ⟨h0, h1, rfl, a0, a1⟩ := H
 have l0 := a0.1
 have E := Ext.refl w
 obtain ⟨p, hp⟩ : ∃ p : mx → Bool, p = fun g => decide (g.ref = nm) := ⟨_, rfl⟩
 rw [← hp]
 refine dn (s := 2) 23 func37 rfl rfl rfl underlying35 rfl Kr rfl ?_
 intro _ hret
 refine aU ?_
 intro _ _ B2 _ ex
 have VF := B2.lt
 replace E := E.ext ex
 refine aU ?_
 intro _ g4 B4 _ ex
 obtain ⟨E,B2⟩ := ba ex E B2
 refine aU ?_
 have Vy : w.heap.size ≤ g4 := by omega
 refine az (fun n' L wr => ∃ i : Nat, L = [(1, .slice A n c), (4, .pointer (some ⟨g4, 0, none⟩)), (9, .slice h0.A h0.n h0.c), (10, .int .i64 (h0.n : Int)), (11, .int .i64 (i : Int))] ∧ n' = h0.n - i ∧ (i ≤ h0.n ∧ Ext w wr ∧ ao wr g4 35 #[.slice none 0 0, .slice none 0 0] ∧ (x.guests.take i).find? p = none)) _ _ ⟨0, rfl, rfl, Nat.zero_le _, E, B4, rfl⟩ Ls ?_
 rintro _ n' L wr ⟨i, rfl, rfl, _, E, B4, hno⟩ Vz
 refine aU ?_
 refine al rfl (fun VA => ?_) (fun VA => ?_)
 ·obtain ⟨b1, o1, VG, y, e1, _, hx, hcz, hR, hcx⟩ := (a0.ext E (fun _ _ h => fK.ext h E)).JK Om (i := i) Om
  obtain ⟨⟨f0, f1, f2, rfl, VB, VC, VD⟩, VE⟩ := hR
  have q2 : f2.n ≤ f2.c := VE _ _ _ rfl
  have v0 : Bs wr f0.A f0.n y.ref := VB
  have v1 : Bs wr f1.A f1.n y.enc := VC
  have v2 : Bs wr f2.A f2.n y.box := VD
  refine au 6 ?_
  refine ak (mg (s := 3) (j := i) e1 rfl rfl Tn.u Kr rfl Om) ?_
  refine ak (fL (cs := fN f0 f1 f2) rfl Tn.u rfl Kr fun j v hv => by rw [Addr.add_plain]; exact hcx j v hv) ?_
  refine aU ?_
  intro _ _ D7 Vw exA
  refine aU ?_
  intro _ B7 cg
  have ex := exA.aE cg Vw; clear cg exA D7
  obtain ⟨E,B4,v0,v1,v2⟩ := er ex E B4 v0 v1 v2
  replace B7 := B7.congr (cs' := fN f0 f1 f2) rfl
  refine aU ?_
  refine aB func89 rfl (qN f0.A A f0.n f0.c n c _ _ _ v0 (HA.wk E)) ?_
  rintro e _ ⟨rfl, ex⟩
  obtain ⟨E,B4,v1,v2,B7⟩ := er ex E B4 v1 v2 B7
  refine aU ?_
  refine al rfl (fun Vx => ?_) (fun Vx => ?_)
  ·refine aU ?_
   intro w6 D4 cg
   have J1 := (fQ v1 (bU B4 rfl dP)).bo (aA.one cg); have J2 := (fQ v2 (bU B4 rfl dP)).bo (aA.one cg); replace E := E.aE cg Vy; replace B4 := D4.congr (cs' := jZ f1 f2) rfl
   refine aU ?_
   refine hret rfl rfl B4 rfl ?_
   have hf := CQ p x.guests i y hx hno (by rw [hp]; exact decide_eq_true Vx)
   rw [hf]
   exact ⟨f1, f2, rfl, (fun g hg => by injection hg with hg; subst hg; exact ⟨J1.out, J2.out, q2⟩), E⟩
  ·refine au 7 ?_
   refine ae ?_
   refine Vz _ _ ⟨i + 1, rfl, rfl, by omega, E, B4, BW p x.guests i y hx hno (by rw [hp]; simpa using Vx)⟩ Om Ls
 ·have hnone : x.guests.find? p = none := by rw [List.take_of_length_le Om] at hno; exact hno
  refine au 7 ?_
  refine ak (aq rfl (cells := jZ an an) Kr) ?_
  refine aU ?_
  intro w6 D4 cg
  replace E := E.aE cg Vy; replace B4 := D4.congr (cs' := jZ an an) rfl
  refine aU ?_
  refine hret rfl rfl B4 rfl ?_
  rw [hnone]; exact ⟨an, an, rfl, (fun g hg => by cases hg), E⟩
theorem zd (A B C D : Oa) (n c m d k q z v : Nat) (xs ys is bx : Lb) (w : World) (HA : Bs w A n xs) (hn : n ≤ 1000) (HB : Bs w B m ys) (hm : m ≤ 1000) (HC : Bs w C k is) (hk : k ≤ 8000)
  (HD : Bs w D z bx) (hz : z ≤ 80000) (hzv : z ≤ v) :
  Ct 90 #[.slice A n c, .slice B m d, .slice C k q, .slice D z v, .slice none 0 0] w fun e w' => ∃ A1 k1 c1, e = .returned (.tuple #[.slice A1 k1 c1, .int .u8 ((op xs ys is bx []).2 : Int)]) ∧ Bs w' A1 k1 (op xs ys is bx []).1 ∧ k1 ≤ z ∧ k1 ≤ c1 ∧ Ext w w' := by
 have E := Ext.refl w
 have hbl := HD.1
 refine bu 42 func90 rfl rfl rfl rfl ?_
 intro _ hret
 refine aU ?_
 refine aB func165 rfl (xA A B n c m d xs ys _ HA hn HB hm) ?_
 rintro e _ ⟨A1, k1, c1, rfl, H1, _, ex⟩
 obtain ⟨HC,HD,E⟩ := bC ex HC HD E
 refine aU ?_
 refine al rfl (fun Vy => ?_) (fun Vy => ?_)
 ·refine aU ?_
  refine hret rfl rfl ?_
  exact ⟨none, 0, 0, by rw [op, if_pos Om], by rw [op, if_pos Om]; exact Bs.nil _ _, by omega, by omega, E⟩
 ·have hop : op xs ys is bx [] = ob (Gm.xH (II (xE xs ys).1 is) (JH (xE xs ys).1 is) bx []) := by rw [op, if_neg Om]
  obtain ⟨o, ho⟩ : ∃ o, o = Gm.xH (II (xE xs ys).1 is) (JH (xE xs ys).1 is) bx [] := ⟨_, rfl⟩
  have hol : (o.getD []).length ≤ z := by
   rw [ho]; unfold Gm.xH
   split
   ·exact Nat.zero_le _
   ·split
    ·show (Gm.NB _ _ _).length ≤ z
     rw [Gm.pR, List.length_take]; omega
    ·exact Nat.zero_le _
  rw [← ho] at hop
  refine aU ?_
  refine aB func166 rfl (Bo A1 C k1 c1 k q _ is _ H1 Om HC hk) ?_
  rintro e _ ⟨_, _, _, _, rfl, H3, H4, _, _, ex⟩
  obtain ⟨HD,E⟩ := ba ex HD E
  refine aU ?_
  intro _ _ Vz Vw exA
  refine aU ?_
  intro _ _ cg
  have ex := exA.aE cg Vw; clear cg exA Vz
  obtain ⟨HD,E,H3,H4⟩ := bO ex HD E H3 H4
  refine aU ?_
  refine aB func42 rfl (nV _ H3 H4 HD Om hzv (Bs.nil _ _) Om Om) ?_
  rintro e _ ⟨A5, k5, c5, rfl, R5, ex⟩
  refine au 1 ?_
  replace E := E.ext ex
  rw [← ho] at R5 ⊢; have H5 := R5.bs; have VA := H5.1
  refine aU ?_
  refine bA rfl (fun Vx => ?_) (fun Vx => ?_)
  ·refine aU ?_
   refine hret rfl rfl ?_
   have : o.isSome = false := by simpa using Vx
   have hn : o = none := by cases o with | none => rfl | some x => cases this
   subst hn
   rw [hop]
   exact ⟨none, 0, 0, rfl, Bs.nil _ _, by omega, by omega, E⟩
  ·refine aU ?_
   refine hret rfl rfl ?_
   have hs : o.isSome = true := by simpa using Vx
   rw [hop]
   exact ⟨A5, k5, c5, by unfold ob; rw [if_pos hs]; rfl, H5, by omega, R5.cap, E⟩
theorem qw (A B C D : Oa) (lb : ByteArray) (n c m d k q z v : Nat) (xs ys cs bx : Lb) (w : World) (hlb : lb.size ≤ 100) (HA : Bs w A n xs) (hn : n ≤ 1000) (HB : Bs w B m ys) (hm : m ≤ 1000) (HC : Bs w C k cs) (hk : k ≤ 6000)
  (HD : Bs w D z bx) (hz : z ≤ 80000) (hzv : z ≤ v) :
  Ct 38 #[.slice A n c, .slice B m d, .string lb, .slice C k q, .slice D z v] w fun e w' => ∃ A1 k1 c1, e = .returned (.tuple #[.slice A1 k1 c1, .int .u8 ((op xs ys (info lb cs) bx []).2 : Int)]) ∧ Bs w' A1 k1 (op xs ys (info lb cs) bx []).1 ∧ k1 ≤ z ∧ k1 ≤ c1 ∧ (op xs ys (info lb cs) bx []).2 < 256 ∧ Ext w w' := by
 have E := Ext.refl w
 have Vw : (op xs ys (info lb cs) bx []).2 < 256 := by
  unfold op; split
  ·exact Ex _ _
  ·unfold ob; split
   ·show 0 < 256; omega
   ·show 11 < 256; omega
 refine bu 21 func38 rfl rfl rfl rfl ?_
 intro _ hret
 refine aU ?_
 refine aB func91 rfl (rN lb C k q cs _ hlb HC Om) ?_
 rintro e _ ⟨A1, k1, c1, rfl, H1, _, ex⟩
 obtain ⟨HA,HB,HD,E⟩ := bO ex HA HB HD E
 refine aU ?_
 refine aB func90 rfl (zd A B A1 D n c m d k1 c1 z v xs ys _ bx _ HA hn HB hm H1 Om HD Om hzv) ?_
 rintro e _ ⟨A2, k2, c2, rfl, H2, Vx, Vy, ex⟩
 replace E := E.ext ex
 refine aU ?_
 refine hret rfl rfl ?_
 exact ⟨A2, k2, c2, rfl, H2, Vx, Vy, Vw, E⟩
theorem wi {α : Type} {z : α} {p : α × Wire.St} {ok : Bool} (h : (M20.cN z p ok).2 = 0) : ok = true ∧ (M20.cN z p ok).1 = p.1 := by
 unfold M20.cN at h ⊢
 by_cases h1 : Wire.eo p.2 ≠ 0
 ·rw [if_pos h1] at h; exact absurd h h1
 ·rw [if_neg h1] at h ⊢
  cases ok with
  | true => exact ⟨rfl, rfl⟩
  | false => exact absurd (show (3 : Nat) = 0 from h) Om
theorem xN {t : Lb} (h : (M20.bJ t).2 = 0) : wZ (M20.bJ t).1.1 (M20.bJ t).1.2.2 := by
 obtain ⟨h1, h2⟩ := wi h
 have := (of_decide_eq_true h1).1
 rw [show (M20.bJ t).1 = _ from h2]; exact this
theorem Ga {t : Lb} (h : (M20.cW t).2 = 0) : jq (M20.cW t).1 := by
 obtain ⟨h1, h2⟩ := wi h
 rw [show (M20.cW t).1 = _ from h2]; exact of_decide_eq_true h1
theorem oH {i : kb} (h : jq i) (he : i.ctx.ep < 18446744073709551616) : i.ctx.Small := ⟨by have := h.1; omega, by have := h.2.1; omega, by have := h.2.2.1; omega, he⟩
end
section
open Go.RowKit Tryz
attribute [local irreducible] Y Ef WL WC WK WQ WM cE WN WF dc WJ gJ WR xF
open Wire Nd Hk
theorem Ir (w : World) : gY w (Cf an 0 an an) Ctx.zero := DR.at ⟨an, an, an, rfl, (by decide), Bs.nil _ _, Bs.nil _ _, Bs.nil _ _⟩
theorem xJ : Ctx.zero.Small := ⟨Nat.zero_le _, Nat.zero_le _, Nat.zero_le _, by decide⟩
theorem oN (j : Lb) (c : Ctx) : ((bJ j c).getD 8 []).length = 32 := dQ _ _ _ _
theorem sx (j : Lb) (c : Ctx) : (bJ j c).getD 1 [] = kE j := rfl
theorem qB {x : kX} {p : Pack} {ini : Lb} (h : ¬ dt p) : bN x p ini = (iy.zero, 3) := by unfold bN; rw [if_pos h]
theorem qv {x : kX} {p : Pack} {ini : Lb} (h : dt p) : bN x p ini = NI x ini (x.guests.find? fun g => decide (g.ref = ij p)) := by unfold bN; rw [if_neg (fun h' => h' h)]
theorem nu (p : Pack) : (ij p).length = 32 := Sha.bP _
theorem zA {k n b m t : Lb} (h : Gm.xH k n b m = some t) : t.length ≤ b.length := by
 unfold Gm.xH at h
 split at h
 ·cases h
 ·split at h
  ·injection h with h
   rw [← h, Gm.pR, List.length_take]; omega
  ·cases h
theorem gI {cs ds es : Array Value} {x : kX} {p : Pack} {ini b1 b2 : Lb} (w : World) (HW : gF w cs x) (hx : x.Small) (HP : dd w ds p) (hp : p.Small) (HK : so w es ini b1 b2) (hini : ini.length ≤ 100) :
  Ct 12 #[.agg cs, .agg ds, .agg es] w fun e w' => ∃ cs', e = .returned (.tuple #[.agg cs', .int .u8 (((bN x p ini).2 : Nat) : Int)]) ∧ ew w' cs' (bN x p ini).1 ∧ (bN x p ini).2 < 256 ∧ Ext w w' := by
 have V8 := HW
 obtain ⟨h0, h1, rfl, a0, a1, ac⟩ := V8
 have V9 := HP
 obtain ⟨i, p0, p1, p2, p4, p5, pg, rfl, hsrc, _⟩ := V9
 have Wa := HK
 obtain ⟨k0, k1, k2, rfl, VW, Wy, Wz⟩ := Wa
 have WA := VW.1
 have WB := a1.1
 obtain ⟨WD, VN, WE⟩ := hx
 obtain ⟨o, ho⟩ : ∃ o, o = x.guests.find? (fun g => decide (g.ref = ij p)) := ⟨_, rfl⟩
 have F := aA.refl [] w
 refine dn (s := 20) 108 func12 rfl rfl rfl underlying46 rfl Kr rfl ?_
 intro _ hret
 refine aU ?_
 intro _ _ B3 _ ex
 have WG := B3.lt
 replace F := F.ext ex
 refine aU ?_
 intro _ _ B4 _ ex
 have WH := B4.lt
 obtain ⟨F,B3⟩ := ba ex F B3
 refine aU ?_
 intro _ _ B5 _ ex
 have WI := B5.lt
 obtain ⟨F,B3,B4⟩ := bC ex F B3 B4
 refine aU ?_
 intro _ VC B6 VD ex
 replace F := F.grow ex VD
 replace B3 := B3.grow ex VD
 replace B4 := B4.grow ex VD
 replace B5 := B5.grow ex VD
 refine aU ?_
 have X1 := F.aD So
 refine aB func36 rfl (pa _ (HP.ext X1) hp) ?_
 rintro e _ ⟨A8, k8, _, z8, rfl, T8, ex⟩
 obtain ⟨F,B3,B5,B6⟩ := bO ex F B3 B5 B6
 refine aU ?_
 refine al rfl (fun Wb => ?_) (fun Wb => ?_)
 ·have hno : ¬ dt p := fun h => by have := (T8.1 h).1; omega
  have Wc : z8 = 3 := (T8.2 hno).1
  refine au 2 ?_
  refine ak (aq rfl (cells := cC) Kr) ?_
  refine aU ?_
  intro _ D cg
  have ex := aA.one cg
  clear cg
  replace F := F.bo ex
  replace B6 := D; clear D
  replace B6 := B6.congr (cs' := cC) rfl
  refine aU ?_
  refine hret rfl rfl B6 rfl ?_
  subst Wc; rw [qB hno]; exact ⟨cC, rfl, ew.zero _, (by first | decide | omega | (dsimp only; omega) | exact (show (7 : Nat) < 256 by decide) | exact (show (11 : Nat) < 256 by decide)), F.aD So⟩
 ·have okp : dt p := Classical.byContradiction fun h => by have := (T8.2 h).1; omega
  have H8 : Bs _ A8 k8 (ij p) := (T8.1 okp).2
  have WO : k8 = 32 := by rw [← H8.1]; exact nu p
  have X4 := F.aD So
  have hwo := qv (x := x) (ini := ini) okp
  rw [← ho] at hwo
  refine aU ?_
  refine aB func37 rfl (BN _ (HW.ext X4) Om H8 Om (fun g hg => by have := (VN g hg).1; omega)) ?_
  rintro e w2 ⟨fa, fb, rfl, hab, ex⟩
  refine au 1 ?_
  obtain ⟨F,B3,B5,B6⟩ := bO ex F B3 B5 B6
  rw [← ho] at hab ⊢; have C2 := aA.refl [] w2
  refine aU ?_
  intro _ VB Vy Vz ex
  have VO : VC < VB := Nat.lt_of_lt_of_le B6.lt Vz
  replace F := F.grow ex Vz
  replace B3 := B3.grow ex Vz
  replace B5 := B5.grow ex Vz
  replace B6 := B6.grow ex Vz
  replace C2 := C2.grow ex Vz
  refine aU ?_
  intro _ D cg
  have ex := aA.one cg
  clear cg
  obtain ⟨F,B3,B5,B6,C2⟩ := jS ex F B3 B5 B6 C2
  replace Vy := D; clear D
  replace Vy := Vy.congr (cs' := jZ fa fb) rfl
  refine au 5 ?_
  by_cases hso : o = none
  ·subst hso
   refine au 5 ?_
   refine bR rfl rfl ?_
   refine au 2 ?_
   refine ak (aq rfl (cells := cC) Kr) ?_
   refine aU ?_
   intro _ D cg
   have ex := aA.one cg
   clear cg
   replace F := F.bo ex
   replace B6 := D; clear D
   replace B6 := B6.congr (cs' := cC) rfl
   refine aU ?_
   refine hret rfl rfl B6 rfl ?_
   rw [hwo]; exact ⟨cC, rfl, ew.zero _, (by first | decide | omega | (dsimp only; omega) | exact (show (7 : Nat) < 256 by decide) | exact (show (11 : Nat) < 256 by decide)), F.aD So⟩
  ·obtain ⟨gg, rfl⟩ : ∃ g, o = some g := by
    cases o with
    | none => exact absurd rfl hso
    | some t => exact ⟨t, rfl⟩
   refine au 5 ?_
   refine aX rfl rfl ?_
   refine au 12 ?_
   obtain ⟨ga, gb, hgc⟩ := hab gg rfl
   have hgm : gg ∈ x.guests := List.mem_of_find?_eq_some ho.symm
   have hgs := VN gg hgm
   have XC := C2.aD So
   have X7 := F.aD So
   have lga := (show Bs _ _ _ _ from ga).1
   have lgb := (show Bs _ _ _ _ from gb).1
   refine aB func38 rfl (qw k0.A fa.A h1.A fb.A mJ k0.n k0.c fa.n fa.c h1.n h1.c fb.n fb.c ini gg.enc x.info gg.box _ sk (Bs.ext VW X7) Om (Bs.ext ga XC) (by have := hgs.2.1; omega) (Bs.ext a1 X7) Om (Bs.ext gb XC) (by have := hgs.2.2; omega) hgc) ?_
   rintro e _ ⟨_, _, _, rfl, VX, _, VP, _, ex⟩
   obtain ⟨F,B3,B6,Vy⟩ := bO ex F B3 B6 Vy
   refine aU ?_
   refine al rfl (fun We => ?_) (fun We => ?_)
   ·have e9 : bN x p ini = (iy.zero, (op ini gg.enc (Hk.info mJ x.info) gg.box []).2) := hwo.trans (show pe x ini gg = _ from by unfold pe; rw [if_pos Om])
    refine au 2 ?_
    refine ak (aq rfl (cells := cC) Kr) ?_
    refine aU ?_
    intro _ D cg
    have ex := aA.one cg
    clear cg
    replace F := F.bo ex
    replace B6 := D; clear D
    replace B6 := B6.congr (cs' := cC) rfl
    refine aU ?_
    refine hret rfl rfl B6 rfl ?_
    rw [e9]; exact ⟨cC, rfl, ew.zero _, (by first | decide | omega | (dsimp only; omega) | exact (show (7 : Nat) < 256 by decide) | exact (show (11 : Nat) < 256 by decide)), F.aD So⟩
   ·refine au 3 ?_
    have VQ : bN x p ini = oT x (op ini gg.enc (Hk.info mJ x.info) gg.box []).1 := hwo.trans (show pe x ini gg = _ from by unfold pe; rw [if_neg Om])
    obtain ⟨tx, htx⟩ : ∃ t, t = (op ini gg.enc (Hk.info mJ x.info) gg.box []).1 := ⟨_, rfl⟩
    rw [← htx] at VQ VX
    have VY := (VN gg (List.mem_of_find?_eq_some ho.symm)).2.2
    refine aU ?_
    refine aB func39 rfl (rO _ VX VP Om) ?_
    rintro e _ ⟨hj, hy, rfl, Hj, Hy, _, ex⟩
    obtain ⟨F,B3,B6,Vy⟩ := bO ex F B3 B6 Vy
    have Kj := fQ (S := [VB, VC]) Hj (bU Vy rfl (bU B6 rfl dP)); have Ky := fQ (S := [VB, VC]) Hy (bU Vy rfl (bU B6 rfl dP)); have lj := Hj.1; have ly := Hy.1
    refine aU ?_
    refine al rfl (fun Wf => ?_) (fun Wf => ?_)
    ·have Wg : bN x p ini = (iy.zero, (M20.bJ tx).2) := by rw [VQ]; unfold oT; rw [if_pos Om]
     refine au 2 ?_
     refine ak (aq rfl (cells := cC) Kr) ?_
     refine aU ?_
     intro _ D cg
     have ex := aA.one cg
     clear cg
     replace F := F.bo ex
     replace B6 := D; clear D
     replace B6 := B6.congr (cs' := cC) rfl
     refine aU ?_
     refine hret rfl rfl B6 rfl ?_
     rw [Wg]; exact ⟨cC, rfl, ew.zero _, (by first | decide | omega | (dsimp only; omega) | exact (show (7 : Nat) < 256 by decide) | exact (show (11 : Nat) < 256 by decide)), F.aD So⟩
    ·have VZ : bN x p ini = Bt x (M20.bJ tx).1.1 (M20.bJ tx).1.2.2 := by rw [VQ]; unfold oT; rw [if_neg Om]
     have hok := xN (t := tx) Om
     obtain ⟨jj, hjj⟩ : ∃ j, j = (M20.bJ tx).1.1 := ⟨_, rfl⟩
     obtain ⟨yy, hyy⟩ : ∃ y, y = (M20.bJ tx).1.2.2 := ⟨_, rfl⟩
     rw [← hjj, ← hyy] at VZ hok
     rw [← hjj] at Kj lj
     rw [← hyy] at Ky ly
     have Wh := hok.1
     obtain ⟨oo, hoo⟩ : ∃ o, o = Gm.xH (Kdf.label (kE jj) yi.data.toList [] 16) (Kdf.label (kE jj) mf.data.toList [] 12) x.info [] := ⟨_, rfl⟩
     have VH : bN x p ini = Ny x jj yy oo := by rw [VZ]; unfold Bt; rw [← hoo]
     refine au 5 ?_
     refine ak (aq rfl (cells := Cf an 0 an an) Kr) ?_
     refine aB func41 rfl (Az hj.A hj.n hj.c jj _ Ctx.zero _ Kj.out Om (Ir _) xJ) ?_
     rintro e _ ⟨Wi, rfl, Wj, ex⟩
     obtain ⟨F,B3,B6,Vy,Kj,Ky⟩ := iP ex F B3 B6 Vy Kj Ky
     refine aU ?_
     refine aB func40 rfl (Cu Wi _ _ Wj (by rw [sx]; unfold kE; rw [dQ]; omega)) ?_
     rintro e _ ⟨_, _, _, _, rfl, V0, V4, ex⟩
     obtain ⟨F,B3,B6,Vy,Kj,Ky⟩ := iP ex F B3 B6 Vy Kj Ky
     rw [sx] at V0 V4
     refine aU ?_
     have Wk := F.aD So
     refine aB func42 rfl (nV _ V0 V4 (Bs.ext a1 Wk) Om ac (Bs.nil _ none) (Nat.zero_le _) (Nat.zero_le _)) ?_
     rintro e _ ⟨_, Wl, _, rfl, VG, ex⟩
     refine au 1 ?_
     obtain ⟨F,B6,Vy,Kj,Ky⟩ := er ex F B6 Vy Kj Ky
     rw [← hoo] at VG ⊢
     refine au 9 ?_
     by_cases hsp : oo = none
     ·subst hsp
      refine au 5 ?_
      refine bR rfl rfl ?_
      refine au 2 ?_
      refine ak (aq rfl (cells := cC) Kr) ?_
      refine aU ?_
      intro _ D cg
      have ex := aA.one cg
      clear cg
      replace F := F.bo ex
      replace B6 := D; clear D
      replace B6 := B6.congr (cs' := cC) rfl
      refine aU ?_
      refine hret rfl rfl B6 rfl ?_
      rw [VH]; exact ⟨cC, rfl, ew.zero _, (by first | decide | omega | (dsimp only; omega) | exact (show (7 : Nat) < 256 by decide) | exact (show (11 : Nat) < 256 by decide)), F.aD So⟩
     ·obtain ⟨tt, rfl⟩ : ∃ t, oo = some t := by
       cases oo with
       | none => exact absurd rfl hsp
       | some t => exact ⟨t, rfl⟩
      replace VG : Row _ _ _ _ _ _ (tt.map bv) := VG
      refine au 5 ?_
      refine aX rfl rfl ?_
      have WS := VG.bs.1
      have V5 : bN x p ini = mO x jj yy tt := VH
      have VR : Wl ≤ 1048576 := by
       have := zA (Eq.symm hoo)
       omega
      refine aU ?_
      refine aB func43 rfl (CT _ VG.bs VG.cap VR) ?_
      rintro e w8 ⟨_, rfl, HI, _, ex⟩
      obtain ⟨F,B6,Vy,Kj,Ky⟩ := er ex F B6 Vy Kj Ky
      obtain ⟨i0, i1, i2, i3, i4, rfl, hep, hfz, q0, q1, q2, q3, q4⟩ := HI; have V6 : ir w8 (pq i0 (M20.cW tt).1.ctx.ep i1 i2 i3 (M20.cW tt).1.frm i4) (M20.cW tt).1 := ⟨i0, i1, i2, i3, i4, rfl, hep, hfz, q0.1, q1.1, q2.1, q3.1, q4.1⟩; have KI := Ak (S := [VB, VC]) V6 (bU Vy rfl (bU B6 rfl dP)); have KT := fQ (S := [VB, VC]) q3.1 (bU Vy rfl (bU B6 rfl dP)); have KU := fQ (S := [VB, VC]) q2.1 (bU Vy rfl (bU B6 rfl dP)); clear V6 q0 q1 q2 q3 q4
      refine aU ?_
      intro _ VE VA Vw ex
      have VS : VC < VE := Nat.lt_of_lt_of_le B6.lt Vw
      have VL : VB < VE := Nat.lt_of_lt_of_le Vy.lt Vw
      replace F := F.grow ex Vw
      replace B6 := B6.grow ex Vw
      replace Vy := Vy.grow ex Vw
      replace Kj := Kj.grow ex Vw
      replace Ky := Ky.grow ex Vw
      replace KI := KI.grow ex Vw
      replace KT := KT.grow ex Vw
      replace KU := KU.grow ex Vw
      refine aU ?_
      intro _ D cg
      have ex := aA.one cg
      clear cg
      obtain ⟨F,B6,Vy,Kj,Ky,KI,KT,KU⟩ := Ig ex F B6 Vy Kj Ky KI KT KU
      replace VA := D; clear D
      replace VA := VA.congr (cs' := pq i0 (M20.cW tt).1.ctx.ep i1 i2 i3 (M20.cW tt).1.frm i4) rfl
      refine aU ?_
      refine al rfl (fun Wm => ?_) (fun Wm => ?_)
      ·have Wn : bN x p ini = (iy.zero, (M20.cW tt).2) := by rw [V5]; unfold mO; rw [if_pos Om]
       refine au 2 ?_
       refine ak (aq rfl (cells := cC) Kr) ?_
       refine aU ?_
       intro _ D cg
       have ex := aA.one cg
       clear cg
       replace F := F.bo ex
       replace B6 := D; clear D
       replace B6 := B6.congr (cs' := cC) rfl
       refine aU ?_
       refine hret rfl rfl B6 rfl ?_
       rw [Wn]; exact ⟨cC, rfl, ew.zero _, (by first | decide | omega | (dsimp only; omega) | exact (show (7 : Nat) < 256 by decide) | exact (show (11 : Nat) < 256 by decide)), F.aD So⟩
      ·have hz : (M20.cW tt).2 = 0 := by omega
       have hoi := Ga hz
       obtain ⟨ii, hii⟩ : ∃ i, i = (M20.cW tt).1 := ⟨_, rfl⟩
       rw [← hii] at hoi KI VA hep KT KU
       have hsm := oH hoi hep
       have V7 : bN x p ini = if ii.tag ≠ Mac.tag ((bJ jj ii.ctx).getD 8 []) ii.ctx.trans then (iy.zero, 16) else (⟨ii, bJ jj ii.ctx, yy⟩, 0) := by rw [V5]; unfold mO; rw [if_neg Om, ← hii]
       refine aU ?_
       refine aB func41 rfl (Az hj.A hj.n hj.c jj _ ii.ctx _ Kj.out Om (j8.ctx KI.out).at hsm) ?_
       rintro e _ ⟨_, rfl, VT, ex⟩
       obtain ⟨F,B6,Vy,Ky,KI,KT,KU,VA⟩ := Kw ex F B6 Vy Ky KI KT KU VA
       obtain ⟨s0, s1, s2, s3, s4, s5, s6, s7, s8, s9, VI, VJ, rfl⟩ := VT.form; have KS := Bf (S := [VE, VB, VC]) VT (bU VA rfl (bU Vy rfl (bU B6 rfl dP))); clear VT
       refine aU ?_
       intro _ VK VF Vx ex
       have VU : VC < VK := Nat.lt_of_lt_of_le B6.lt Vx
       have VM : VE < VK := Nat.lt_of_lt_of_le VA.lt Vx
       replace F := F.grow ex Vx
       replace B6 := B6.grow ex Vx
       replace Ky := Ky.grow ex Vx
       replace KI := KI.grow ex Vx
       replace KT := KT.grow ex Vx
       replace KU := KU.grow ex Vx
       replace VA := VA.grow ex Vx
       replace KS := KS.grow ex Vx
       refine aU ?_
       intro _ D cg
       have ex := aA.one cg
       clear cg
       obtain ⟨F,B6,Ky,KI,KT,KU,VA,KS⟩ := Ig ex F B6 Ky KI KT KU VA KS
       replace VF := D; clear D
       replace VF := VF.congr (cs' := xZ s0 s1 s2 s3 s4 s5 s6 s7 s8 s9 VI VJ) rfl
       refine aU ?_
       refine aC Kr 9 rfl ?_; intro Wo ex Wq
       obtain ⟨F,B6,Ky,KI,KT,KU,VA,KS,VF⟩ := rA ex F B6 Ky KI KT KU VA KS VF
       refine zm [0, 1, 2, 3, 4, 5] ?_
       have l3 := KT.out.1
       have WT := KU.out.1
       have WU := hoi.2.2.2.1
       have WV := hoi.2.2.1
       refine bD 6 rfl func45 rfl (Dw (xZ s0 s1 s2 s3 s4 s5 s6 s7 s8 s9 VI VJ) (bJ jj ii.ctx) i2.A i2.n i2.c ii.ctx.trans _ KS.out (by rw [oN]; omega) KU.out Om) ?_
       rintro e _ ⟨Wr, Ws, rfl, Wv, ex⟩
       obtain ⟨F,B6,Ky,KI,KT,VA,KS,VF⟩ := Kw ex F B6 Ky KI KT VA KS VF
       refine aU ?_
       refine bD 7 rfl func44 rfl (vQ i3.A Wr i3.n 32 i3.c Ws ii.tag _ _ KT.out Wv Om Om) ?_
       rintro e _ ⟨rfl, ex⟩
       obtain ⟨F,B6,Ky,KI,VA,KS,VF⟩ := iQ ex F B6 Ky KI VA KS VF
       refine zm [8] ?_
       refine bA rfl (fun VV => ?_) (fun VV => ?_)
       ·have hne : ii.tag ≠ Mac.tag ((bJ jj ii.ctx).getD 8 []) ii.ctx.trans := by simpa using VV
        have Ww : bN x p ini = (iy.zero, 16) := V7.trans (if_pos hne)
        refine au 2 ?_
        refine ak (aq rfl (cells := cC) Kr) ?_
        refine aU ?_
        intro _ D cg
        have ex := aA.one cg
        clear cg
        replace F := F.bo ex
        replace B6 := D; clear D
        replace B6 := B6.congr (cs' := cC) rfl
        refine aU ?_
        refine hret rfl rfl B6 rfl ?_
        rw [Ww]; exact ⟨cC, rfl, ew.zero _, (by first | decide | omega | (dsimp only; omega) | exact (show (7 : Nat) < 256 by decide) | exact (show (11 : Nat) < 256 by decide)), F.aD So⟩
       ·have heq : ¬ ii.tag ≠ Mac.tag ((bJ jj ii.ctx).getD 8 []) ii.ctx.trans := by simpa using VV
        have Wx : bN x p ini = (⟨ii, bJ jj ii.ctx, yy⟩, 0) := V7.trans (if_neg heq)
        refine au 7 ?_
        refine ak (aq rfl (cells := mV i0 ii.ctx.ep i1 i2 i3 ii.frm i4 s0 s1 s2 s3 s4 s5 s6 s7 s8 s9 VI VJ hy) Kr) ?_
        refine aU ?_
        intro _ D cg
        have ex := aA.one cg
        clear cg
        obtain ⟨F,Ky,KI,KS⟩ := dj ex F Ky KI KS
        replace B6 := D; clear D
        replace B6 := B6.congr (cs' := mV i0 ii.ctx.ep i1 i2 i3 ii.frm i4 s0 s1 s2 s3 s4 s5 s6 s7 s8 s9 VI VJ hy) rfl
        refine aU ?_
        refine hret rfl rfl B6 rfl ?_
        rw [Wx]; exact ⟨_, rfl, ⟨i0, i1, i2, i3, i4, s0, s1, s2, s3, s4, s5, s6, s7, s8, s9, VI, VJ, hy, rfl, KI.out, KS.out, Ky.out⟩, (by first | decide | omega | (dsimp only; omega) | exact (show (7 : Nat) < 256 by decide) | exact (show (11 : Nat) < 256 by decide)), F.aD So⟩
end
end Go.Proofs.YtgfafidlkldeaaaGreat
