/- welcome.Open. No conditions: contracts of functions. -/
import Derived.Test.YtgfafidlkldeaaaGreatWlB
import Derived.Test.YtgfafidlkldeaaaGreatHkG
import Derived.Test.YtgfafidlkldeaaaGreatMuG
import Derived.Test.YtgfafidlkldeaaaGreatMsZ
import Derived.Test.YtgfafidlkldeaaaGreatAu
set_option maxHeartbeats 4000000
set_option maxRecDepth 4000
namespace Go.Proofs.YtgfafidlkldeaaaGreat
section
open Go.RowKit
attribute [local irreducible] Y Ef WL WC WK WQ WM cE WN WF db WJ gO WR xG
open Wire Nd Hk
/-! Blocks in which no byte lies. -/
def xx (cs : Array Value) : Bool := cs.toList.all fun v => match v with | .int .u8 _ => false | _ => true
theorem Bs.PV {w : World} {A : Oa} {n b : Nat} {t : TypeId} {cs : Array Value} {xs : Lb} (H : Bs w A n xs) (B : ao w b t cs) (h8 : xx cs = true) (hn : 0 < n) (o : Nat) : A ≠ some ⟨b, o, none⟩ := fun e => by
 obtain ⟨b', off, hA, _, hc⟩ := H.get (k := 0) hn
 rw [e] at hA
 injection hA with hA
 injection hA with hA _ _
 subst hA
 rw [B.cell] at hc
 rw [← Array.getElem?_toList] at hc
 have h := List.all_eq_true.1 h8 _ (List.mem_of_getElem? hc)
 cases h
theorem fR {w : World} {A : Oa} {n : Nat} {xs : Lb} {S : List Nat} (H : Bs w A n xs) (hS : ∀ g ∈ S, ∃ t cs, ao w g t cs ∧ xx cs = true) : Kp w.heap.size S (fun w => Bs w A n xs) w :=
 Kp.bs H fun hn g hg o => by obtain ⟨t, cs, B, h⟩ := hS g hg; exact H.PV B h hn o
theorem dR {w : World} : ∀ g ∈ ([] : List Nat), ∃ t cs, ao w g t cs ∧ xx cs = true := fun _ h => by cases h
theorem bX {w : World} {a : Nat} {S : List Nat} {t : TypeId} {cs : Array Value} (B : ao w a t cs) (h : xx cs = true) (hS : ∀ g ∈ S, ∃ t cs, ao w g t cs ∧ xx cs = true) : ∀ g ∈ a :: S, ∃ t cs, ao w g t cs ∧ xx cs = true := fun g hg => by
 rcases List.mem_cons.1 hg with rfl | hg
 ·exact ⟨t, cs, B, h⟩
 ·exact hS g hg
/-! Welcomes whose slices have their capacities; what a welcome has for one. -/
def fA (w : World) (cs : Array Value) (x : mC) : Prop := oJ w cs x ∧ ∀ A n c, cs[2]? = some (.slice A n c) → n ≤ c
def gC (w : World) (cs : Array Value) (x : lN) : Prop := ∃ h0 h1, cs = ka h0 h1 ∧ zh fA 3 w h0.A h0.n x.guests ∧ (lE w h1 x.info ∧ h1.n ≤ h1.c)
theorem fA.ext {w w' : World} {cs : Array Value} {x : mC} (h : fA w cs x) (e : Ext w w') : fA w' cs x := ⟨h.1.ext e, h.2⟩
theorem gC.ext {w w' : World} {cs : Array Value} {x : lN} (h : gC w cs x) (e : Ext w w') : gC w' cs x := by
 obtain ⟨h0, h1, rfl, a, b⟩ := h
 exact ⟨h0, h1, rfl, a.ext e fun _ _ h => fA.ext h e, Bs.ext b.1 e, b.2⟩
structure ix where
 info : jZ
 secs : List (List UInt8)
 way : List UInt8
def ix.zero : ix := ⟨jZ.zero, List.replicate 12 [], []⟩
def zL (a b c d e f g h i j k l : Hd) : Array Value := #[.slice a.A a.n a.c, .slice b.A b.n b.c, .slice c.A c.n c.c, .slice d.A d.n d.c, .slice e.A e.n e.c, .slice f.A f.n f.c, .slice g.A g.n g.c, .slice h.A h.n h.c, .slice i.A i.n i.c, .slice j.A j.n j.c, .slice k.A k.n k.c, .slice l.A l.n l.c]
def nC (g : Hd) (ep : Nat) (t u tg : Hd) (z : Int) (sg a b c d e f g' h i j k l y : Hd) : Array Value := #[.slice g.A g.n g.c, .int .u64 (ep : Int), .slice t.A t.n t.c, .slice u.A u.n u.c, .slice tg.A tg.n tg.c, .int .i64 z, .slice sg.A sg.n sg.c, .slice a.A a.n a.c, .slice b.A b.n b.c, .slice c.A c.n c.c, .slice d.A d.n d.c, .slice e.A e.n e.c, .slice f.A f.n f.c, .slice g'.A g'.n g'.c, .slice h.A h.n h.c, .slice i.A i.n i.c, .slice j.A j.n j.c, .slice k.A k.n k.c, .slice l.A l.n l.c, .slice y.A y.n y.c]
def cD : Array Value := nC an 0 an an an 0 an an an an an an an an an an an an an an
def eB (w : World) (cs : Array Value) (x : ix) : Prop :=
 ∃ g t u tg sg a b c d e f g' h i j k l y, cs = nC g x.info.ctx.ep t u tg x.info.frm sg a b c d e f g' h i j k l y ∧ ig w (po g x.info.ctx.ep t u tg x.info.frm sg) x.info ∧ cP w (zL a b c d e f g' h i j k l) x.secs ∧ lE w y x.way
theorem eB.ext {w w' : World} {cs : Array Value} {x : ix} (H : eB w cs x) (E : Ext w w') : eB w' cs x := by
 obtain ⟨g, t, u, tg, sg, a, b, c, d, e, f, g', h, i, j, k, l, y, rfl, h1, h2, h3⟩ := H
 exact ⟨g, t, u, tg, sg, a, b, c, d, e, f, g', h, i, j, k, l, y, rfl, h1.ext E, h2.ext E, Bs.ext h3 E⟩
theorem cP.form {w : World} {cs : Array Value} {s : List (List UInt8)} (H : cP w cs s) : ∃ a b c d e f g h i j k l : Hd, cs = zL a b c d e f g h i j k l := by
 have hz := H.size
 have hd : ∀ i, i < 12 → ∃ h : Hd, cs[i]? = some (.slice h.A h.n h.c) := fun i hi => by
  obtain ⟨A, n, c, h1, _⟩ := H.get hi
  exact ⟨⟨A, n, c⟩, h1⟩
 obtain ⟨a, ea⟩ := hd 0 Om
 obtain ⟨b, eb⟩ := hd 1 Om
 obtain ⟨c, ec⟩ := hd 2 Om
 obtain ⟨d, ed⟩ := hd 3 Om
 obtain ⟨e, ee⟩ := hd 4 Om
 obtain ⟨f, ef⟩ := hd 5 Om
 obtain ⟨g, eg⟩ := hd 6 Om
 obtain ⟨h, eh⟩ := hd 7 Om
 obtain ⟨i, ei⟩ := hd 8 Om
 obtain ⟨j, ej⟩ := hd 9 Om
 obtain ⟨k, ek⟩ := hd 10 Om
 obtain ⟨l, el⟩ := hd 11 Om
 refine ⟨a, b, c, d, e, f, g, h, i, j, k, l, ?_⟩
 refine Array.ext_getElem? fun q => ?_
 match q with
 | 0 => exact ea
 | 1 => exact eb
 | 2 => exact ec
 | 3 => exact ed
 | 4 => exact ee
 | 5 => exact ef
 | 6 => exact eg
 | 7 => exact eh
 | 8 => exact ei
 | 9 => exact ej
 | 10 => exact ek
 | 11 => exact el
 | q + 12 => rw [Array.getElem?_eq_none Om]; exact (Array.getElem?_eq_none (by show 12 ≤ _; omega)).symm
theorem Jr (w : World) : cP w (zL an an an an an an an an an an an an) (List.replicate 12 []) := by
 refine ⟨List.replicate 12 (.slice none 0 0), rfl, rfl, rfl, fun i hi => ⟨none, 0, 0, ?_, ?_⟩⟩
 ·rw [List.getElem?_replicate, if_pos hi]
 ·rw [List.getD_eq_getElem?_getD, List.getElem?_replicate, if_pos hi]; exact Bs.nil _ _
theorem eB.zero (w : World) : eB w cD ix.zero :=
 ⟨an, an, an, an, an, an, an, an, an, an, an, an, an, an, an, an, an, an, rfl, ⟨an, an, an, an, an, rfl, (by decide), (by decide), Bs.nil _ _, Bs.nil _ _, Bs.nil _ _, Bs.nil _ _, Bs.nil _ _⟩, Jr w, Bs.nil _ _⟩
theorem Bj {w : World} {cs : Array Value} {s : List (List UInt8)} {S : List Nat} (H : cP w cs s) (hS : ∀ g ∈ S, ∃ t cs, ao w g t cs ∧ xx cs = true) : Kp w.heap.size S (fun w => cP w cs s) w := by
 refine ⟨Nat.le_refl _, fun w2 hw => ?_⟩
 obtain ⟨vs, h1, h2, h3, h4⟩ := H
 exact ⟨vs, h1, h2, h3, fun i hi => by obtain ⟨A, n, c, h5, h6⟩ := h4 i hi; exact ⟨A, n, c, h5, (fR h6 hS).2 w2 hw⟩⟩
theorem Bi {w : World} {cs : Array Value} {x : jZ} {S : List Nat} (H : ig w cs x) (hS : ∀ g ∈ S, ∃ t cs, ao w g t cs ∧ xx cs = true) : Kp w.heap.size S (fun w => ig w cs x) w :=
 ⟨Nat.le_refl _, fun w2 hw => j9.imp H fun _ _ b => (fR b hS).2 w2 hw⟩
/-! What a welcome has for a package, plainly. -/
def mg : ByteArray := ⟨#[87, 101, 108, 99, 111, 109, 101]⟩
theorem tf : mg.size ≤ 100 := by decide
def mP (x : lN) (j way t : Lb) : ix × Nat :=
 if (M20.cW t).2 ≠ 0 then (ix.zero, (M20.cW t).2)
 else if (M20.cW t).1.tag ≠ Mac.tag ((bK j (M20.cW t).1.ctx).getD 8 []) (M20.cW t).1.ctx.trans then (ix.zero, 16)
 else (⟨(M20.cW t).1, bK j (M20.cW t).1.ctx, way⟩, 0)
def kJ (j : Lb) : List UInt8 := Kdf.label (oA j) gX.data.toList [] 32
def M6 (x : lN) (j way : Lb) : Option (List UInt8) → ix × Nat
 | none => (ix.zero, 11)
 | some t => mP x j way t
def CV (x : lN) (j way : Lb) : ix × Nat := M6 x j way (Gm.xC (Kdf.label (kJ j) zJ.data.toList [] 16) (Kdf.label (kJ j) mx.data.toList [] 12) x.info [])
def oV (x : lN) (t : Lb) : ix × Nat := if (M20.bK t).2 ≠ 0 then (ix.zero, (M20.bK t).2) else CV x (M20.bK t).1.1 (M20.bK t).1.2.2
def pq (x : lN) (ini : Lb) (g : mC) : ix × Nat :=
 if (op ini g.enc (Hk.info mg x.info) g.box []).2 ≠ 0 then (ix.zero, (op ini g.enc (Hk.info mg x.info) g.box []).2) else oV x (op ini g.enc (Hk.info mg x.info) g.box []).1
def OG (x : lN) (ini : Lb) : Option mC → ix × Nat
 | none => (ix.zero, 7)
 | some g => pq x ini g
def bO (x : lN) (p : Pack) (ini : Lb) : ix × Nat := if ¬ dt p then (ix.zero, 3) else OG x ini (x.guests.find? fun g => decide (g.ref = gY p))
end
section
open Go.ChangeShapes Go.WideShapes Go.ChangeAt Go.RowKit
section
variable {H : Type} {enc : TypeId × Value → H} {W : World} {base : Nat} {spare : Nat → Bool} {held : Bool}
theorem xp {fuel : Nat} {cs : List Value} {x : DataW H × List MemPlace} (h : DataW.trod enc Tryz.prog W base spare held fuel 37 cs = some x) : ∃ p, fA W cs.toArray p := by
 obtain ⟨p, hp⟩ := yX h
 refine ⟨p, hp, ?_⟩
 obtain ⟨Vx, hl, hfs⟩ := trod_struct Tryz.underlying37 h
 have c1 : Tryz.prog.cellsOf 35 = 2 := by kernel_rfl
 obtain ⟨_, t1⟩ := hfs 1 _ rfl
 obtain ⟨Vy, Vz, Vw⟩ := trod_struct Tryz.underlying35 t1
 have c0 : Tryz.prog.cellsOf 23 = 1 := by kernel_rfl
 obtain ⟨_, t2⟩ := Vw 1 _ rfl
 obtain ⟨A, n, c, r, e, _, hc⟩ := ez t2
 have q0 : ((cs.drop 1).take (Tryz.prog.cellsOf 35))[1]? = some (.slice A n c) := mV (i := 1) c0 e
 rw [c1] at q0
 have q := mJ (o := 1) (k := 2) (i := 1) Om q0
 intro A' n' c' e'
 have e2 : cs[1 + 1]? = some (.slice A' n' c') := by simpa using e'
 rw [q] at e2
 injection e2 with e2
 injection e2 with _ e3 e4
 omega
theorem Cr {fuel : Nat} {cs : List Value} {x : DataW H × List MemPlace} (h : DataW.trod enc Tryz.prog W base spare held fuel 25 cs = some x) : ∃ p, gC W cs.toArray p := by
 obtain ⟨Vw, hl, hfs⟩ := trod_struct Tryz.underlying25 h
 have hc : Tryz.prog.cellsOf 25 = 2 := by kernel_rfl
 rw [hc] at hl
 have c0 : Tryz.prog.cellsOf 23 = 1 := by kernel_rfl
 have c1 : Tryz.prog.cellsOf 22 = 1 := by kernel_rfl
 obtain ⟨_, t0⟩ := hfs 0 _ rfl
 obtain ⟨_, t1⟩ := hfs 1 _ rfl
 obtain ⟨A0, n0, k0, r0, e0, b0, _⟩ := DE (R := fA) (sz := 3) Tryz.underlying22 Kr (fun _ _ _ h => xp h) t0
 obtain ⟨A1, n1, k1, r1, e1, b1, Vx⟩ := ez t1
 have e : cs.drop 0 = _ := qK (o := 0) c1 e0
 rw [qK (o := 1) c0 e1, yW hl] at e
 refine ⟨⟨r0, r1⟩, ⟨A0, n0, k0⟩, ⟨A1, n1, k1⟩, ?_, b0, b1, Vx⟩
 rw [show cs = _ from e]
 rfl
theorem Ci {v : Value} {d : DataW H} {p : List MemPlace} (h : DataW.Trod enc Tryz.prog W base spare held 25 v d p) : ∃ cs x, v = .agg cs ∧ gC W cs x := by
 obtain ⟨fuel, hf⟩ := h
 obtain ⟨x, hx⟩ := Cr hf
 obtain ⟨_, hl, _⟩ := trod_struct Tryz.underlying25 hf
 exact ⟨_, x, GR rfl (by rw [hl]; decide +kernel), hx⟩
end
end
section
open Go.RowKit Tryz
attribute [local irreducible] Y Ef WL WC WK WQ WM cE WN WF db WJ gO WR xG
open Wire Nd Hk
theorem Bn {α : Type} (p : α → Bool) (l : List α) (i : Nat) (x : α) (hx : l[i]? = some x) (h : (l.take i).find? p = none) (hp : p x = true) : l.find? p = some x := by
 obtain ⟨hi, hx⟩ := List.getElem?_eq_some_iff.1 hx
 have e2 : l.drop i = x :: l.drop (i + 1) := by rw [List.drop_eq_getElem_cons hi, hx]
 have h2 : (l.take i ++ l.drop i).find? p = some x := by rw [e2, List.find?_append, h, Option.none_or, List.find?_cons_of_pos hp]
 rwa [List.take_append_drop] at h2
theorem Bo {α : Type} (p : α → Bool) (l : List α) (i : Nat) (x : α) (hx : l[i]? = some x) (h : (l.take i).find? p = none) (hp : ¬ p x = true) : (l.take (i + 1)).find? p = none := by
 rw [List.take_add_one, hx, List.find?_append, h, Option.none_or]
 simp [hp]
theorem Cy {cs : Array Value} {x : lN} {A : Oa} {n c : Nat} {nm : Lb} (w : World) (H : gC w cs x) (hn : x.guests.length ≤ 1000) (HA : Bs w A n nm) (hA : n ≤ 1000) (hs : ∀ g ∈ x.guests, g.ref.length ≤ 1000) :
  Ct 37 #[.agg cs, .slice A n c] w fun e w' => ∃ a b : Hd, e = .returned (.tuple #[.agg (ka a b), .bool (x.guests.find? (fun g => decide (g.ref = nm))).isSome]) ∧ (∀ g, x.guests.find? (fun g => decide (g.ref = nm)) = some g → lE w' a g.enc ∧ lE w' b g.box ∧ b.n ≤ b.c) ∧ Ext w w' := by
 have HW := H
 obtain ⟨h0, h1, rfl, a0, a1⟩ := H
 have l0 := a0.1
 have E := Ext.refl w
 obtain ⟨p, hp⟩ : ∃ p : mC → Bool, p = fun g => decide (g.ref = nm) := ⟨_, rfl⟩
 rw [← hp]
 refine dp (s := 2) 23 func37 rfl rfl rfl underlying35 rfl Kr rfl ?_
 intro _ hret
 refine aU ?_
 intro _ _ B2 _ ex
 have VF := B2.lt
 replace E := E.ext ex
 refine aU ?_
 intro _ g4 B4 _ ex
 obtain ⟨E,B2⟩ := ba ex E B2
 refine aU ?_
 have Vy : w.heap.size ≤ g4 := by omega
 refine az (fun n' L wr => ∃ i : Nat, L = [(1, .slice A n c), (4, .pointer (some ⟨g4, 0, none⟩)), (9, .slice h0.A h0.n h0.c), (10, .int .i64 (h0.n : Int)), (11, .int .i64 (i : Int))] ∧ n' = h0.n - i ∧ (i ≤ h0.n ∧ Ext w wr ∧ ao wr g4 35 #[.slice none 0 0, .slice none 0 0] ∧ (x.guests.take i).find? p = none)) _ _ ⟨0, rfl, rfl, Nat.zero_le _, E, B4, rfl⟩ Ls ?_
 rintro _ n' L wr ⟨i, rfl, rfl, _, E, B4, hno⟩ Vz
 refine aU ?_
 refine al rfl (fun VA => ?_) (fun VA => ?_)
 ·obtain ⟨b1, o1, VG, y, e1, _, hx, hcz, hR, hcx⟩ := (a0.ext E (fun _ _ h => fA.ext h E)).Iy Om (i := i) Om
  obtain ⟨⟨f0, f1, f2, rfl, VB, VC, VD⟩, VE⟩ := hR
  have q2 : f2.n ≤ f2.c := VE _ _ _ rfl
  have v0 : Bs wr f0.A f0.n y.ref := VB
  have v1 : Bs wr f1.A f1.n y.enc := VC
  have v2 : Bs wr f2.A f2.n y.box := VD
  refine au 6 ?_
  refine ak (mF (s := 3) (j := i) e1 rfl rfl Tn.u Kr rfl Om) ?_
  refine ak (fD (cs := fN f0 f1 f2) rfl Tn.u rfl Kr fun j v hv => by rw [Addr.add_plain]; exact hcx j v hv) ?_
  refine aU ?_
  intro _ _ D7 Vw exA
  refine aU ?_
  intro _ B7 cg
  have ex := exA.aE cg Vw; clear cg exA D7
  obtain ⟨E,B4,v0,v1,v2⟩ := er ex E B4 v0 v1 v2
  replace B7 := B7.congr (cs' := fN f0 f1 f2) rfl
  refine aU ?_
  refine aB func89 rfl (p7 f0.A A f0.n f0.c n c _ _ _ v0 (HA.wk E)) ?_
  rintro e _ ⟨rfl, ex⟩
  obtain ⟨E,B4,v1,v2,B7⟩ := er ex E B4 v1 v2 B7
  refine aU ?_
  refine al rfl (fun Vx => ?_) (fun Vx => ?_)
  ·refine aU ?_
   intro w6 D4 cg
   have J1 := (fR v1 (bX B4 rfl dR)).bo (aA.one cg); have J2 := (fR v2 (bX B4 rfl dR)).bo (aA.one cg); replace E := E.aE cg Vy; replace B4 := D4.congr (cs' := ka f1 f2) rfl
   refine aU ?_
   refine hret rfl rfl B4 rfl ?_
   have hf := Bn p x.guests i y hx hno (by rw [hp]; exact decide_eq_true Vx)
   rw [hf]
   exact ⟨f1, f2, rfl, (fun g hg => by injection hg with hg; subst hg; exact ⟨J1.out, J2.out, q2⟩), E⟩
  ·refine au 7 ?_
   refine ae ?_
   refine Vz _ _ ⟨i + 1, rfl, rfl, by omega, E, B4, Bo p x.guests i y hx hno (by rw [hp]; simpa using Vx)⟩ Om Ls
 ·have hnone : x.guests.find? p = none := by rw [List.take_of_length_le Om] at hno; exact hno
  refine au 7 ?_
  refine ak (aq rfl (cells := ka an an) Kr) ?_
  refine aU ?_
  intro w6 D4 cg
  replace E := E.aE cg Vy; replace B4 := D4.congr (cs' := ka an an) rfl
  refine aU ?_
  refine hret rfl rfl B4 rfl ?_
  rw [hnone]; exact ⟨an, an, rfl, (fun g hg => by cases hg), E⟩
theorem xY (A B C D : Oa) (n c m d k q z v : Nat) (xs ys is bx : Lb) (w : World) (HA : Bs w A n xs) (hn : n ≤ 1000) (HB : Bs w B m ys) (hm : m ≤ 1000) (HC : Bs w C k is) (hk : k ≤ 8000)
  (HD : Bs w D z bx) (hz : z ≤ 80000) (hzv : z ≤ v) :
  Ct 90 #[.slice A n c, .slice B m d, .slice C k q, .slice D z v, .slice none 0 0] w fun e w' => ∃ A1 k1 c1, e = .returned (.tuple #[.slice A1 k1 c1, .int .u8 ((op xs ys is bx []).2 : Int)]) ∧ Bs w' A1 k1 (op xs ys is bx []).1 ∧ k1 ≤ z ∧ k1 ≤ c1 ∧ Ext w w' := by
 have E := Ext.refl w
 have hbl := HD.1
 refine bu 42 func90 rfl rfl rfl rfl ?_
 intro _ hret
 refine aU ?_
 refine aB func165 rfl (vk A B n c m d xs ys _ HA hn HB hm) ?_
 rintro e _ ⟨A1, k1, c1, rfl, H1, _, ex⟩
 obtain ⟨HC,HD,E⟩ := bD ex HC HD E
 refine aU ?_
 refine al rfl (fun Vy => ?_) (fun Vy => ?_)
 ·refine aU ?_
  refine hret rfl rfl ?_
  exact ⟨none, 0, 0, by rw [op, if_pos Om], by rw [op, if_pos Om]; exact Bs.nil _ _, by omega, by omega, E⟩
 ·have hop : op xs ys is bx [] = ob (Gm.xC (IA (xI xs ys).1 is) (Ji (xI xs ys).1 is) bx []) := by rw [op, if_neg Om]
  obtain ⟨o, ho⟩ : ∃ o, o = Gm.xC (IA (xI xs ys).1 is) (Ji (xI xs ys).1 is) bx [] := ⟨_, rfl⟩
  have hol : (o.getD []).length ≤ z := by
   rw [ho]; unfold Gm.xC
   split
   ·exact Nat.zero_le _
   ·split
    ·show (Gm.NC _ _ _).length ≤ z
     rw [Gm.qy, List.length_take]; omega
    ·exact Nat.zero_le _
  rw [← ho] at hop
  refine aU ?_
  refine aB func166 rfl (Ck A1 C k1 c1 k q _ is _ H1 Om HC hk) ?_
  rintro e _ ⟨_, _, _, _, rfl, H3, H4, _, _, ex⟩
  obtain ⟨HD,E⟩ := ba ex HD E
  refine aU ?_
  intro _ _ Vz Vw exA
  refine aU ?_
  intro _ _ cg
  have ex := exA.aE cg Vw; clear cg exA Vz
  obtain ⟨HD,E,H3,H4⟩ := bN ex HD E H3 H4
  refine aU ?_
  refine aB func42 rfl (nX _ H3 H4 HD Om hzv (Bs.nil _ _) Om Om) ?_
  rintro e _ ⟨A5, k5, c5, rfl, R5, ex⟩
  refine au 1 ?_
  replace E := E.ext ex
  rw [← ho] at R5 ⊢; have H5 := R5.bs; have VA := H5.1
  refine aU ?_
  refine bA rfl (fun Vx => ?_) (fun Vx => ?_)
  ·refine aU ?_
   refine hret rfl rfl ?_
   have : o.isSome = false := by simpa using Vx
   have hn : o = none := by cases o with | none => rfl | some x => cases this
   subst hn
   rw [hop]
   exact ⟨none, 0, 0, rfl, Bs.nil _ _, by omega, by omega, E⟩
  ·refine aU ?_
   refine hret rfl rfl ?_
   have hs : o.isSome = true := by simpa using Vx
   rw [hop]
   exact ⟨A5, k5, c5, by unfold ob; rw [if_pos hs]; rfl, H5, by omega, R5.cap, E⟩
theorem qB (A B C D : Oa) (lb : ByteArray) (n c m d k q z v : Nat) (xs ys cs bx : Lb) (w : World) (hlb : lb.size ≤ 100) (HA : Bs w A n xs) (hn : n ≤ 1000) (HB : Bs w B m ys) (hm : m ≤ 1000) (HC : Bs w C k cs) (hk : k ≤ 6000)
  (HD : Bs w D z bx) (hz : z ≤ 80000) (hzv : z ≤ v) :
  Ct 38 #[.slice A n c, .slice B m d, .string lb, .slice C k q, .slice D z v] w fun e w' => ∃ A1 k1 c1, e = .returned (.tuple #[.slice A1 k1 c1, .int .u8 ((op xs ys (info lb cs) bx []).2 : Int)]) ∧ Bs w' A1 k1 (op xs ys (info lb cs) bx []).1 ∧ k1 ≤ z ∧ k1 ≤ c1 ∧ (op xs ys (info lb cs) bx []).2 < 256 ∧ Ext w w' := by
 have E := Ext.refl w
 have Vw : (op xs ys (info lb cs) bx []).2 < 256 := by
  unfold op; split
  ·exact EC _ _
  ·unfold ob; split
   ·show 0 < 256; omega
   ·show 11 < 256; omega
 refine bu 21 func38 rfl rfl rfl rfl ?_
 intro _ hret
 refine aU ?_
 refine aB func91 rfl (rI lb C k q cs _ hlb HC Om) ?_
 rintro e _ ⟨A1, k1, c1, rfl, H1, _, ex⟩
 obtain ⟨HA,HB,HD,E⟩ := bN ex HA HB HD E
 refine aU ?_
 refine aB func90 rfl (xY A B A1 D n c m d k1 c1 z v xs ys _ bx _ HA hn HB hm H1 Om HD Om hzv) ?_
 rintro e _ ⟨A2, k2, c2, rfl, H2, Vx, Vy, ex⟩
 replace E := E.ext ex
 refine aU ?_
 refine hret rfl rfl ?_
 exact ⟨A2, k2, c2, rfl, H2, Vx, Vy, Vw, E⟩
theorem vd {α : Type} {z : α} {p : α × Wire.St} {ok : Bool} (h : (Vw.cN z p ok).2 = 0) : ok = true ∧ (Vw.cN z p ok).1 = p.1 := by
 unfold Vw.cN at h ⊢
 by_cases h1 : Wire.eo p.2 ≠ 0
 ·rw [if_pos h1] at h; exact absurd h h1
 ·rw [if_neg h1] at h ⊢
  cases ok with
  | true => exact ⟨rfl, rfl⟩
  | false => exact absurd (show (3 : Nat) = 0 from h) Om
theorem yx {t : Lb} (h : (Vw.bK t).2 = 0) : vt (Vw.bK t).1.1 (Vw.bK t).1.2.2 := by
 obtain ⟨h1, h2⟩ := vd h
 have := (of_decide_eq_true h1).1
 rw [show (Vw.bK t).1 = _ from h2]; exact this
theorem El {t : Lb} (h : (Vw.cW t).2 = 0) : jk (Vw.cW t).1 := by
 obtain ⟨h1, h2⟩ := vd h
 rw [show (Vw.cW t).1 = _ from h2]; exact of_decide_eq_true h1
theorem oI {i : jZ} (h : jk i) (he : i.ctx.ep < 18446744073709551616) : i.ctx.Small := ⟨by have := h.1; omega, by have := h.2.1; omega, by have := h.2.2.1; omega, he⟩
end
section
open Go.RowKit Tryz
attribute [local irreducible] Y Ef WL WC WK WQ WM cE WN WF db WJ gO WR xG
open Wire Nd Hk
theorem JS (w : World) : gZ w (Cx an 0 an an) Ctx.zero := EZ.at ⟨an, an, an, rfl, (by decide), Bs.nil _ _, Bs.nil _ _, Bs.nil _ _⟩
theorem y9 : Ctx.zero.Small := ⟨Nat.zero_le _, Nat.zero_le _, Nat.zero_le _, by decide⟩
theorem oL (j : Lb) (c : Ctx) : ((bK j c).getD 8 []).length = 32 := dN _ _ _ _
theorem sQ (j : Lb) (c : Ctx) : (bK j c).getD 1 [] = kJ j := rfl
theorem qS {x : lN} {p : Pack} {ini : Lb} (h : ¬ dt p) : bO x p ini = (ix.zero, 3) := by unfold bO; rw [if_pos h]
theorem qn {x : lN} {p : Pack} {ini : Lb} (h : dt p) : bO x p ini = OG x ini (x.guests.find? fun g => decide (g.ref = gY p)) := by unfold bO; rw [if_neg (fun h' => h' h)]
theorem ni (p : Pack) : (gY p).length = 32 := Sha.bP _
theorem xR {k n b m t : Lb} (h : Gm.xC k n b m = some t) : t.length ≤ b.length := by
 unfold Gm.xC at h
 split at h
 ·cases h
 ·split at h
  ·injection h with h
   rw [← h, Gm.qy, List.length_take]; omega
  ·cases h
theorem gI {cs ds es : Array Value} {x : lN} {p : Pack} {ini b1 b2 : Lb} (w : World) (HW : gC w cs x) (hx : x.Small) (HP : dd w ds p) (hp : p.Small) (HK : so w es ini b1 b2) (hini : ini.length ≤ 100) :
  Ct 12 #[.agg cs, .agg ds, .agg es] w fun e w' => ∃ cs', e = .returned (.tuple #[.agg cs', .int .u8 (((bO x p ini).2 : Nat) : Int)]) ∧ eB w' cs' (bO x p ini).1 ∧ (bO x p ini).2 < 256 ∧ Ext w w' := by
 have V9 := HW
 obtain ⟨h0, h1, rfl, a0, a1, ac⟩ := V9
 have Wa := HP
 obtain ⟨i, p0, p1, p2, p4, p5, pg, rfl, hsrc, _⟩ := Wa
 have Wb := HK
 obtain ⟨k0, k1, k2, rfl, VX, Wz, WA⟩ := Wb
 have WB := VX.1
 have WD := a1.1
 obtain ⟨WE, VO, WG⟩ := hx
 obtain ⟨o, ho⟩ : ∃ o, o = x.guests.find? (fun g => decide (g.ref = gY p)) := ⟨_, rfl⟩
 have F := aA.refl [] w
 refine dp (s := 20) 108 func12 rfl rfl rfl underlying46 rfl Kr rfl ?_
 intro _ hret
 refine aU ?_
 intro _ _ B3 _ ex
 have WH := B3.lt
 replace F := F.ext ex
 refine aU ?_
 intro _ _ B4 _ ex
 have WI := B4.lt
 obtain ⟨F,B3⟩ := ba ex F B3
 refine aU ?_
 intro _ _ B5 _ ex
 have WO := B5.lt
 obtain ⟨F,B3,B4⟩ := bD ex F B3 B4
 refine aU ?_
 intro _ VD B6 VE ex
 replace F := F.grow ex VE
 replace B3 := B3.grow ex VE
 replace B4 := B4.grow ex VE
 replace B5 := B5.grow ex VE
 refine aU ?_
 have X1 := F.aD So
 refine aB func36 rfl (pn _ (HP.ext X1) hp) ?_
 rintro e _ ⟨A8, k8, _, z8, rfl, T8, ex⟩
 obtain ⟨F,B3,B5,B6⟩ := bN ex F B3 B5 B6
 refine aU ?_
 refine al rfl (fun Wc => ?_) (fun Wc => ?_)
 ·have hno : ¬ dt p := fun h => by have := (T8.1 h).1; omega
  have We : z8 = 3 := (T8.2 hno).1
  refine au 2 ?_
  refine ak (aq rfl (cells := cD) Kr) ?_
  refine aU ?_
  intro _ D cg
  have ex := aA.one cg
  clear cg
  replace F := F.bo ex
  replace B6 := D; clear D
  replace B6 := B6.congr (cs' := cD) rfl
  refine aU ?_
  refine hret rfl rfl B6 rfl ?_
  subst We; rw [qS hno]; exact ⟨cD, rfl, eB.zero _, (by first | decide | omega | (dsimp only; omega) | exact (show (7 : Nat) < 256 by decide) | exact (show (11 : Nat) < 256 by decide)), F.aD So⟩
 ·have okp : dt p := Classical.byContradiction fun h => by have := (T8.2 h).1; omega
  have H8 : Bs _ A8 k8 (gY p) := (T8.1 okp).2
  have WS : k8 = 32 := by rw [← H8.1]; exact ni p
  have X4 := F.aD So
  have hwo := qn (x := x) (ini := ini) okp
  rw [← ho] at hwo
  refine aU ?_
  refine aB func37 rfl (Cy _ (HW.ext X4) Om H8 Om (fun g hg => by have := (VO g hg).1; omega)) ?_
  rintro e w2 ⟨fa, fb, rfl, hab, ex⟩
  refine au 1 ?_
  obtain ⟨F,B3,B5,B6⟩ := bN ex F B3 B5 B6
  rw [← ho] at hab ⊢; have C2 := aA.refl [] w2
  refine aU ?_
  intro _ VB Vy Vz ex
  have VP : VD < VB := Nat.lt_of_lt_of_le B6.lt Vz
  replace F := F.grow ex Vz
  replace B3 := B3.grow ex Vz
  replace B5 := B5.grow ex Vz
  replace B6 := B6.grow ex Vz
  replace C2 := C2.grow ex Vz
  refine aU ?_
  intro _ D cg
  have ex := aA.one cg
  clear cg
  obtain ⟨F,B3,B5,B6,C2⟩ := jI ex F B3 B5 B6 C2
  replace Vy := D; clear D
  replace Vy := Vy.congr (cs' := ka fa fb) rfl
  refine au 5 ?_
  by_cases hso : o = none
  ·subst hso
   refine au 5 ?_
   refine bQ rfl rfl ?_
   refine au 2 ?_
   refine ak (aq rfl (cells := cD) Kr) ?_
   refine aU ?_
   intro _ D cg
   have ex := aA.one cg
   clear cg
   replace F := F.bo ex
   replace B6 := D; clear D
   replace B6 := B6.congr (cs' := cD) rfl
   refine aU ?_
   refine hret rfl rfl B6 rfl ?_
   rw [hwo]; exact ⟨cD, rfl, eB.zero _, (by first | decide | omega | (dsimp only; omega) | exact (show (7 : Nat) < 256 by decide) | exact (show (11 : Nat) < 256 by decide)), F.aD So⟩
  ·obtain ⟨gg, rfl⟩ : ∃ g, o = some g := by
    cases o with
    | none => exact absurd rfl hso
    | some t => exact ⟨t, rfl⟩
   refine au 5 ?_
   refine aX rfl rfl ?_
   refine au 12 ?_
   obtain ⟨ga, gb, hgc⟩ := hab gg rfl
   have hgm : gg ∈ x.guests := List.mem_of_find?_eq_some ho.symm
   have hgs := VO gg hgm
   have XC := C2.aD So
   have X7 := F.aD So
   have lga := (show Bs _ _ _ _ from ga).1
   have lgb := (show Bs _ _ _ _ from gb).1
   refine aB func38 rfl (qB k0.A fa.A h1.A fb.A mg k0.n k0.c fa.n fa.c h1.n h1.c fb.n fb.c ini gg.enc x.info gg.box _ tf (Bs.ext VX X7) Om (Bs.ext ga XC) (by have := hgs.2.1; omega) (Bs.ext a1 X7) Om (Bs.ext gb XC) (by have := hgs.2.2; omega) hgc) ?_
   rintro e _ ⟨_, _, _, rfl, VY, _, VQ, _, ex⟩
   obtain ⟨F,B3,B6,Vy⟩ := bN ex F B3 B6 Vy
   refine aU ?_
   refine al rfl (fun Wf => ?_) (fun Wf => ?_)
   ·have e9 : bO x p ini = (ix.zero, (op ini gg.enc (Hk.info mg x.info) gg.box []).2) := hwo.trans (show pq x ini gg = _ from by unfold pq; rw [if_pos Om])
    refine au 2 ?_
    refine ak (aq rfl (cells := cD) Kr) ?_
    refine aU ?_
    intro _ D cg
    have ex := aA.one cg
    clear cg
    replace F := F.bo ex
    replace B6 := D; clear D
    replace B6 := B6.congr (cs' := cD) rfl
    refine aU ?_
    refine hret rfl rfl B6 rfl ?_
    rw [e9]; exact ⟨cD, rfl, eB.zero _, (by first | decide | omega | (dsimp only; omega) | exact (show (7 : Nat) < 256 by decide) | exact (show (11 : Nat) < 256 by decide)), F.aD So⟩
   ·refine au 3 ?_
    have VR : bO x p ini = oV x (op ini gg.enc (Hk.info mg x.info) gg.box []).1 := hwo.trans (show pq x ini gg = _ from by unfold pq; rw [if_neg Om])
    obtain ⟨tx, htx⟩ : ∃ t, t = (op ini gg.enc (Hk.info mg x.info) gg.box []).1 := ⟨_, rfl⟩
    rw [← htx] at VR VY
    have VZ := (VO gg (List.mem_of_find?_eq_some ho.symm)).2.2
    refine aU ?_
    refine aB func39 rfl (rT _ VY VQ Om) ?_
    rintro e _ ⟨hj, hy, rfl, Hj, Hy, _, ex⟩
    obtain ⟨F,B3,B6,Vy⟩ := bN ex F B3 B6 Vy
    have Kj := fR (S := [VB, VD]) Hj (bX Vy rfl (bX B6 rfl dR)); have Ky := fR (S := [VB, VD]) Hy (bX Vy rfl (bX B6 rfl dR)); have lj := Hj.1; have ly := Hy.1
    refine aU ?_
    refine al rfl (fun Wg => ?_) (fun Wg => ?_)
    ·have Wh : bO x p ini = (ix.zero, (VC.bK tx).2) := by rw [VR]; unfold oV; rw [if_pos Om]
     refine au 2 ?_
     refine ak (aq rfl (cells := cD) Kr) ?_
     refine aU ?_
     intro _ D cg
     have ex := aA.one cg
     clear cg
     replace F := F.bo ex
     replace B6 := D; clear D
     replace B6 := B6.congr (cs' := cD) rfl
     refine aU ?_
     refine hret rfl rfl B6 rfl ?_
     rw [Wh]; exact ⟨cD, rfl, eB.zero _, (by first | decide | omega | (dsimp only; omega) | exact (show (7 : Nat) < 256 by decide) | exact (show (11 : Nat) < 256 by decide)), F.aD So⟩
    ·have V0 : bO x p ini = CV x (VC.bK tx).1.1 (VC.bK tx).1.2.2 := by rw [VR]; unfold oV; rw [if_neg Om]
     have hok := yx (t := tx) Om
     obtain ⟨jj, hjj⟩ : ∃ j, j = (VC.bK tx).1.1 := ⟨_, rfl⟩
     obtain ⟨yy, hyy⟩ : ∃ y, y = (VC.bK tx).1.2.2 := ⟨_, rfl⟩
     rw [← hjj, ← hyy] at V0 hok
     rw [← hjj] at Kj lj
     rw [← hyy] at Ky ly
     have Wi := hok.1
     obtain ⟨oo, hoo⟩ : ∃ o, o = Gm.xC (Kdf.label (kJ jj) zJ.data.toList [] 16) (Kdf.label (kJ jj) mx.data.toList [] 12) x.info [] := ⟨_, rfl⟩
     have VI : bO x p ini = M6 x jj yy oo := by rw [V0]; unfold CV; rw [← hoo]
     refine au 5 ?_
     refine ak (aq rfl (cells := Cx an 0 an an) Kr) ?_
     refine aB func41 rfl (As hj.A hj.n hj.c jj _ Ctx.zero _ Kj.out Om (JS _) y9) ?_
     rintro e _ ⟨Wj, rfl, Wk, ex⟩
     obtain ⟨F,B3,B6,Vy,Kj,Ky⟩ := iP ex F B3 B6 Vy Kj Ky
     refine aU ?_
     refine aB func40 rfl (Bx Wj _ _ Wk (by rw [sQ]; unfold kJ; rw [dN]; omega)) ?_
     rintro e _ ⟨_, _, _, _, rfl, V4, V5, ex⟩
     obtain ⟨F,B3,B6,Vy,Kj,Ky⟩ := iP ex F B3 B6 Vy Kj Ky
     rw [sQ] at V4 V5
     refine aU ?_
     have Wl := F.aD So
     refine aB func42 rfl (nX _ V4 V5 (Bs.ext a1 Wl) Om ac (Bs.nil _ none) (Nat.zero_le _) (Nat.zero_le _)) ?_
     rintro e _ ⟨_, Wm, _, rfl, VH, ex⟩
     refine au 1 ?_
     obtain ⟨F,B6,Vy,Kj,Ky⟩ := er ex F B6 Vy Kj Ky
     rw [← hoo] at VH ⊢
     refine au 9 ?_
     by_cases hsp : oo = none
     ·subst hsp
      refine au 5 ?_
      refine bQ rfl rfl ?_
      refine au 2 ?_
      refine ak (aq rfl (cells := cD) Kr) ?_
      refine aU ?_
      intro _ D cg
      have ex := aA.one cg
      clear cg
      replace F := F.bo ex
      replace B6 := D; clear D
      replace B6 := B6.congr (cs' := cD) rfl
      refine aU ?_
      refine hret rfl rfl B6 rfl ?_
      rw [VI]; exact ⟨cD, rfl, eB.zero _, (by first | decide | omega | (dsimp only; omega) | exact (show (7 : Nat) < 256 by decide) | exact (show (11 : Nat) < 256 by decide)), F.aD So⟩
     ·obtain ⟨tt, rfl⟩ : ∃ t, oo = some t := by
       cases oo with
       | none => exact absurd rfl hsp
       | some t => exact ⟨t, rfl⟩
      replace VH : Row _ _ _ _ _ _ (tt.map bv) := VH
      refine au 5 ?_
      refine aX rfl rfl ?_
      have WT := VH.bs.1
      have V6 : bO x p ini = mP x jj yy tt := VI
      have VS : Wm ≤ 1048576 := by
       have := xR (Eq.symm hoo)
       omega
      refine aU ?_
      refine aB func43 rfl (BJ _ VH.bs VH.cap VS) ?_
      rintro e w8 ⟨_, rfl, HI, _, ex⟩
      obtain ⟨F,B6,Vy,Kj,Ky⟩ := er ex F B6 Vy Kj Ky
      obtain ⟨i0, i1, i2, i3, i4, rfl, hep, hfz, q0, q1, q2, q3, q4⟩ := HI; have V7 : ig w8 (po i0 (VC.cW tt).1.ctx.ep i1 i2 i3 (VC.cW tt).1.frm i4) (VC.cW tt).1 := ⟨i0, i1, i2, i3, i4, rfl, hep, hfz, q0.1, q1.1, q2.1, q3.1, q4.1⟩; have KI := Bi (S := [VB, VD]) V7 (bX Vy rfl (bX B6 rfl dR)); have KT := fR (S := [VB, VD]) q3.1 (bX Vy rfl (bX B6 rfl dR)); have KU := fR (S := [VB, VD]) q2.1 (bX Vy rfl (bX B6 rfl dR)); clear V7 q0 q1 q2 q3 q4
      refine aU ?_
      intro _ VF VA Vw ex
      have VT : VD < VF := Nat.lt_of_lt_of_le B6.lt Vw
      have VM : VB < VF := Nat.lt_of_lt_of_le Vy.lt Vw
      replace F := F.grow ex Vw
      replace B6 := B6.grow ex Vw
      replace Vy := Vy.grow ex Vw
      replace Kj := Kj.grow ex Vw
      replace Ky := Ky.grow ex Vw
      replace KI := KI.grow ex Vw
      replace KT := KT.grow ex Vw
      replace KU := KU.grow ex Vw
      refine aU ?_
      intro _ D cg
      have ex := aA.one cg
      clear cg
      obtain ⟨F,B6,Vy,Kj,Ky,KI,KT,KU⟩ := DD ex F B6 Vy Kj Ky KI KT KU
      replace VA := D; clear D
      replace VA := VA.congr (cs' := po i0 (VC.cW tt).1.ctx.ep i1 i2 i3 (VC.cW tt).1.frm i4) rfl
      refine aU ?_
      refine al rfl (fun Wn => ?_) (fun Wn => ?_)
      ·have Wo : bO x p ini = (ix.zero, (VC.cW tt).2) := by rw [V6]; unfold mP; rw [if_pos Om]
       refine au 2 ?_
       refine ak (aq rfl (cells := cD) Kr) ?_
       refine aU ?_
       intro _ D cg
       have ex := aA.one cg
       clear cg
       replace F := F.bo ex
       replace B6 := D; clear D
       replace B6 := B6.congr (cs' := cD) rfl
       refine aU ?_
       refine hret rfl rfl B6 rfl ?_
       rw [Wo]; exact ⟨cD, rfl, eB.zero _, (by first | decide | omega | (dsimp only; omega) | exact (show (7 : Nat) < 256 by decide) | exact (show (11 : Nat) < 256 by decide)), F.aD So⟩
      ·have hz : (VC.cW tt).2 = 0 := by omega
       have hoi := El hz
       obtain ⟨ii, hii⟩ : ∃ i, i = (VC.cW tt).1 := ⟨_, rfl⟩
       rw [← hii] at hoi KI VA hep KT KU
       have hsm := oI hoi hep
       have V8 : bO x p ini = if ii.tag ≠ Mac.tag ((bK jj ii.ctx).getD 8 []) ii.ctx.trans then (ix.zero, 16) else (⟨ii, bK jj ii.ctx, yy⟩, 0) := by rw [V6]; unfold mP; rw [if_neg Om, ← hii]
       refine aU ?_
       refine aB func41 rfl (As hj.A hj.n hj.c jj _ ii.ctx _ Kj.out Om (j9.ctx KI.out).at hsm) ?_
       rintro e _ ⟨_, rfl, VU, ex⟩
       obtain ⟨F,B6,Vy,Ky,KI,KT,KU,VA⟩ := JV ex F B6 Vy Ky KI KT KU VA
       obtain ⟨s0, s1, s2, s3, s4, s5, s6, s7, s8, s9, VJ, VK, rfl⟩ := VU.form; have KS := Bj (S := [VF, VB, VD]) VU (bX VA rfl (bX Vy rfl (bX B6 rfl dR))); clear VU
       refine aU ?_
       intro _ VL VG Vx ex
       have VV : VD < VL := Nat.lt_of_lt_of_le B6.lt Vx
       have VN : VF < VL := Nat.lt_of_lt_of_le VA.lt Vx
       replace F := F.grow ex Vx
       replace B6 := B6.grow ex Vx
       replace Ky := Ky.grow ex Vx
       replace KI := KI.grow ex Vx
       replace KT := KT.grow ex Vx
       replace KU := KU.grow ex Vx
       replace VA := VA.grow ex Vx
       replace KS := KS.grow ex Vx
       refine aU ?_
       intro _ D cg
       have ex := aA.one cg
       clear cg
       obtain ⟨F,B6,Ky,KI,KT,KU,VA,KS⟩ := DD ex F B6 Ky KI KT KU VA KS
       replace VG := D; clear D
       replace VG := VG.congr (cs' := zL s0 s1 s2 s3 s4 s5 s6 s7 s8 s9 VJ VK) rfl
       refine aU ?_
       refine aC Kr 9 rfl ?_; intro Wq ex Wr
       obtain ⟨F,B6,Ky,KI,KT,KU,VA,KS,VG⟩ := rA ex F B6 Ky KI KT KU VA KS VG
       refine zm [0, 1, 2, 3, 4, 5] ?_
       have l3 := KT.out.1
       have WU := KU.out.1
       have WV := hoi.2.2.2.1
       have WW := hoi.2.2.1
       refine bC 6 rfl func45 rfl (Dr (zL s0 s1 s2 s3 s4 s5 s6 s7 s8 s9 VJ VK) (bK jj ii.ctx) i2.A i2.n i2.c ii.ctx.trans _ KS.out (by rw [oL]; omega) KU.out Om) ?_
       rintro e _ ⟨Ws, Wv, rfl, Ww, ex⟩
       obtain ⟨F,B6,Ky,KI,KT,VA,KS,VG⟩ := JV ex F B6 Ky KI KT VA KS VG
       refine aU ?_
       refine bC 7 rfl func44 rfl (wO i3.A Ws i3.n 32 i3.c Wv ii.tag _ _ KT.out Ww Om Om) ?_
       rintro e _ ⟨rfl, ex⟩
       obtain ⟨F,B6,Ky,KI,VA,KS,VG⟩ := iQ ex F B6 Ky KI VA KS VG
       refine zm [8] ?_
       refine bA rfl (fun VW => ?_) (fun VW => ?_)
       ·have hne : ii.tag ≠ Mac.tag ((bK jj ii.ctx).getD 8 []) ii.ctx.trans := by simpa using VW
        have Wx : bO x p ini = (ix.zero, 16) := V8.trans (if_pos hne)
        refine au 2 ?_
        refine ak (aq rfl (cells := cD) Kr) ?_
        refine aU ?_
        intro _ D cg
        have ex := aA.one cg
        clear cg
        replace F := F.bo ex
        replace B6 := D; clear D
        replace B6 := B6.congr (cs' := cD) rfl
        refine aU ?_
        refine hret rfl rfl B6 rfl ?_
        rw [Wx]; exact ⟨cD, rfl, eB.zero _, (by first | decide | omega | (dsimp only; omega) | exact (show (7 : Nat) < 256 by decide) | exact (show (11 : Nat) < 256 by decide)), F.aD So⟩
       ·have heq : ¬ ii.tag ≠ Mac.tag ((bK jj ii.ctx).getD 8 []) ii.ctx.trans := by simpa using VW
        have Wy : bO x p ini = (⟨ii, bK jj ii.ctx, yy⟩, 0) := V8.trans (if_neg heq)
        refine au 7 ?_
        refine ak (aq rfl (cells := nC i0 ii.ctx.ep i1 i2 i3 ii.frm i4 s0 s1 s2 s3 s4 s5 s6 s7 s8 s9 VJ VK hy) Kr) ?_
        refine aU ?_
        intro _ D cg
        have ex := aA.one cg
        clear cg
        obtain ⟨F,Ky,KI,KS⟩ := dj ex F Ky KI KS
        replace B6 := D; clear D
        replace B6 := B6.congr (cs' := nC i0 ii.ctx.ep i1 i2 i3 ii.frm i4 s0 s1 s2 s3 s4 s5 s6 s7 s8 s9 VJ VK hy) rfl
        refine aU ?_
        refine hret rfl rfl B6 rfl ?_
        rw [Wy]; exact ⟨_, rfl, ⟨i0, i1, i2, i3, i4, s0, s1, s2, s3, s4, s5, s6, s7, s8, s9, VJ, VK, hy, rfl, KI.out, KS.out, Ky.out⟩, (by first | decide | omega | (dsimp only; omega) | exact (show (7 : Nat) < 256 by decide) | exact (show (11 : Nat) < 256 by decide)), F.aD So⟩
end
end Go.Proofs.YtgfafidlkldeaaaGreat
