/- What welcome.Make seals for one guest. No conditions: contracts of functions. -/
import Derived.Test.YtgfafidlkldeaaaGreatWlB
import Derived.Test.YtgfafidlkldeaaaGreatMuF
import Derived.Test.YtgfafidlkldeaaaGreatMuC
import Derived.Test.YtgfafidlkldeaaaGreatVk
import Derived.Test.YtgfafidlkldeaaaGreatNdK
import Derived.Test.YtgfafidlkldeaaaGreatSecE
import Derived.Test.YtgfafidlkldeaaaGreatAu
set_option linter.unusedVariables false
set_option linter.unusedSimpArgs false
set_option maxHeartbeats 4000000
set_option maxRecDepth 4000
namespace Go.Proofs.YtgfafidlkldeaaaGreat
section
open Go.RowKit
attribute [local irreducible] Y Ef WL WC WK WQ WM cx WN WF cT WJ gZ WG mR WR qo
open Wire Nd Hk
/-! Blocks in which no byte lies. -/
def Gl (cs : Array Value) : Bool := cs.toList.all fun v => match v with | .int .u8 _ => false | _ => true
theorem Bs.NH {w : World} {A : Oa} {n b : Nat} {t : TypeId} {cs : Array Value} {xs : Lb} (H : Bs w A n xs) (B : ao w b t cs) (h8 : Gl cs = true) (hn : 0 < n) (o : Nat) : A ≠ some ⟨b, o, none⟩ := fun e => by
 obtain ⟨b', off, hA, _, hc⟩ := H.get (k := 0) hn
 rw [e] at hA
 injection hA with hA
 injection hA with hA _ _
 subst hA
 rw [B.cell] at hc
 rw [← Array.getElem?_toList] at hc
 have h := List.all_eq_true.1 h8 _ (List.mem_of_getElem? hc)
 cases h
theorem II {w : World} {A : Oa} {n : Nat} {xs : Lb} {S : List Nat} (H : Bs w A n xs) (hS : ∀ g ∈ S, ∃ t cs, ao w g t cs ∧ Gl cs = true) : Kp w.heap.size S (fun w => Bs w A n xs) w :=
 Kp.bs H fun hn g hg o => by obtain ⟨t, cs, B, h⟩ := hS g hg; exact H.NH B h hn o
theorem GU {w : World} : ∀ g ∈ ([] : List Nat), ∃ t cs, ao w g t cs ∧ Gl cs = true := fun _ h => by cases h
/-! Welcomes whose slices have their capacities; what a welcome has for one. -/
def mb (w : World) (cs : Array Value) (x : kM) : Prop := ry w cs x ∧ ∀ A n c, cs[2]? = some (.slice A n c) → n ≤ c
def lG (w : World) (cs : Array Value) (x : kX) : Prop := ∃ h0 h1, cs = cZ h0 h1 ∧ mI mb 3 w h0.A h0.n x.guests ∧ (nI w h1 x.info ∧ h1.n ≤ h1.c)
theorem mb.ext {w w' : World} {cs : Array Value} {x : kM} (h : mb w cs x) (e : Ext w w') : mb w' cs x := ⟨h.1.ext e, h.2⟩
theorem lG.ext {w w' : World} {cs : Array Value} {x : kX} (h : lG w cs x) (e : Ext w w') : lG w' cs x := by
 obtain ⟨h0, h1, rfl, a, b⟩ := h
 exact ⟨h0, h1, rfl, a.ext e fun _ _ h => mb.ext h e, Bs.ext b.1 e, b.2⟩
def J0 (a b c d e f g h i j k l : Hd) : Array Value := #[.slice a.A a.n a.c, .slice b.A b.n b.c, .slice c.A c.n c.c, .slice d.A d.n d.c, .slice e.A e.n e.c, .slice f.A f.n f.c, .slice g.A g.n g.c, .slice h.A h.n h.c, .slice i.A i.n i.c, .slice j.A j.n j.c, .slice k.A k.n k.c, .slice l.A l.n l.c]
def Nx (g : Hd) (ep : Nat) (t u tg : Hd) (z : Int) (sg a b c d e f g' h i j k l y : Hd) : Array Value := #[.slice g.A g.n g.c, .int .u64 (ep : Int), .slice t.A t.n t.c, .slice u.A u.n u.c, .slice tg.A tg.n tg.c, .int .i64 z, .slice sg.A sg.n sg.c, .slice a.A a.n a.c, .slice b.A b.n b.c, .slice c.A c.n c.c, .slice d.A d.n d.c, .slice e.A e.n e.c, .slice f.A f.n f.c, .slice g'.A g'.n g'.c, .slice h.A h.n h.c, .slice i.A i.n i.c, .slice j.A j.n j.c, .slice k.A k.n k.c, .slice l.A l.n l.c, .slice y.A y.n y.c]
def rG : Array Value := Nx aq 0 aq aq aq 0 aq aq aq aq aq aq aq aq aq aq aq aq aq aq
theorem eW.form {w : World} {cs : Array Value} {s : List (List UInt8)} (H : eW w cs s) : ∃ a b c d e f g h i j k l : Hd, cs = J0 a b c d e f g h i j k l := by
 have hz := H.size
 have hd : ∀ i, i < 12 → ∃ h : Hd, cs[i]? = some (.slice h.A h.n h.c) := fun i hi => by
  obtain ⟨A, n, c, h1, _⟩ := H.get hi
  exact ⟨⟨A, n, c⟩, h1⟩
 obtain ⟨a, ea⟩ := hd 0 Om
 obtain ⟨b, eb⟩ := hd 1 Om
 obtain ⟨c, ec⟩ := hd 2 Om
 obtain ⟨d, ed⟩ := hd 3 Om
 obtain ⟨e, ee⟩ := hd 4 Om
 obtain ⟨f, ef⟩ := hd 5 Om
 obtain ⟨g, eg⟩ := hd 6 Om
 obtain ⟨h, eh⟩ := hd 7 Om
 obtain ⟨i, ei⟩ := hd 8 Om
 obtain ⟨j, ej⟩ := hd 9 Om
 obtain ⟨k, ek⟩ := hd 10 Om
 obtain ⟨l, el⟩ := hd 11 Om
 refine ⟨a, b, c, d, e, f, g, h, i, j, k, l, ?_⟩
 refine Array.ext_getElem? fun q => ?_
 match q with
 | 0 => exact ea
 | 1 => exact eb
 | 2 => exact ec
 | 3 => exact ed
 | 4 => exact ee
 | 5 => exact ef
 | 6 => exact eg
 | 7 => exact eh
 | 8 => exact ei
 | 9 => exact ej
 | 10 => exact ek
 | 11 => exact el
 | q + 12 => rw [Array.getElem?_eq_none Om]; exact (Array.getElem?_eq_none (by show 12 ≤ _; omega)).symm
theorem FV {w : World} {cs : Array Value} {s : List (List UInt8)} {S : List Nat} (H : eW w cs s) (hS : ∀ g ∈ S, ∃ t cs, ao w g t cs ∧ Gl cs = true) : Kp w.heap.size S (fun w => eW w cs s) w := by
 refine ⟨Nat.le_refl _, fun w2 hw => ?_⟩
 obtain ⟨vs, h1, h2, h3, h4⟩ := H
 exact ⟨vs, h1, h2, h3, fun i hi => by obtain ⟨A, n, c, h5, h6⟩ := h4 i hi; exact ⟨A, n, c, h5, (II h6 hS).2 w2 hw⟩⟩
/-! What a welcome has for a package, plainly. -/
def tX : ByteArray := ⟨#[87, 101, 108, 99, 111, 109, 101]⟩
theorem rq : tX.size ≤ 100 := by decide
theorem zM {α : Type} (p : α → Bool) (l : List α) (i : Nat) (x : α) (hx : l[i]? = some x) (h : (l.take i).find? p = none) (hp : p x = true) : l.find? p = some x := by
 obtain ⟨hi, hx⟩ := List.getElem?_eq_some_iff.1 hx
 have e2 : l.drop i = x :: l.drop (i + 1) := by rw [List.drop_eq_getElem_cons hi, hx]
 have h2 : (l.take i ++ l.drop i).find? p = some x := by rw [e2, List.find?_append, h, Option.none_or, List.find?_cons_of_pos hp]
 rwa [List.take_append_drop] at h2
theorem iO (w : World) : lG w (cZ aq aq) kX.zero := ⟨aq, aq, rfl, ⟨rfl, [], rfl, .inl rfl, fun i x h => by cases h⟩, Bs.nil _ _, Nat.le_refl _⟩
end
section
open Go.ChangeShapes Go.WideShapes Go.ChangeAt Go.RowKit
section
variable {H : Type} {enc : TypeId × Value → H} {W : World} {base : Nat} {spare : Nat → Bool} {held : Bool}
theorem zB {v : Value} {d : DataW H} {p : List MemPlace} (h : DataW.Trod enc Tryz.prog W base spare held 42 v d p) : ∃ cs x, v = .agg cs ∧ Ia W cs x := by
 obtain ⟨fuel, hf⟩ := h
 obtain ⟨x, hx⟩ := AE hf
 obtain ⟨_, hl, hfs⟩ := trod_struct Tryz.underlying42 hf
 refine ⟨_, x, wX rfl (by rw [hl]; decide +kernel), hx, fun A' n' c' e' => ?_⟩
 have c0 : Tryz.prog.cellsOf 23 = 1 := by kernel_rfl
 obtain ⟨_, t3⟩ := hfs 3 _ rfl
 obtain ⟨A, n, c, r, e, _, hc⟩ := vf t3
 have q := fN (i := 6) c0 e
 have e2 : v.cells.toList[6]? = some (.slice A' n' c') := by simpa using e'
 rw [q] at e2
 injection e2 with e2
 injection e2 with _ e3 e4
 omega
end
end
section
open Go.ChangeShapes Go.WideShapes Go.ChangeAt Go.RowKit
section
variable {H : Type} {enc : TypeId × Value → H} {W : World} {base : Nat} {spare : Nat → Bool} {held : Bool}
theorem DC {v : Value} {d : DataW H} {p : List MemPlace} (h : DataW.Trod enc Tryz.prog W base spare held 44 v d p) :
  ∃ cs l, v = .agg cs ∧ eW W cs l ∧ ∀ i, (l.getD i []).length ≤ maxLen := by
 obtain ⟨fuel, hf⟩ := h
 obtain ⟨Vl, hl, hfs⟩ := trod_struct Tryz.underlying44 hf
 have hc : Tryz.prog.cellsOf 44 = 12 := by kernel_rfl
 rw [hc] at hl
 have c1 : Tryz.prog.cellsOf 23 = 1 := by kernel_rfl
 have key : ∀ i, i < 12 → ∃ A n c xs, v.cells.toList[i]? = some (.slice A n c) ∧ Bs W A n xs ∧ n ≤ maxLen := by
  intro i hi
  match i, hi with
  | 0, _ => obtain ⟨y, h⟩ := hfs 0 _ rfl; obtain ⟨A, n, c, xs, e, b, m⟩ := bR h; exact ⟨A, n, c, xs, fN (i := 0) c1 e, b, m⟩
  | 1, _ => obtain ⟨y, h⟩ := hfs 1 _ rfl; obtain ⟨A, n, c, xs, e, b, m⟩ := bR h; exact ⟨A, n, c, xs, fN (i := 1) c1 e, b, m⟩
  | 2, _ => obtain ⟨y, h⟩ := hfs 2 _ rfl; obtain ⟨A, n, c, xs, e, b, m⟩ := bR h; exact ⟨A, n, c, xs, fN (i := 2) c1 e, b, m⟩
  | 3, _ => obtain ⟨y, h⟩ := hfs 3 _ rfl; obtain ⟨A, n, c, xs, e, b, m⟩ := bR h; exact ⟨A, n, c, xs, fN (i := 3) c1 e, b, m⟩
  | 4, _ => obtain ⟨y, h⟩ := hfs 4 _ rfl; obtain ⟨A, n, c, xs, e, b, m⟩ := bR h; exact ⟨A, n, c, xs, fN (i := 4) c1 e, b, m⟩
  | 5, _ => obtain ⟨y, h⟩ := hfs 5 _ rfl; obtain ⟨A, n, c, xs, e, b, m⟩ := bR h; exact ⟨A, n, c, xs, fN (i := 5) c1 e, b, m⟩
  | 6, _ => obtain ⟨y, h⟩ := hfs 6 _ rfl; obtain ⟨A, n, c, xs, e, b, m⟩ := bR h; exact ⟨A, n, c, xs, fN (i := 6) c1 e, b, m⟩
  | 7, _ => obtain ⟨y, h⟩ := hfs 7 _ rfl; obtain ⟨A, n, c, xs, e, b, m⟩ := bR h; exact ⟨A, n, c, xs, fN (i := 7) c1 e, b, m⟩
  | 8, _ => obtain ⟨y, h⟩ := hfs 8 _ rfl; obtain ⟨A, n, c, xs, e, b, m⟩ := bR h; exact ⟨A, n, c, xs, fN (i := 8) c1 e, b, m⟩
  | 9, _ => obtain ⟨y, h⟩ := hfs 9 _ rfl; obtain ⟨A, n, c, xs, e, b, m⟩ := bR h; exact ⟨A, n, c, xs, fN (i := 9) c1 e, b, m⟩
  | 10, _ => obtain ⟨y, h⟩ := hfs 10 _ rfl; obtain ⟨A, n, c, xs, e, b, m⟩ := bR h; exact ⟨A, n, c, xs, fN (i := 10) c1 e, b, m⟩
  | 11, _ => obtain ⟨y, h⟩ := hfs 11 _ rfl; obtain ⟨A, n, c, xs, e, b, m⟩ := bR h; exact ⟨A, n, c, xs, fN (i := 11) c1 e, b, m⟩
 obtain ⟨f, hfx⟩ : ∃ f : Nat → List UInt8, ∀ i, i < 12 → ∃ A n c, v.cells.toList[i]? = some (.slice A n c) ∧ Bs W A n (f i) ∧ n ≤ maxLen := by
  have hex : ∀ i, ∃ xs : List UInt8, i < 12 → ∃ A n c, v.cells.toList[i]? = some (.slice A n c) ∧ Bs W A n xs ∧ n ≤ maxLen := by
   intro i
   by_cases hi : i < 12
   ·obtain ⟨A, n, c, xs, h1, h2, h3⟩ := key i hi
    exact ⟨xs, fun _ => ⟨A, n, c, h1, h2, h3⟩⟩
   ·exact ⟨[], fun h => absurd h hi⟩
  exact ⟨fun i => Classical.choose (hex i), fun i hi => Classical.choose_spec (hex i) hi⟩
 have hget : ∀ i, i < 12 → ((List.range 12).map f).getD i [] = f i := fun i hi => by simp [hi]
 refine ⟨v.cells.toList.toArray, (List.range 12).map f, wX rfl Om, ⟨_, rfl, hl, by simp, fun i hi => ?_⟩, fun i => ?_⟩
 ·obtain ⟨A, n, c, h1, h2, h3⟩ := hfx i hi
  exact ⟨A, n, c, h1, by rw [hget i hi]; exact h2⟩
 ·by_cases hi : i < 12
  ·obtain ⟨A, n, c, h1, h2, h3⟩ := hfx i hi
   rw [hget i hi, h2.1]; exact h3
  ·rw [List.getD_eq_getElem?_getD, List.getElem?_eq_none So]; exact Nat.zero_le _
end
end
section
open Go.RowKit Tryz
attribute [local irreducible] Y Ef WL WC WK WQ WM cx WN WF cT WJ gZ WG mR WR qo
open Wire Nd Hk
structure Gs where
 pk : Pack
 way : List UInt8
def wT (i h0 h1 h2 : Hd) (s : Nat) (h4 h5 g y : Hd) : Array Value := #[.slice i.A i.n i.c, .slice h0.A h0.n h0.c, .slice h1.A h1.n h1.c, .slice h2.A h2.n h2.c, .int .u8 (s : Int), .slice h4.A h4.n h4.c, .slice h5.A h5.n h5.c, .slice g.A g.n g.c, .slice y.A y.n y.c]
def vH (B : Hd → List UInt8 → Prop) (cs : Array Value) (x : Gs) : Prop :=
 ∃ i h0 h1 h2 h4 h5 g y, cs = wT i h0 h1 h2 x.pk.leaf.src h4 h5 g y ∧ x.pk.leaf.src < 256 ∧ B i x.pk.init ∧ B h0 x.pk.leaf.box ∧ B h1 x.pk.leaf.sign ∧ B h2 x.pk.leaf.ident ∧ B h4 x.pk.leaf.parent ∧ B h5 x.pk.leaf.sig ∧ B g x.pk.sig ∧ B y x.way
def j6 (w : World) (cs : Array Value) (x : Gs) : Prop := vH (nI w) cs x
theorem vH.imp {B B' : Hd → List UInt8 → Prop} {cs : Array Value} {x : Gs} (h : vH B cs x) (f : ∀ h xs, B h xs → B' h xs) : vH B' cs x := by
 obtain ⟨i, h0, h1, h2, h4, h5, g, y, e, p, q, q0, q1, q2, q4, q5, r, t⟩ := h
 exact ⟨i, h0, h1, h2, h4, h5, g, y, e, p, f _ _ q, f _ _ q0, f _ _ q1, f _ _ q2, f _ _ q4, f _ _ q5, f _ _ r, f _ _ t⟩
theorem j6.ext {w w' : World} {cs : Array Value} {x : Gs} (h : j6 w cs x) (e : Ext w w') : j6 w' cs x := vH.imp h fun _ _ b => Bs.ext b e
def vX : ByteArray := ⟨#[103, 117, 101, 115, 116]⟩
def sn (seed : Lb) (k : Nat) : List UInt8 := Kdf.label seed vX.data.toList (Wire.be 4 k) 32
def ma (j seed inf : Lb) (k : Nat) (x : Gs) : List UInt8 × List UInt8 × Nat := sl x.pk.init (sn seed k) (Hk.info tX inf) (gW j x.way) []
def hO (j seed inf : Lb) (k : Nat) (x : Gs) : kM × Nat :=
 if ¬ df x.pk ∨ ¬ ky j x.way then (kM.zero, 3) else (⟨lB x.pk, (ma j seed inf k x).1, (ma j seed inf k x).2.1⟩, (ma j seed inf k x).2.2)
def nJ (base : Nat) (w : World) (cs : Array Value) (x : kM) : Prop := ∃ a b c, cs = dw a b c ∧ Fb base w a.A a.n x.ref ∧ Fb base w b.A b.n x.enc ∧ Fb base w c.A c.n x.box ∧ c.n ≤ c.c
theorem nJ.mono {base b : Nat} {w : World} {cs : Array Value} {x : kM} (h : nJ base w cs x) (hb : b ≤ base) : nJ b w cs x := by
 obtain ⟨a, c, d, e, h1, h2, h3, h4⟩ := h; exact ⟨a, c, d, e, h1.mono hb, h2.mono hb, h3.mono hb, h4⟩
theorem nJ.zero (base : Nat) (w : World) : nJ base w (dw aq aq aq) kM.zero := ⟨aq, aq, aq, rfl, Fb.nil _ _ _, Fb.nil _ _ _, Fb.nil _ _ _, Nat.le_refl _⟩
theorem yk (pb sd is ts ms : Lb) : (sl pb sd is ts ms).2.2 < 256 := by
 have := DR pb sd
 unfold sl; split
 ·omega
 ·show 0 < 256; omega
theorem yE (j y : Lb) : (gW j y).length ≤ j.length + y.length + 20 := by
 have h1 := Wire.bu j.length; have h2 := Wire.bu y.length
 unfold gW; split <;> simp [gA] <;> omega
theorem BJ {ds ss : Array Value} {x : Gs} {bs bd bi : Nat} {ts : List (List UInt8)} {D I : Oa} {nd cd ni ci : Nat} {seed inf : Lb} (k : Nat) (w : World) (HX : j6 w ds x) (hx : x.pk.Small) (hw : x.way.length ≤ 1000)
  (S1 : ao w bs 44 ss) (HS : eW w ss ts) (hj : (ts.getD 0 []).length ≤ 1000) (S2 : ao w bd 23 #[.slice D nd cd]) (HD : Bs w D nd seed) (hnd : nd ≤ 1000) (S3 : ao w bi 23 #[.slice I ni ci]) (HI : Bs w I ni inf) (hni : ni ≤ 6000) (hk : k < 4294967296) :
  Ct 128 #[.int .i64 (k : Int), .agg ds, .pointer (some ⟨bs, 0, none⟩), .pointer (some ⟨bd, 0, none⟩), .pointer (some ⟨bi, 0, none⟩)] w fun e w' => ∃ cs, e = .returned (.tuple #[.agg cs, .int .u8 ((hO (ts.getD 0 []) seed inf k x).2 : Int)]) ∧ nJ w.heap.size w' cs (hO (ts.getD 0 []) seed inf k x).1 ∧ Ext w w' := by
 have VQ := HX
 obtain ⟨i, h0, h1, h2, h4, h5, g, y, rfl, hsrc, q, q0, q1, q2, q4, q5, r, HY⟩ := HX
 have HP : cS w (dk i h0 h1 h2 x.pk.leaf.src h4 h5 g) x.pk := ⟨i, h0, h1, h2, h4, h5, g, rfl, hsrc, q, q0, q1, q2, q4, q5, r⟩
 obtain ⟨J, nj, cj, VE, HJ⟩ := HS.get (i := 0) Om
 have F := aX.refl [] w
 have lw := HY.1; have lj := HJ.1; have ld := HD.1; have lq := q.1; have hq := hx.1
 refine cV (s := 3) 63 func128 rfl rfl rfl underlying37 rfl Kr rfl ?_
 intro _ hret
 refine aU ?_
 intro _ Vu B6 _ ex
 have VR := B6.lt
 obtain ⟨F,S1,S2,S3⟩ := bU ex F S1 S2 S3
 refine aU ?_
 intro _ Vv B7 Vl ex
 have VS := B7.lt
 replace F := F.grow ex Vl
 replace S1 := S1.grow ex Vl
 replace S2 := S2.grow ex Vl
 replace S3 := S3.grow ex Vl
 replace B6 := B6.grow ex Vl
 have b6 := B6.lt; have y1 := F.size
 refine aU ?_
 have X1 := F.cM So
 refine aL func36 rfl (fQ _ (fG.imp HP fun _ _ b => Bs.ext b X1) hx) ?_
 rintro e _ ⟨A9, k9, c9, _, rfl, T9, n9, ex⟩
 obtain ⟨F,S1,S2,S3,B6,B7⟩ := gL ex F S1 S2 S3 B6 B7
 have VT := T9
 refine aU ?_
 refine al rfl (fun VA => ?_) (fun VA => ?_)
 ·refine au 2 ?_
  refine ak (aJ rfl (cells := dw aq aq aq) Kr) ?_
  refine aU ?_
  intro _ D cg
  have ex := aX.one cg
  clear cg
  replace F := F.bT ex
  replace B7 := D; clear D
  replace B7 := B7.congr (cs' := dw aq aq aq) rfl
  refine aU ?_
  refine hret rfl rfl B7 rfl ?_
  have hno : ¬ df x.pk := fun o => VA (by rw [(T9.1 o).1]; rfl)
  obtain ⟨hz, _⟩ := T9.2 hno
  subst hz
  have e1 : hO (ts.getD 0 []) seed inf k x = (kM.zero, 3) := by unfold hO; rw [if_pos (.inl hno)]
  rw [e1]; exact ⟨_, rfl, nJ.zero _ _, F.cM So⟩
 ·have okp : df x.pk := Classical.byContradiction fun hno => by have := (T9.2 hno).1; omega
  have J9 := Fb.kk (S := [Vv, Vu]) (Bn.fb ⟨(T9.1 okp).2, n9⟩) So
  refine au 5 ?_
  refine ak (ah rfl Tn.u rfl (S1.get (i := 0) VE)) ?_
  refine aU ?_
  have X4 := F.cM So
  refine aL func129 rfl (mV _ (HJ.ext X4) (Bs.ext HY X4)) ?_
  rintro e _ ⟨VF, VG, VH, _, rfl, Vn, _, ex⟩
  obtain ⟨F,S2,S3,B6,B7,J9⟩ := gL ex F S2 S3 B6 B7 J9
  refine aU ?_
  refine al rfl (fun VB => ?_) (fun VB => ?_)
  ·refine au 2 ?_
   refine ak (aJ rfl (cells := dw aq aq aq) Kr) ?_
   refine aU ?_
   intro _ D cg
   have ex := aX.one cg
   clear cg
   replace F := F.bT ex
   replace B7 := D; clear D
   replace B7 := B7.congr (cs' := dw aq aq aq) rfl
   refine aU ?_
   refine hret rfl rfl B7 rfl ?_
   have hno : ¬ ky (ts.getD 0 []) x.way := fun o => VB (by rw [(Vn.1 o).1]; rfl)
   obtain ⟨hz, _⟩ := Vn.2 hno
   subst hz
   have e1 : hO (ts.getD 0 []) seed inf k x = (kM.zero, 3) := by unfold hO; rw [if_pos (.inr hno)]
   rw [e1]; exact ⟨_, rfl, nJ.zero _ _, F.cM So⟩
  ·refine aU ?_
   have oks : ky (ts.getD 0 []) x.way := Classical.byContradiction fun hno => by have := (Vn.2 hno).1; omega
   have Vm := (Vn.1 oks).2
   have VI := Vm.1; have VJ := yE (ts.getD 0 []) x.way
   refine aA Kr 10 rfl ?_; intro VU ex VV
   obtain ⟨F,S2,S3,B6,B7,J9,Vm⟩ := gY ex F S2 S3 B6 B7 J9 Vm
   refine zm [0, 1, 2] ?_
   refine bm 3 rfl func131 rfl (eZ none 0 0 4 k [] _ (Bs.nil _ _) Om Om Om) ?_
   rintro e _ ⟨VK, VL, rfl, VM, ex⟩
   refine aU ?_
   obtain ⟨F,S3,B6,B7,J9,Vm⟩ := gL ex F S3 B6 B7 J9 Vm
   have VC := VM.bs; rw [List.nil_append] at VC
   have X7 := F.cM So
   refine bm 4 rfl func130 rfl (mK D VK nd cd (0 + 4) VL 32 vX seed _ _ (HD.ext X7) Om (by decide) VC Om Om) ?_
   rintro e _ ⟨VD, VN, rfl, ⟨Vw, _⟩, _, ex⟩
   obtain ⟨F,S3,B6,B7,J9,Vm⟩ := gL ex F S3 B6 B7 J9 Vm
   replace Vw : Bs _ VD 32 (sn seed k) := Vw
   refine zm [5, 6, 7, 8, 9] ?_
   have X8 := F.cM So; have y8 := F.size; have VW := B6.lt; have VX := B7.lt
   refine aL func57 rfl (pj i.A VD I VF tX i.n i.c 32 VN ni ci VG VH x.pk.init (sn seed k) inf (gW (ts.getD 0 []) x.way) _ rq (Bs.ext q X8) Om Vw Om (HI.ext X8) Om Vm Om) ?_
   rintro e _ ⟨Vo, Vp, Vq, Vr, Vs, Vt, rfl, VO, VP, _, _, Vx, t14, ex⟩
   obtain ⟨F,B7,J9⟩ := bC ex F B7 J9
   have Vy := Fb.kk (S := [Vv, Vu]) (Bn.fb ⟨VO, t14.1⟩) So; have Vz := Fb.kk (S := [Vv, Vu]) (Bn.fb ⟨VP, fun b o e => (t14.2 b o e).1⟩) So
   refine au 15 ?_
   refine ak (aJ rfl (cells := cZ ⟨Vo, Vp, Vq⟩ ⟨Vr, Vs, Vt⟩) Kr) ?_
   refine ak (aJ rfl (cells := dw ⟨A9, k9, c9⟩ ⟨Vo, Vp, Vq⟩ ⟨Vr, Vs, Vt⟩) Kr) ?_
   refine aU ?_
   intro _ D cg
   have ex := aX.one cg
   clear cg
   obtain ⟨F,J9,Vy,Vz⟩ := kA ex F J9 Vy Vz
   replace B7 := D; clear D
   replace B7 := B7.congr (cs' := dw ⟨A9, k9, c9⟩ ⟨Vo, Vp, Vq⟩ ⟨Vr, Vs, Vt⟩) rfl
   refine aU ?_
   refine hret rfl rfl B7 rfl ?_
   have e1 : hO (ts.getD 0 []) seed inf k x = (⟨lB x.pk, (ma (ts.getD 0 []) seed inf k x).1, (ma (ts.getD 0 []) seed inf k x).2.1⟩, (ma (ts.getD 0 []) seed inf k x).2.2) := by unfold hO; rw [if_neg (fun h => h.elim (fun h => h okp) (fun h => h oks))]
   rw [e1]; exact ⟨_, rfl, ⟨⟨A9, k9, c9⟩, ⟨Vo, Vp, Vq⟩, ⟨Vr, Vs, Vt⟩, rfl, J9.out.mono Om, Vy.out.mono Om, Vz.out.mono Om, Vx⟩, F.cM So⟩
end
end Go.Proofs.YtgfafidlkldeaaaGreat
