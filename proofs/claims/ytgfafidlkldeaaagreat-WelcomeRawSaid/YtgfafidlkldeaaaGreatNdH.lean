/- Nodes that are taken of bytes at a place: what the reference answers. -/
import Derived.Test.YtgfafidlkldeaaaGreatWireR
import Derived.Test.YtgfafidlkldeaaaGreatKdfB
import Derived.Test.YtgfafidlkldeaaaGreatAu
import Derived.Test.YtgfafidlkldeaaaGreatRow
set_option linter.unusedVariables false
set_option linter.unusedSimpArgs false
set_option maxHeartbeats 4000000
set_option maxRecDepth 4000
namespace Go.Proofs.YtgfafidlkldeaaaGreat
section
open Go.RowKit
attribute [local irreducible] Y Ef WL WC WK WQ WM cE WN WF dc
theorem km {A B : Oa} {n m c d : Nat} {xs ys : Lb} {w : World} (ha : Bs w A n xs) (hb : Bs w B m ys) (hn : n ≤ 140737488355328) (hm : m ≤ 140737488355328) :
  Ct 26 #[.slice A n c, .slice B m d] w fun e w' => e = .returned (.bool (decide (xs = ys))) ∧ Ext w w' :=
 (vI A B n m c d xs ys w ha hb hn hm).mono fun _ _ ⟨h1, k, h2⟩ => ⟨h1, by rw [h2]; exact Ext.drewN _ _⟩
structure bT where
 box : List UInt8
 sign : List UInt8
 ident : List UInt8
 src : Nat
 parent : List UInt8
 sig : List UInt8
structure AW where
 box : List UInt8
 hash : List UInt8
 late : List Int
structure Node where
 kind : Nat
 leaf : bT
 par : AW
def bT.zero : bT := ⟨[], [], [], 0, [], []⟩
def AW.zero : AW := ⟨[], [], []⟩
structure Hd where
 A : Option Addr
 n : Nat
 c : Nat
def an : Hd := ⟨none, 0, 0⟩
def gj (h0 h1 h2 : Hd) (s : Nat) (h4 h5 : Hd) : Array Value := #[.slice h0.A h0.n h0.c, .slice h1.A h1.n h1.c, .slice h2.A h2.n h2.c, .int .u8 (s : Int), .slice h4.A h4.n h4.c, .slice h5.A h5.n h5.c]
def N8 (h0 h1 h2 : Hd) : Array Value := #[.slice h0.A h0.n h0.c, .slice h1.A h1.n h1.c, .slice h2.A h2.n h2.c]
def Gl (k : Nat) (h0 h1 h2 : Hd) (s : Nat) (h4 h5 p0 p1 p2 : Hd) : Array Value := #[.int .u8 (k : Int), .slice h0.A h0.n h0.c, .slice h1.A h1.n h1.c, .slice h2.A h2.n h2.c, .int .u8 (s : Int), .slice h4.A h4.n h4.c, .slice h5.A h5.n h5.c, .slice p0.A p0.n p0.c, .slice p1.A p1.n p1.c, .slice p2.A p2.n p2.c]
def ky (B : Hd → List UInt8 → Prop) (cs : Array Value) (l : bT) : Prop := ∃ h0 h1 h2 h4 h5, cs = gj h0 h1 h2 l.src h4 h5 ∧ l.src < 256 ∧ B h0 l.box ∧ B h1 l.sign ∧ B h2 l.ident ∧ B h4 l.parent ∧ B h5 l.sig
def uV (B : Hd → List UInt8 → Prop) (Z : Hd → List Int → Prop) (cs : Array Value) (n : Node) : Prop :=
 ∃ h0 h1 h2 h4 h5 p0 p1 p2, cs = Gl n.kind h0 h1 h2 n.leaf.src h4 h5 p0 p1 p2 ∧ n.kind < 256 ∧ n.leaf.src < 256 ∧ B h0 n.leaf.box ∧ B h1 n.leaf.sign ∧ B h2 n.leaf.ident ∧ B h4 n.leaf.parent ∧ B h5 n.leaf.sig ∧ B p0 n.par.box ∧ B p1 n.par.hash ∧ Z p2 n.par.late
section
variable {B B' : Hd → List UInt8 → Prop} {Z Z' : Hd → List Int → Prop} {cs : Array Value} {l : bT} {p : AW} {n : Node}
theorem ky.imp (h : ky B cs l) (f : ∀ h xs, B h xs → B' h xs) : ky B' cs l := by
 obtain ⟨h0, h1, h2, h4, h5, e, hs, b0, b1, b2, b4, b5⟩ := h
 exact ⟨h0, h1, h2, h4, h5, e, hs, f _ _ b0, f _ _ b1, f _ _ b2, f _ _ b4, f _ _ b5⟩
theorem uV.imp (h : uV B Z cs n) (f : ∀ h xs, B h xs → B' h xs) (z : ∀ h xs, Z h xs → Z' h xs) : uV B' Z' cs n := by
 obtain ⟨h0, h1, h2, h4, h5, p0, p1, p2, e, hk, hs, b0, b1, b2, b4, b5, q0, q1, q2⟩ := h
 exact ⟨h0, h1, h2, h4, h5, p0, p1, p2, e, hk, hs, f _ _ b0, f _ _ b1, f _ _ b2, f _ _ b4, f _ _ b5, f _ _ q0, f _ _ q1, z _ _ q2⟩
end
abbrev kP (w : World) (h : Hd) (xs : Lb) : Prop := Bs w h.A h.n xs
abbrev QY (w : World) (h : Hd) (zs : List Int) : Prop := Zs w h.A h.n zs
def dO (w : World) (cs : Array Value) (l : bT) : Prop := ky (kP w) cs l
def qY (w : World) (cs : Array Value) (n : Node) : Prop := uV (kP w) (QY w) cs n
section
variable {S S' : List Nat} {w w' : World} {cs : Array Value} {l : bT} {p : AW} {n : Node} {N k base base' : Nat}
theorem dO.ext (h : dO w cs l) (e : Ext w w') : dO w' cs l := ky.imp h fun _ _ b => Bs.ext b e
theorem qY.ext (h : qY w cs n) (e : Ext w w') : qY w' cs n := uV.imp h (fun _ _ b => Bs.ext b e) (fun _ _ b => Zs.ext b e)
def gv : Array Value := gj an an an 0 an an
def NN : Array Value := N8 an an an
end
/-! Which may be. -/
def aG (l : bT) : Prop := l.box.length = 32 ∧ l.sign.length = 32 ∧ l.sig.length = 64 ∧ 1 ≤ l.ident.length ∧ l.ident.length ≤ 64 ∧ 1 ≤ l.src ∧ l.src ≤ 3 ∧ (l.parent.length = 0 ∨ l.src = 3 ∧ l.parent.length = 32)
instance (l : bT) : Decidable (aG l) := by unfold aG; infer_instance
def rising : Int → List Int → Prop
 | _, [] => True
 | last, x :: xs => last < x ∧ x < 65536 ∧ rising x xs
def rising.dec : (last : Int) → (xs : List Int) → Decidable (rising last xs)
 | _, [] => .isTrue trivial
 | last, x :: xs => @instDecidableAnd _ _ _ (@instDecidableAnd _ _ _ (rising.dec x xs))
instance (last : Int) (xs : List Int) : Decidable (rising last xs) := rising.dec last xs
instance (a b : bT) : Decidable (a = b) := by
 refine decidable_of_iff (a.box = b.box ∧ a.sign = b.sign ∧ a.ident = b.ident ∧ a.src = b.src ∧ a.parent = b.parent ∧ a.sig = b.sig) ⟨fun ⟨h1, h2, h3, h4, h5, h6⟩ => ?_, fun h => by subst h; exact ⟨rfl, rfl, rfl, rfl, rfl, rfl⟩⟩
 cases a; cases b; simp_all
instance (a b : AW) : Decidable (a = b) := by
 refine decidable_of_iff (a.box = b.box ∧ a.hash = b.hash ∧ a.late = b.late) ⟨fun ⟨h1, h2, h3⟩ => ?_, fun h => by subst h; exact ⟨rfl, rfl, rfl⟩⟩
 cases a; cases b; simp_all
instance (a b : Node) : Decidable (a = b) := by
 refine decidable_of_iff (a.kind = b.kind ∧ a.leaf = b.leaf ∧ a.par = b.par) ⟨fun ⟨h1, h2, h3⟩ => ?_, fun h => by subst h; exact ⟨rfl, rfl, rfl⟩⟩
 cases a; cases b; simp_all
theorem aI {p : Prop} [Decidable p] (h : ¬ p) : Ending.returned (.bool false) = .returned (.bool (decide p)) := by rw [decide_eq_false h]
theorem bF {p : Prop} [Decidable p] (h : p) : Ending.returned (.bool true) = .returned (.bool (decide p)) := by rw [decide_eq_true h]
theorem lS {cs : Array Value} {l : bT} (w : World) (H : dO w cs l) :
  Ct 140 #[.agg cs] w fun e w' => e = .returned (.bool (decide (aG l))) ∧ Ext w w' := by
 obtain ⟨h0, h1, h2, h4, h5, rfl, hs, b0, b1, b2, b4, b5⟩ := H
 have l0 := b0.1; have l1 := b1.1; have l2 := b2.1; have l4 := b4.1; have l5 := b5.1
 have E := Ext.refl w
 refine ai 55 Tryz.func140 rfl rfl rfl rfl ?_
 intro _ hret
 refine aU ?_
 intro _ _ _ _ ex
 replace E := E.ext ex
 refine au 10 ?_
 refine aR (iY rfl rfl) rfl (fun q0 => ?_) (fun q0 => ?_)
 ·refine au 15 ?_
  refine bR rfl rfl ?_
  refine aU ?_
  refine hret rfl ?_
  exact ⟨aI fun h => by unfold aG at h; omega, E⟩
 ·refine au 4 ?_
  refine aJ 8 rfl rfl (iY rfl rfl) rfl (fun q1 => ?_) (fun q1 => ?_)
  ·refine au 10 ?_
   refine bR rfl rfl ?_
   refine aU ?_
   refine hret rfl ?_
   exact ⟨aI fun h => by unfold aG at h; omega, E⟩
  ·refine au 5 ?_
   refine aJ 14 rfl rfl (iY rfl rfl) rfl (fun q2 => ?_) (fun q2 => ?_)
   ·refine au 4 ?_
    refine bR rfl rfl ?_
    refine aU ?_
    refine hret rfl ?_
    exact ⟨aI fun h => by unfold aG at h; omega, E⟩
   ·refine au 4 ?_
    refine aX rfl rfl ?_
    refine au 5 ?_
    refine aR (dA rfl rfl) rfl (fun q3 => ?_) (fun q3 => ?_)
    ·refine au 9 ?_
     refine bR rfl rfl ?_
     refine aU ?_
     refine hret rfl ?_
     exact ⟨aI fun h => by unfold aG at h; omega, E⟩
    ·refine au 4 ?_
     refine aJ 25 rfl rfl (gd rfl rfl) rfl (fun q4 => ?_) (fun q4 => ?_)
     ·refine au 4 ?_
      refine bR rfl rfl ?_
      refine aU ?_
      refine hret rfl ?_
      exact ⟨aI fun h => by unfold aG at h; omega, E⟩
     ·refine au 4 ?_
      refine aX rfl rfl ?_
      refine au 4 ?_
      refine aR (dA rfl rfl) rfl (fun q5 => ?_) (fun q5 => ?_)
      ·refine au 8 ?_
       refine bR rfl rfl ?_
       refine aU ?_
       refine hret rfl ?_
       exact ⟨aI fun h => by unfold aG at h; omega, E⟩
      ·refine au 3 ?_
       refine aJ 35 rfl rfl (gd rfl rfl) rfl (fun q6 => ?_) (fun q6 => ?_)
       ·refine au 4 ?_
        refine bR rfl rfl ?_
        refine aU ?_
        refine hret rfl ?_
        exact ⟨aI fun h => by unfold aG at h; omega, E⟩
       ·refine au 4 ?_
        refine aX rfl rfl ?_
        refine au 8 ?_
        refine aR (cL rfl rfl) rfl (fun q7 => ?_) (fun q7 => ?_)
        ·refine aU ?_
         refine dg 48 rfl rfl rfl ?_
         refine dg 48 rfl rfl rfl ?_
         refine dg 48 rfl rfl rfl ?_
         refine dg 48 rfl rfl rfl ?_
         refine aU ?_
         refine hret rfl ?_
         exact ⟨bF (by unfold aG; omega), E⟩
        ·refine au 3 ?_
         refine aJ 44 rfl rfl (cL rfl rfl) rfl (fun q8 => ?_) (fun q8 => ?_)
         ·refine au 4 ?_
          refine aJ 48 rfl rfl (cL rfl rfl) rfl (fun q9 => ?_) (fun q9 => ?_)
          ·refine aU ?_
           refine hret rfl ?_
           exact ⟨bF (by unfold aG; omega), E⟩
          ·refine aU ?_
           refine hret rfl ?_
           exact ⟨aI fun h => by unfold aG at h; omega, E⟩
         ·refine aU ?_
          refine hret rfl ?_
          exact ⟨aI fun h => by unfold aG at h; omega, E⟩
end
section
open Go.ChangeShapes Go.WideShapes Go.ChangeAt Go.RowKit
section
variable {H : Type} {enc : TypeId × Value → H} {W : World} {base : Nat} {spare : Nat → Bool} {held : Bool}
theorem eB {fuel : Nat} {cs : List Value} {x : DataW H × List MemPlace} (h : DataW.trod enc Tryz.prog W base spare held fuel 23 cs = some x) : ∃ a n c xs, cs = [.slice a n c] ∧ Bs W a n xs ∧ n ≤ c := by
 have h' := h
 rcases open_ints Tryz.underlying23 Tryz.underlying5 Kr h with ⟨hcs, _⟩ | ⟨x, l, c, zs, hcs, _⟩
 ·obtain ⟨⟨xs, hb⟩, _, hm⟩ := oV (a := none) (len := 0) (cap := 0) ⟨fuel, by simpa [Value.cells, hcs] using h'⟩
  exact ⟨none, 0, 0, xs, hcs, hb, hm⟩
 ·obtain ⟨⟨xs, hb⟩, _, hm⟩ := oV (a := some x) (len := l) (cap := c) ⟨fuel, by simpa [Value.cells, hcs] using h'⟩
  exact ⟨some x, l, c, xs, hcs, hb, hm⟩
theorem mn {cs : List Value} {o k i : Nat} {v : Value} (hi : i < k) (h : ((cs.drop o).take k)[i]? = some v) : cs[o + i]? = some v := by
 rwa [List.getElem?_take_of_lt hi, List.getElem?_drop] at h
theorem CF {fuel : Nat} {cs : List Value} {x : DataW H × List MemPlace} (h : DataW.trod enc Tryz.prog W base spare held fuel 27 cs = some x) :
  cs.length = 6 ∧ ∃ (h0 h1 h2 h4 h5 : Hd) (l : bT), (∀ i, i < 6 → cs[i]? = (gj h0 h1 h2 l.src h4 h5)[i]?) ∧ l.src < 256 ∧ (kP W h0 l.box ∧ h0.n ≤ h0.c) ∧ (kP W h1 l.sign ∧ h1.n ≤ h1.c) ∧ (kP W h2 l.ident ∧ h2.n ≤ h2.c) ∧ (kP W h4 l.parent ∧ h4.n ≤ h4.c) ∧ kP W h5 l.sig ∧ h5.n ≤ h5.c := by
 obtain ⟨Vw, hl, hfs⟩ := trod_struct Tryz.underlying27 h
 have hc : Tryz.prog.cellsOf 27 = 6 := by kernel_rfl
 rw [hc] at hl
 have c1 : Tryz.prog.cellsOf 23 = 1 := by kernel_rfl
 have c2 : Tryz.prog.cellsOf 5 = 1 := by kernel_rfl
 obtain ⟨y0, t0⟩ := hfs 0 _ rfl
 obtain ⟨y1, t1⟩ := hfs 1 _ rfl
 obtain ⟨y2, t2⟩ := hfs 2 _ rfl
 obtain ⟨y3, t3⟩ := hfs 3 _ rfl
 obtain ⟨y4, t4⟩ := hfs 4 _ rfl
 obtain ⟨y5, t5⟩ := hfs 5 _ rfl
 obtain ⟨A0, n0, k0, x0, e0, b0⟩ := eB t0
 obtain ⟨A1, n1, k1, x1, e1, b1⟩ := eB t1
 obtain ⟨A2, n2, k2, x2, e2, b2⟩ := eB t2
 obtain ⟨N, e3, m3⟩ := ID t3
 obtain ⟨A4, n4, k4, x4, e4, b4⟩ := eB t4
 obtain ⟨A5, n5, k5, x5, e5, b5⟩ := eB t5
 have q0 := ny (i := 0) c1 e0
 have q1 := ny (i := 1) c1 e1
 have q2 := ny (i := 2) c1 e2
 have q3 := ny (i := 3) c2 e3
 have q4 := ny (i := 4) c1 e4
 have q5 := ny (i := 5) c1 e5
 refine ⟨hl, ⟨A0, n0, k0⟩, ⟨A1, n1, k1⟩, ⟨A2, n2, k2⟩, ⟨A4, n4, k4⟩, ⟨A5, n5, k5⟩, ⟨x0, x1, x2, N, x4, x5⟩, fun i hi => ?_, m3, b0, b1, b2, b4, b5⟩
 match i with
 | 0 => exact q0
 | 1 => exact q1
 | 2 => exact q2
 | 3 => exact q3
 | 4 => exact q4
 | 5 => exact q5
 | i + 6 => omega
end
end
section
open Go.RowKit
attribute [local irreducible] Y Ef WL WC WK WQ WM cE WN WF dc
def bT.Fit (l : bT) : Prop := l.box.length ≤ 1000000 ∧ l.sign.length ≤ 1000000 ∧ l.ident.length ≤ 1000000 ∧ l.parent.length ≤ 1000000 ∧ l.sig.length ≤ 1000000
def AW.Fit (p : AW) : Prop := p.box.length ≤ 1000000 ∧ p.hash.length ≤ 1000000 ∧ p.late.length ≤ 1000000
def Node.Fit (n : Node) : Prop := n.leaf.Fit ∧ n.par.Fit
end
section
open Go.RowKit Tryz
attribute [local irreducible] Y Ef WL WC WK WQ WM cE WN WF dc WJ gJ
open Wire Nd
namespace Nd
end Nd
def cx (kd sz : Int) (n : Nat) (h : Hd) : Array Value := #[.int .i64 kd, .int .i64 sz, .int .u64 (n : Int), .slice h.A h.n h.c, .slice none 0 0]
theorem zn {A : Oa} {n c at_ : Nat} {b : Lb} (w : World) (HA : Bs w A n b) (hc : n ≤ c) (hn : n ≤ 1000000) (hat : at_ ≤ n) :
  Ct 186 #[.slice A n c, .int .i64 (at_ : Int), .agg (cx 1 0 0 an)] w fun e w' => ∃ h, e = .returned (.tuple #[.agg (cx 1 0 0 h), .int .i64 (((dU b at_).2.1 : Nat) : Int), .int .i64 (((dU b at_).2.2 : Nat) : Int)]) ∧ Sub A n b h.A h.n (dU b at_).1 ∧ h.n ≤ h.c ∧ Ext w w' := by
 have F := aA.refl [] w
 have J0 : Kp w.heap.size [] (fun w => Bs w A n b) w := Kp.bs HA (by simp)
 refine kj (s := 5) 186 func186 rfl rfl rfl underlying231 rfl Kr rfl ?_
 intro _ hret
 refine aU ?_
 intro _ _ B5 _ ex
 have VB := B5.lt
 obtain ⟨F,J0⟩ := ba ex F J0
 refine aU ?_
 intro _ Vz B6 Vx ex
 have VC := ex.size
 replace F := F.grow ex Vx
 replace J0 := J0.grow ex Vx
 replace B5 := B5.grow ex Vx
 refine au 10 ?_
 refine ak (aq rfl (cells := cx 1 0 0 an) Kr) ?_
 refine aU ?_
 intro _ VA B9 Vw ex
 have Vy : Vz < VA := Nat.lt_of_lt_of_le B6.lt Vw
 replace F := F.grow ex Vw
 replace J0 := J0.grow ex Vw
 replace B5 := B5.grow ex Vw
 replace B6 := B6.grow ex Vw
 refine aU ?_
 intro _ D cg
 have ex := aA.one cg
 clear cg
 obtain ⟨F,J0,B5,B6⟩ := dj ex F J0 B5 B6
 replace B9 := D; clear D
 replace B9 := B9.congr (cs' := cx 1 0 0 an) rfl
 refine aU ?_
 refine aB func231 rfl (uP J0.out hc hn hat) ?_
 rintro e _ ⟨A1, k1, c1, rfl, hsub, hcap, ex⟩
 obtain ⟨F,B6,B9⟩ := bC ex F B6 B9
 refine aU ?_
 intro _ D cg
 have ex := aA.one cg
 clear cg
 obtain ⟨F,B6⟩ := gA ex F B6
 replace B9 := D; clear D
 replace B9 := B9.congr (cs' := cx 1 0 0 ⟨A1, k1, c1⟩) rfl
 refine aU ?_
 intro _ D cg
 have ex := aA.one cg
 clear cg
 replace F := F.bo ex
 replace B6 := D; clear D
 replace B6 := B6.congr (cs' := cx 1 0 0 ⟨A1, k1, c1⟩) rfl
 refine aU ?_
 refine hret rfl rfl rfl B6 rfl ?_
 exact ⟨⟨A1, k1, c1⟩, rfl, hsub, hcap, (F.drop Om).drop Om |>.aD (by simp)⟩
end
section
open Go.RowKit
attribute [local irreducible] Y Ef WL WC WK WQ WM cE WN WF dc
theorem rp {cs : Array Value} {l : bT} (w : World) (H : dO w cs l) :
  Ct 79 #[.agg cs] w fun e w' => e = .returned (.bool (decide (aG l))) ∧ Ext w w' := by
 obtain ⟨h0, h1, h2, h4, h5, rfl, hs, b0, b1, b2, b4, b5⟩ := H
 have l0 := b0.1; have l1 := b1.1; have l2 := b2.1; have l4 := b4.1; have l5 := b5.1
 have E := Ext.refl w
 refine ai 60 Tryz.func79 rfl rfl rfl rfl ?_
 intro _ hret
 refine aU ?_
 intro _ _ _ _ ex
 replace E := E.ext ex
 refine au 8 ?_
 refine aR (cL rfl rfl) rfl (fun q0 => ?_) (fun q0 => ?_)
 ·refine aU ?_
  refine dg 12 rfl rfl rfl ?_
  refine dg 12 rfl rfl rfl ?_
  refine dg 12 rfl rfl rfl ?_
  refine dg 12 rfl rfl rfl ?_
  refine au 10 ?_
  refine aR (cL rfl rfl) rfl (fun u0 => ?_) (fun u0 => ?_)
  ·refine au 4 ?_
   refine aJ 23 rfl rfl (cL rfl rfl) rfl (fun u1 => ?_) (fun u1 => ?_)
   ·refine au 5 ?_
    refine aJ 29 rfl rfl (gd rfl rfl) rfl (fun u2 => ?_) (fun u2 => ?_)
    ·refine au 5 ?_
     refine aJ 35 rfl rfl (lO rfl rfl) rfl (fun u3 => ?_) (fun u3 => ?_)
     ·refine au 4 ?_
      refine aJ 41 rfl rfl (gd rfl rfl) rfl (fun u4 => ?_) (fun u4 => ?_)
      ·refine au 4 ?_
       refine aJ 46 rfl rfl (dA rfl rfl) rfl (fun u5 => ?_) (fun u5 => ?_)
       ·refine au 8 ?_
        refine aJ 54 rfl rfl (cL rfl rfl) rfl (fun u6 => ?_) (fun u6 => ?_)
        ·refine aU ?_
         refine hret rfl ?_
         first | exact ⟨bF (by unfold aG; omega), E⟩ | exact ⟨aI fun h => by unfold aG at h; omega, E⟩
        ·refine aU ?_
         refine hret rfl ?_
         first | exact ⟨bF (by unfold aG; omega), E⟩ | exact ⟨aI fun h => by unfold aG at h; omega, E⟩
       ·refine aU ?_
        refine hret rfl ?_
        first | exact ⟨bF (by unfold aG; omega), E⟩ | exact ⟨aI fun h => by unfold aG at h; omega, E⟩
      ·refine aU ?_
       refine hret rfl ?_
       first | exact ⟨bF (by unfold aG; omega), E⟩ | exact ⟨aI fun h => by unfold aG at h; omega, E⟩
     ·refine aU ?_
      refine hret rfl ?_
      first | exact ⟨bF (by unfold aG; omega), E⟩ | exact ⟨aI fun h => by unfold aG at h; omega, E⟩
    ·refine aU ?_
     refine hret rfl ?_
     first | exact ⟨bF (by unfold aG; omega), E⟩ | exact ⟨aI fun h => by unfold aG at h; omega, E⟩
   ·refine aU ?_
    refine hret rfl ?_
    first | exact ⟨bF (by unfold aG; omega), E⟩ | exact ⟨aI fun h => by unfold aG at h; omega, E⟩
  ·refine aU ?_
   refine hret rfl ?_
   first | exact ⟨bF (by unfold aG; omega), E⟩ | exact ⟨aI fun h => by unfold aG at h; omega, E⟩
 ·refine au 3 ?_
  refine aJ 8 rfl rfl (cL rfl rfl) rfl (fun q1 => ?_) (fun q1 => ?_)
  ·refine au 4 ?_
   refine aJ 12 rfl rfl (cL rfl rfl) rfl (fun q2 => ?_) (fun q2 => ?_)
   ·refine au 10 ?_
    refine aR (cL rfl rfl) rfl (fun u0 => ?_) (fun u0 => ?_)
    ·refine au 4 ?_
     refine aJ 23 rfl rfl (cL rfl rfl) rfl (fun u1 => ?_) (fun u1 => ?_)
     ·refine au 5 ?_
      refine aJ 29 rfl rfl (gd rfl rfl) rfl (fun u2 => ?_) (fun u2 => ?_)
      ·refine au 5 ?_
       refine aJ 35 rfl rfl (lO rfl rfl) rfl (fun u3 => ?_) (fun u3 => ?_)
       ·refine au 4 ?_
        refine aJ 41 rfl rfl (gd rfl rfl) rfl (fun u4 => ?_) (fun u4 => ?_)
        ·refine au 4 ?_
         refine aJ 46 rfl rfl (dA rfl rfl) rfl (fun u5 => ?_) (fun u5 => ?_)
         ·refine au 8 ?_
          refine aJ 54 rfl rfl (cL rfl rfl) rfl (fun u6 => ?_) (fun u6 => ?_)
          ·refine aU ?_
           refine hret rfl ?_
           first | exact ⟨bF (by unfold aG; omega), E⟩ | exact ⟨aI fun h => by unfold aG at h; omega, E⟩
          ·refine aU ?_
           refine hret rfl ?_
           first | exact ⟨bF (by unfold aG; omega), E⟩ | exact ⟨aI fun h => by unfold aG at h; omega, E⟩
         ·refine aU ?_
          refine hret rfl ?_
          first | exact ⟨bF (by unfold aG; omega), E⟩ | exact ⟨aI fun h => by unfold aG at h; omega, E⟩
        ·refine aU ?_
         refine hret rfl ?_
         first | exact ⟨bF (by unfold aG; omega), E⟩ | exact ⟨aI fun h => by unfold aG at h; omega, E⟩
       ·refine aU ?_
        refine hret rfl ?_
        first | exact ⟨bF (by unfold aG; omega), E⟩ | exact ⟨aI fun h => by unfold aG at h; omega, E⟩
      ·refine aU ?_
       refine hret rfl ?_
       first | exact ⟨bF (by unfold aG; omega), E⟩ | exact ⟨aI fun h => by unfold aG at h; omega, E⟩
     ·refine aU ?_
      refine hret rfl ?_
      first | exact ⟨bF (by unfold aG; omega), E⟩ | exact ⟨aI fun h => by unfold aG at h; omega, E⟩
    ·refine aU ?_
     refine hret rfl ?_
     first | exact ⟨bF (by unfold aG; omega), E⟩ | exact ⟨aI fun h => by unfold aG at h; omega, E⟩
   ·refine au 10 ?_
    refine aR (cL rfl rfl) rfl (fun u0 => ?_) (fun u0 => ?_)
    ·refine au 4 ?_
     refine aJ 23 rfl rfl (cL rfl rfl) rfl (fun u1 => ?_) (fun u1 => ?_)
     ·refine au 5 ?_
      refine aJ 29 rfl rfl (gd rfl rfl) rfl (fun u2 => ?_) (fun u2 => ?_)
      ·refine au 5 ?_
       refine aJ 35 rfl rfl (lO rfl rfl) rfl (fun u3 => ?_) (fun u3 => ?_)
       ·refine au 4 ?_
        refine aJ 41 rfl rfl (gd rfl rfl) rfl (fun u4 => ?_) (fun u4 => ?_)
        ·refine au 4 ?_
         refine aJ 46 rfl rfl (dA rfl rfl) rfl (fun u5 => ?_) (fun u5 => ?_)
         ·refine aU ?_
          refine hret rfl ?_
          first | exact ⟨bF (by unfold aG; omega), E⟩ | exact ⟨aI fun h => by unfold aG at h; omega, E⟩
         ·refine aU ?_
          refine hret rfl ?_
          first | exact ⟨bF (by unfold aG; omega), E⟩ | exact ⟨aI fun h => by unfold aG at h; omega, E⟩
        ·refine aU ?_
         refine hret rfl ?_
         first | exact ⟨bF (by unfold aG; omega), E⟩ | exact ⟨aI fun h => by unfold aG at h; omega, E⟩
       ·refine aU ?_
        refine hret rfl ?_
        first | exact ⟨bF (by unfold aG; omega), E⟩ | exact ⟨aI fun h => by unfold aG at h; omega, E⟩
      ·refine aU ?_
       refine hret rfl ?_
       first | exact ⟨bF (by unfold aG; omega), E⟩ | exact ⟨aI fun h => by unfold aG at h; omega, E⟩
     ·refine aU ?_
      refine hret rfl ?_
      first | exact ⟨bF (by unfold aG; omega), E⟩ | exact ⟨aI fun h => by unfold aG at h; omega, E⟩
    ·refine aU ?_
     refine hret rfl ?_
     first | exact ⟨bF (by unfold aG; omega), E⟩ | exact ⟨aI fun h => by unfold aG at h; omega, E⟩
  ·refine au 15 ?_
   refine aR (cL rfl rfl) rfl (fun u0 => ?_) (fun u0 => ?_)
   ·refine au 4 ?_
    refine aJ 23 rfl rfl (cL rfl rfl) rfl (fun u1 => ?_) (fun u1 => ?_)
    ·refine au 5 ?_
     refine aJ 29 rfl rfl (gd rfl rfl) rfl (fun u2 => ?_) (fun u2 => ?_)
     ·refine au 5 ?_
      refine aJ 35 rfl rfl (lO rfl rfl) rfl (fun u3 => ?_) (fun u3 => ?_)
      ·refine au 4 ?_
       refine aJ 41 rfl rfl (gd rfl rfl) rfl (fun u4 => ?_) (fun u4 => ?_)
       ·refine au 4 ?_
        refine aJ 46 rfl rfl (dA rfl rfl) rfl (fun u5 => ?_) (fun u5 => ?_)
        ·refine aU ?_
         refine hret rfl ?_
         first | exact ⟨bF (by unfold aG; omega), E⟩ | exact ⟨aI fun h => by unfold aG at h; omega, E⟩
        ·refine aU ?_
         refine hret rfl ?_
         first | exact ⟨bF (by unfold aG; omega), E⟩ | exact ⟨aI fun h => by unfold aG at h; omega, E⟩
       ·refine aU ?_
        refine hret rfl ?_
        first | exact ⟨bF (by unfold aG; omega), E⟩ | exact ⟨aI fun h => by unfold aG at h; omega, E⟩
      ·refine aU ?_
       refine hret rfl ?_
       first | exact ⟨bF (by unfold aG; omega), E⟩ | exact ⟨aI fun h => by unfold aG at h; omega, E⟩
     ·refine aU ?_
      refine hret rfl ?_
      first | exact ⟨bF (by unfold aG; omega), E⟩ | exact ⟨aI fun h => by unfold aG at h; omega, E⟩
    ·refine aU ?_
     refine hret rfl ?_
     first | exact ⟨bF (by unfold aG; omega), E⟩ | exact ⟨aI fun h => by unfold aG at h; omega, E⟩
   ·refine aU ?_
    refine hret rfl ?_
    first | exact ⟨bF (by unfold aG; omega), E⟩ | exact ⟨aI fun h => by unfold aG at h; omega, E⟩
end
section
open Go.RowKit
attribute [local irreducible] Y Ef WL WC WK WQ WM cE WN WF dc WJ gJ
open Wire Nd
namespace Nd
theorem xo {xs : Lb} {c : Nat} (h : iF xs = .error c) : c ≠ 0 ∧ c < 256 := by
  unfold iF at h
  cases hp : iO xs with
  | error z => rw [hp] at h; injection h with h; subst h; exact uY hp
  | ok p =>
    rw [hp] at h
    have h' : (if p.2.length < p.1 then (.error 4 : Except Nat (List UInt8 × List UInt8)) else .ok (p.2.take p.1, p.2.drop p.1)) = .error c := h
    split at h'
    · injection h' with h'; omega
    · cases h'
theorem uk (xs : Lb) : cU (.ok xs) = match iF xs with
  | .error c => ([], .error c)
  | .ok (v, r) => (v, .ok r) := rfl
theorem Ia {b : Lb} {at_ : Nat} (hat : at_ ≤ b.length) : (cU (.ok (b.drop at_))).1 = (dU b at_).1 ∧ ((dU b at_).2.2 = 0 → (cU (.ok (b.drop at_))).2 = .ok (b.drop (dU b at_).2.1) ∧ (dU b at_).2.1 ≤ b.length) ∧ ((dU b at_).2.2 ≠ 0 → (cU (.ok (b.drop at_))).2 = .error (dU b at_).2.2) := by
  rw [uk]
  cases hp : iF (b.drop at_) with
  | error z =>
    have hz := xo hp
    rw [lG hp]
    exact ⟨rfl, fun h => absurd h hz.1, fun _ => rfl⟩
  | ok p =>
    obtain ⟨v, r⟩ := p
    rw [qd hp]
    obtain ⟨k, h1, h2, h3, h4⟩ := sn hp
    rw [List.length_drop] at h2
    refine ⟨rfl, fun _ => ⟨?_, Nat.sub_le _ _⟩, fun h => absurd rfl h⟩
    have hr : r.length = b.length - at_ - (k + v.length) := by rw [h3, List.length_drop, List.length_drop]
    show (.ok r : St) = .ok (b.drop (b.length - r.length))
    rw [show b.length - r.length = at_ + (k + v.length) by omega, h3, List.drop_drop]
def pj : St → Nat
 | .ok xs => xs.length
 | .error _ => 0
theorem AL (s : St) : (cU s).1.length ≤ pj s ∧ pj (cU s).2 ≤ pj s := by
  cases s with
  | error c => exact ⟨Nat.le_refl _, Nat.le_refl _⟩
  | ok xs =>
    rw [uk]
    cases hp : iF xs with
    | error c => exact ⟨Nat.zero_le _, Nat.zero_le _⟩
    | ok p =>
      obtain ⟨v, r⟩ := p
      obtain ⟨k, h1, h2, h3, h4⟩ := sn hp
      have hr : r.length = xs.length - (k + v.length) := by rw [h3, List.length_drop]
      exact ⟨show v.length ≤ xs.length by omega, show r.length ≤ xs.length by omega⟩
end Nd
theorem Sub.nil (A : Oa) (n : Nat) (b : Lb) : Sub A n b none 0 [] := fun w _ => Bs.nil w _
theorem DD {b : Lb} {p : Nat} (h : p < b.length) : dK 1 (.ok (b.drop p)) = ((b.getD p 0).toNat, .ok (b.drop (p + 1))) := by
 rw [jQ, if_neg (by rw [List.length_drop]; omega), drop_cons h]
 simp [nb]
theorem CH {b : Lb} {p : Nat} (h : b.length ≤ p) : dK 1 (.ok (b.drop p)) = (0, .error 4) := by
 rw [jQ, if_pos (by rw [List.length_drop]; omega)]
end
section
open Go.RowKit
attribute [local irreducible] Y Ef WL WC WK WQ WM cE WN WF dc WJ gJ
open Wire Nd
theorem Qp (a b c d : UInt8) : nb [a, b, c, d] = ((a.toNat * 256 + b.toNat) * 256 + c.toNat) * 256 + d.toNat := by simp [nb]
theorem Bs.td {w : World} {b off n : Nat} {xs : Lb} (h : Bs w (some ⟨b, off, none⟩) n xs) {k : Nat} (hk : k < n) : w.cell? ⟨b, off + k, none⟩ = some (.int .u8 ((xs.getD k 0).toNat : Int)) := by
 obtain ⟨b', o', e, _, hc⟩ := h.get hk
 injection e with e
 injection e with e1 e2 _
 subst e1; subst e2
 exact hc
end
end Go.Proofs.YtgfafidlkldeaaaGreat
