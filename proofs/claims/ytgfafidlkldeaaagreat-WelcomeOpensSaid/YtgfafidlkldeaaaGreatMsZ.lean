/- What the message layer's reader takes: contexts and messages; bytes as a whole. No conditions: contracts of the program's functions. -/
import Derived.Test.YtgfafidlkldeaaaGreatWireR
import Derived.Test.YtgfafidlkldeaaaGreatBigC
import Derived.Test.YtgfafidlkldeaaaGreatVc
set_option linter.unusedVariables false
set_option linter.unusedSimpArgs false
set_option maxHeartbeats 4000000
set_option maxRecDepth 4000
namespace Go.Proofs.YtgfafidlkldeaaaGreat
variable {cs ds : Array Value} {Vq Vr fn : Func} {f fo ft : FuncId} {b xs ys : Lb} {L : List (Nat × Value)} {S S' V : List Nat} {us vs : List Value} {M N at_ base c d fuel g gi gr i k m n off s sz : Nat} {spare : Nat → Bool} {A B : Oa} {x y : Operand} {o o' : Option Nat} {P : Program} {e t t2 ty : TypeId} {v z : Value} {W w w' w'' : World}
section
open Go.RowKit
attribute [local irreducible] Y Ef WL WC WK WQ WM cv WN WF cZ
theorem lM (ha : Bs w A n xs) (hb : Bs w B m ys) (hn : n ≤ 140737488355328) (hm : m ≤ 140737488355328) :
  Ct 26 #[.slice A n c, .slice B m d] w fun e w' => e = .returned (.bool (decide (xs = ys))) ∧ Ext w w' :=
 (zM A B n m c d xs ys w ha hb hn hm).mono fun _ _ ⟨h1, k, h2⟩ => ⟨h1, by rw [h2]; exact Ext.drewN _ _⟩
structure cw where
 box : List UInt8
 sign : List UInt8
 ident : List UInt8
 src : Nat
 parent : List UInt8
 sig : List UInt8
structure EO where
 box : List UInt8
 hash : List UInt8
 late : List Int
structure Node where
 kind : Nat
 leaf : cw
 par : EO
def cw.zero : cw := ⟨[], [], [], 0, [], []⟩
def EO.zero : EO := ⟨[], [], []⟩
structure Hd where
 A : Option Addr
 n : Nat
 c : Nat
def an : Hd := ⟨none, 0, 0⟩
def ie (h0 h1 h2 : Hd) (s : Nat) (h4 h5 : Hd) : Array Value := #[.slice h0.A h0.n h0.c, .slice h1.A h1.n h1.c, .slice h2.A h2.n h2.c, .int .u8 (s : Int), .slice h4.A h4.n h4.c, .slice h5.A h5.n h5.c]
def jT (B : Hd → List UInt8 → Prop) (cs : Array Value) (l : cw) : Prop := ∃ h0 h1 h2 h4 h5, cs = ie h0 h1 h2 l.src h4 h5 ∧ l.src < 256 ∧ B h0 l.box ∧ B h1 l.sign ∧ B h2 l.ident ∧ B h4 l.parent ∧ B h5 l.sig
section
variable {B B' : Hd → List UInt8 → Prop} {Z Z' : Hd → List Int → Prop} {l : cw} {p : EO} {n : Node}
theorem jT.imp (h : jT B cs l) (f : ∀ h xs, B h xs → B' h xs) : jT B' cs l := by obtain ⟨h0, h1, h2, h4, h5, e, hs, b0, b1, b2, b4, b5⟩ := h;exact ⟨h0, h1, h2, h4, h5, e, hs, f _ _ b0, f _ _ b1, f _ _ b2, f _ _ b4, f _ _ b5⟩
end
abbrev py (w : World) (h : Hd) (xs : Lb) : Prop := Bs w h.A h.n xs
def eE (w : World) (cs : Array Value) (l : cw) : Prop := jT (py w) cs l
section
variable {l : cw} {p : EO} {n : Node} {base' : Nat}
theorem eE.ext (h : eE w cs l) (e : Ext w w') : eE w' cs l := jT.imp h fun _ _ b => Bs.ext b e
def jd : Array Value := ie an an an 0 an an
end
/-! Which may be. -/
def aI (l : cw) : Prop := l.box.length = 32 ∧ l.sign.length = 32 ∧ l.sig.length = 64 ∧ 1 ≤ l.ident.length ∧ l.ident.length ≤ 64 ∧ 1 ≤ l.src ∧ l.src ≤ 3 ∧ (l.parent.length = 0 ∨ l.src = 3 ∧ l.parent.length = 32)
instance (l : cw) : Decidable (aI l) := by unfold aI; infer_instance
def rising : Int → List Int → Prop
 | _, [] => True
 | last, x :: xs => last < x ∧ x < 65536 ∧ rising x xs
def rising.dec : (last : Int) → (xs : List Int) → Decidable (rising last xs)
 | _, [] => .isTrue trivial
 | last, x :: xs => @instDecidableAnd _ _ _ (@instDecidableAnd _ _ _ (rising.dec x xs))
instance (last : Int) (xs : List Int) : Decidable (rising last xs) := rising.dec last xs
instance (a b : cw) : Decidable (a = b) := by refine decidable_of_iff (a.box = b.box ∧ a.sign = b.sign ∧ a.ident = b.ident ∧ a.src = b.src ∧ a.parent = b.parent ∧ a.sig = b.sig) ⟨fun ⟨h1, h2, h3, h4, h5, h6⟩ => ?_, fun h => by subst h; exact ⟨rfl, rfl, rfl, rfl, rfl, rfl⟩⟩;cases a; cases b; simp_all
instance (a b : EO) : Decidable (a = b) := by refine decidable_of_iff (a.box = b.box ∧ a.hash = b.hash ∧ a.late = b.late) ⟨fun ⟨h1, h2, h3⟩ => ?_, fun h => by subst h; exact ⟨rfl, rfl, rfl⟩⟩;cases a; cases b; simp_all
instance (a b : Node) : Decidable (a = b) := by refine decidable_of_iff (a.kind = b.kind ∧ a.leaf = b.leaf ∧ a.par = b.par) ⟨fun ⟨h1, h2, h3⟩ => ?_, fun h => by subst h; exact ⟨rfl, rfl, rfl⟩⟩;cases a; cases b; simp_all
theorem aR {p : Prop} [Decidable p] (h : ¬ p) : Ending.returned (.bool false) = .returned (.bool (decide p)) := by rw [decide_eq_false h]
theorem bR {p : Prop} [Decidable p] (h : p) : Ending.returned (.bool true) = .returned (.bool (decide p)) := by rw [decide_eq_true h]
theorem mX {l : cw} (w : World) (H : eE w cs l) :
  Ct 140 #[.agg cs] w fun e w' => e = .returned (.bool (decide (aI l))) ∧ Ext w w' := by
 obtain ⟨h0, h1, h2, h4, h5, rfl, hs, b0, b1, b2, b4, b5⟩ := H;have l0 := b0.1; have l1 := b1.1; have l2 := b2.1; have l4 := b4.1; have l5 := b5.1;have E := Ext.refl w;refine ai 55 Tryz.func140 rfl rfl rfl rfl ?_;intro _ hret;refine aU ?_;intro _ _ _ _ ex;replace E := E.ext ex;refine au 10 ?_;refine bf (gO rfl rfl) rfl (fun q0 => ?_) (fun q0 => ?_)
 ·refine au 15 ?_;refine bX rfl rfl ?_;refine aU ?_;refine hret rfl ?_;exact ⟨aR fun h => by unfold aI at h; omega, E⟩
 refine au 4 ?_;refine aG 8 rfl rfl (gO rfl rfl) rfl (fun q1 => ?_) (fun q1 => ?_)
 ·refine au 10 ?_;refine bX rfl rfl ?_;refine aU ?_;refine hret rfl ?_;exact ⟨aR fun h => by unfold aI at h; omega, E⟩
 refine au 5 ?_;refine aG 14 rfl rfl (gO rfl rfl) rfl (fun q2 => ?_) (fun q2 => ?_)
 ·refine au 4 ?_;refine bX rfl rfl ?_;refine aU ?_;refine hret rfl ?_;exact ⟨aR fun h => by unfold aI at h; omega, E⟩
 refine au 4 ?_;refine bg rfl rfl ?_;refine au 5 ?_;refine bf (eX rfl rfl) rfl (fun q3 => ?_) (fun q3 => ?_)
 ·refine au 9 ?_;refine bX rfl rfl ?_;refine aU ?_;refine hret rfl ?_;exact ⟨aR fun h => by unfold aI at h; omega, E⟩
 refine au 4 ?_;refine aG 25 rfl rfl (iY rfl rfl) rfl (fun q4 => ?_) (fun q4 => ?_)
 ·refine au 4 ?_;refine bX rfl rfl ?_;refine aU ?_;refine hret rfl ?_;exact ⟨aR fun h => by unfold aI at h; omega, E⟩
 refine au 4 ?_;refine bg rfl rfl ?_;refine au 4 ?_;refine bf (eX rfl rfl) rfl (fun q5 => ?_) (fun q5 => ?_)
 ·refine au 8 ?_;refine bX rfl rfl ?_;refine aU ?_;refine hret rfl ?_;exact ⟨aR fun h => by unfold aI at h; omega, E⟩
 refine au 3 ?_;refine aG 35 rfl rfl (iY rfl rfl) rfl (fun q6 => ?_) (fun q6 => ?_)
 ·refine au 4 ?_;refine bX rfl rfl ?_;refine aU ?_;refine hret rfl ?_;exact ⟨aR fun h => by unfold aI at h; omega, E⟩
 refine au 4 ?_;refine bg rfl rfl ?_;refine au 8 ?_;refine bf (cO rfl rfl) rfl (fun q7 => ?_) (fun q7 => ?_)
 ·refine aU ?_;refine bZ 48 rfl rfl rfl ?_;refine bZ 48 rfl rfl rfl ?_;refine bZ 48 rfl rfl rfl ?_;refine bZ 48 rfl rfl rfl ?_;refine aU ?_;refine hret rfl ?_;exact ⟨bR (by unfold aI; omega), E⟩
 refine au 3 ?_;refine aG 44 rfl rfl (cO rfl rfl) rfl (fun q8 => ?_) (fun q8 => ?_)
 ·refine au 4 ?_;refine aG 48 rfl rfl (cO rfl rfl) rfl (fun q9 => ?_) (fun q9 => ?_)
  ·refine aU ?_;refine hret rfl ?_;exact ⟨bR (by unfold aI; omega), E⟩
  refine aU ?_;refine hret rfl ?_;exact ⟨aR fun h => by unfold aI at h; omega, E⟩
 refine aU ?_;refine hret rfl ?_;exact ⟨aR fun h => by unfold aI at h; omega, E⟩
end
section
open Go.ChangeShapes Go.WideShapes Go.ChangeAt Go.RowKit
variable {H : Type} {enc : TypeId × Value → H} {held : Bool}
theorem ye {cs : List Value} {x : DataW H × List MemPlace} (h : DataW.trod enc Tryz.prog W base spare held fuel 23 cs = some x) : ∃ a n c xs, cs = [.slice a n c] ∧ Bs W a n xs ∧ n ≤ c := by
 have h' := h
 rcases open_ints Tryz.underlying23 Tryz.underlying5 Kr h with ⟨hcs, _⟩ | ⟨x, l, c, zs, hcs, _⟩
 ·obtain ⟨⟨xs, hb⟩, _, hm⟩ := qA (a := none) (len := 0) (cap := 0) ⟨fuel, by simpa [Value.cells, hcs] using h'⟩;exact ⟨none, 0, 0, xs, hcs, hb, hm⟩
 obtain ⟨⟨xs, hb⟩, _, hm⟩ := qA (a := some x) (len := l) (cap := c) ⟨fuel, by simpa [Value.cells, hcs] using h'⟩;exact ⟨some x, l, c, xs, hcs, hb, hm⟩
end
section
open Go.RowKit
attribute [local irreducible] Y Ef WL WC WK WQ WM cv WN WF cZ
def cw.Fit (l : cw) : Prop := l.box.length ≤ 1000000 ∧ l.sign.length ≤ 1000000 ∧ l.ident.length ≤ 1000000 ∧ l.parent.length ≤ 1000000 ∧ l.sig.length ≤ 1000000
def EO.Fit (p : EO) : Prop := p.box.length ≤ 1000000 ∧ p.hash.length ≤ 1000000 ∧ p.late.length ≤ 1000000
def Node.Fit (n : Node) : Prop := n.leaf.Fit ∧ n.par.Fit
end
section
open Go.RowKit Tryz
attribute [local irreducible] Y Ef WL WC WK WQ WM cv WN WF cZ WJ gI
open Wire Nd
def cF (kd sz : Int) (n : Nat) (h : Hd) : Array Value := #[.int .i64 kd, .int .i64 sz, .int .u64 (n : Int), .slice h.A h.n h.c, .slice none 0 0]
theorem CD (w : World) (HA : Bs w A n b) (hc : n ≤ c) (hn : n ≤ 1000000) (hat : at_ ≤ n) :
  Ct 186 #[.slice A n c, .int .i64 (at_ : Int), .agg (cF 1 0 0 an)] w fun e w' => ∃ h, e = .returned (.tuple #[.agg (cF 1 0 0 h), .int .i64 (((eR b at_).2.1 : Nat) : Int), .int .i64 (((eR b at_).2.2 : Nat) : Int)]) ∧ Sub A n b h.A h.n (eR b at_).1 ∧ h.n ≤ h.c ∧ Ext w w' := by
 have F := aE.refl [] w;have J0 : Kp w.heap.size [] (fun w => Bs w A n b) w := Kp.bs HA (by simp);refine lZ (s := 5) 186 func186 rfl rfl rfl underlying231 rfl Kr rfl ?_;intro _ hret;refine aU ?_;intro _ _ B5 _ ex;have Vv := B5.lt;obtain ⟨F,J0⟩ := aZ ex F J0;refine aU ?_;intro _ Vt B6 Vr ex;have Vw := ex.size;replace F := F.grow ex Vr;replace J0 := J0.grow ex Vr;replace B5 := B5.grow ex Vr;refine au 10 ?_;refine al (ar rfl (cells := cF 1 0 0 an) Kr) ?_;refine aU ?_;intro _ Vu B9 Vq ex;have Vs : Vt < Vu := Nat.lt_of_lt_of_le B6.lt Vq;replace F := F.grow ex Vq;replace J0 := J0.grow ex Vq;replace B5 := B5.grow ex Vq;replace B6 := B6.grow ex Vq;refine aU ?_;intro _ D cg;have ex := aE.one cg;clear cg;obtain ⟨F,J0,B5,B6⟩ := dF ex F J0 B5 B6;replace B9 := D; clear D;replace B9 := B9.congr (cs' := cF 1 0 0 an) rfl;refine aU ?_;refine aC func231 rfl (yo J0.out hc hn hat) ?_;rintro e _ ⟨A1, k1, c1, rfl, hsub, hcap, ex⟩;obtain ⟨F,B6,B9⟩ := bF ex F B6 B9;refine aU ?_;intro _ D cg;have ex := aE.one cg;clear cg;obtain ⟨F,B6⟩ := iz ex F B6;replace B9 := D; clear D;replace B9 := B9.congr (cs' := cF 1 0 0 ⟨A1, k1, c1⟩) rfl;refine aU ?_;intro _ D cg;have ex := aE.one cg;clear cg;replace F := F.bk ex;replace B6 := D; clear D;replace B6 := B6.congr (cs' := cF 1 0 0 ⟨A1, k1, c1⟩) rfl;refine aU ?_;refine hret rfl rfl rfl B6 rfl ?_;exact ⟨⟨A1, k1, c1⟩, rfl, hsub, hcap, (F.drop Om).drop Om |>.aS (by simp)⟩
end
section
open Go.RowKit
attribute [local irreducible] Y Ef WL WC WK WQ WM cv WN WF cZ
theorem tF {l : cw} (w : World) (H : eE w cs l) :
  Ct 79 #[.agg cs] w fun e w' => e = .returned (.bool (decide (aI l))) ∧ Ext w w' := by
 obtain ⟨h0, h1, h2, h4, h5, rfl, hs, b0, b1, b2, b4, b5⟩ := H;have l0 := b0.1; have l1 := b1.1; have l2 := b2.1; have l4 := b4.1; have l5 := b5.1;have E := Ext.refl w;refine ai 60 Tryz.func79 rfl rfl rfl rfl ?_;intro _ hret;refine aU ?_;intro _ _ _ _ ex;replace E := E.ext ex;refine au 8 ?_;refine bf (cO rfl rfl) rfl (fun q0 => ?_) (fun q0 => ?_)
 ·refine aU ?_;refine bZ 12 rfl rfl rfl ?_;refine bZ 12 rfl rfl rfl ?_;refine bZ 12 rfl rfl rfl ?_;refine bZ 12 rfl rfl rfl ?_;refine au 10 ?_;refine bf (cO rfl rfl) rfl (fun u0 => ?_) (fun u0 => ?_)
  ·refine au 4 ?_;refine aG 23 rfl rfl (cO rfl rfl) rfl (fun u1 => ?_) (fun u1 => ?_)
   ·refine au 5 ?_;refine aG 29 rfl rfl (iY rfl rfl) rfl (fun u2 => ?_) (fun u2 => ?_)
    ·refine au 5 ?_;refine aG 35 rfl rfl (qC rfl rfl) rfl (fun u3 => ?_) (fun u3 => ?_)
     ·refine au 4 ?_;refine aG 41 rfl rfl (iY rfl rfl) rfl (fun u4 => ?_) (fun u4 => ?_)
      ·refine au 4 ?_;refine aG 46 rfl rfl (eX rfl rfl) rfl (fun u5 => ?_) (fun u5 => ?_)
       ·refine au 8 ?_;refine aG 54 rfl rfl (cO rfl rfl) rfl (fun u6 => ?_) (fun u6 => ?_)
        ·refine aU ?_;refine hret rfl ?_;first | exact ⟨bR (by unfold aI; omega), E⟩ | exact ⟨aR fun h => by unfold aI at h; omega, E⟩
        refine aU ?_;refine hret rfl ?_;first | exact ⟨bR (by unfold aI; omega), E⟩ | exact ⟨aR fun h => by unfold aI at h; omega, E⟩
       refine aU ?_;refine hret rfl ?_;first | exact ⟨bR (by unfold aI; omega), E⟩ | exact ⟨aR fun h => by unfold aI at h; omega, E⟩
      refine aU ?_;refine hret rfl ?_;first | exact ⟨bR (by unfold aI; omega), E⟩ | exact ⟨aR fun h => by unfold aI at h; omega, E⟩
     refine aU ?_;refine hret rfl ?_;first | exact ⟨bR (by unfold aI; omega), E⟩ | exact ⟨aR fun h => by unfold aI at h; omega, E⟩
    refine aU ?_;refine hret rfl ?_;first | exact ⟨bR (by unfold aI; omega), E⟩ | exact ⟨aR fun h => by unfold aI at h; omega, E⟩
   refine aU ?_;refine hret rfl ?_;first | exact ⟨bR (by unfold aI; omega), E⟩ | exact ⟨aR fun h => by unfold aI at h; omega, E⟩
  refine aU ?_;refine hret rfl ?_;first | exact ⟨bR (by unfold aI; omega), E⟩ | exact ⟨aR fun h => by unfold aI at h; omega, E⟩
 refine au 3 ?_;refine aG 8 rfl rfl (cO rfl rfl) rfl (fun q1 => ?_) (fun q1 => ?_)
 ·refine au 4 ?_;refine aG 12 rfl rfl (cO rfl rfl) rfl (fun q2 => ?_) (fun q2 => ?_)
  ·refine au 10 ?_;refine bf (cO rfl rfl) rfl (fun u0 => ?_) (fun u0 => ?_)
   ·refine au 4 ?_;refine aG 23 rfl rfl (cO rfl rfl) rfl (fun u1 => ?_) (fun u1 => ?_)
    ·refine au 5 ?_;refine aG 29 rfl rfl (iY rfl rfl) rfl (fun u2 => ?_) (fun u2 => ?_)
     ·refine au 5 ?_;refine aG 35 rfl rfl (qC rfl rfl) rfl (fun u3 => ?_) (fun u3 => ?_)
      ·refine au 4 ?_;refine aG 41 rfl rfl (iY rfl rfl) rfl (fun u4 => ?_) (fun u4 => ?_)
       ·refine au 4 ?_;refine aG 46 rfl rfl (eX rfl rfl) rfl (fun u5 => ?_) (fun u5 => ?_)
        ·refine au 8 ?_;refine aG 54 rfl rfl (cO rfl rfl) rfl (fun u6 => ?_) (fun u6 => ?_)
         ·refine aU ?_;refine hret rfl ?_;first | exact ⟨bR (by unfold aI; omega), E⟩ | exact ⟨aR fun h => by unfold aI at h; omega, E⟩
         refine aU ?_;refine hret rfl ?_;first | exact ⟨bR (by unfold aI; omega), E⟩ | exact ⟨aR fun h => by unfold aI at h; omega, E⟩
        refine aU ?_;refine hret rfl ?_;first | exact ⟨bR (by unfold aI; omega), E⟩ | exact ⟨aR fun h => by unfold aI at h; omega, E⟩
       refine aU ?_;refine hret rfl ?_;first | exact ⟨bR (by unfold aI; omega), E⟩ | exact ⟨aR fun h => by unfold aI at h; omega, E⟩
      refine aU ?_;refine hret rfl ?_;first | exact ⟨bR (by unfold aI; omega), E⟩ | exact ⟨aR fun h => by unfold aI at h; omega, E⟩
     refine aU ?_;refine hret rfl ?_;first | exact ⟨bR (by unfold aI; omega), E⟩ | exact ⟨aR fun h => by unfold aI at h; omega, E⟩
    refine aU ?_;refine hret rfl ?_;first | exact ⟨bR (by unfold aI; omega), E⟩ | exact ⟨aR fun h => by unfold aI at h; omega, E⟩
   refine aU ?_;refine hret rfl ?_;first | exact ⟨bR (by unfold aI; omega), E⟩ | exact ⟨aR fun h => by unfold aI at h; omega, E⟩
  refine au 10 ?_;refine bf (cO rfl rfl) rfl (fun u0 => ?_) (fun u0 => ?_)
  ·refine au 4 ?_;refine aG 23 rfl rfl (cO rfl rfl) rfl (fun u1 => ?_) (fun u1 => ?_)
   ·refine au 5 ?_;refine aG 29 rfl rfl (iY rfl rfl) rfl (fun u2 => ?_) (fun u2 => ?_)
    ·refine au 5 ?_;refine aG 35 rfl rfl (qC rfl rfl) rfl (fun u3 => ?_) (fun u3 => ?_)
     ·refine au 4 ?_;refine aG 41 rfl rfl (iY rfl rfl) rfl (fun u4 => ?_) (fun u4 => ?_)
      ·refine au 4 ?_;refine aG 46 rfl rfl (eX rfl rfl) rfl (fun u5 => ?_) (fun u5 => ?_)
       ·refine aU ?_;refine hret rfl ?_;first | exact ⟨bR (by unfold aI; omega), E⟩ | exact ⟨aR fun h => by unfold aI at h; omega, E⟩
       refine aU ?_;refine hret rfl ?_;first | exact ⟨bR (by unfold aI; omega), E⟩ | exact ⟨aR fun h => by unfold aI at h; omega, E⟩
      refine aU ?_;refine hret rfl ?_;first | exact ⟨bR (by unfold aI; omega), E⟩ | exact ⟨aR fun h => by unfold aI at h; omega, E⟩
     refine aU ?_;refine hret rfl ?_;first | exact ⟨bR (by unfold aI; omega), E⟩ | exact ⟨aR fun h => by unfold aI at h; omega, E⟩
    refine aU ?_;refine hret rfl ?_;first | exact ⟨bR (by unfold aI; omega), E⟩ | exact ⟨aR fun h => by unfold aI at h; omega, E⟩
   refine aU ?_;refine hret rfl ?_;first | exact ⟨bR (by unfold aI; omega), E⟩ | exact ⟨aR fun h => by unfold aI at h; omega, E⟩
  refine aU ?_;refine hret rfl ?_;first | exact ⟨bR (by unfold aI; omega), E⟩ | exact ⟨aR fun h => by unfold aI at h; omega, E⟩
 refine au 15 ?_;refine bf (cO rfl rfl) rfl (fun u0 => ?_) (fun u0 => ?_)
 ·refine au 4 ?_;refine aG 23 rfl rfl (cO rfl rfl) rfl (fun u1 => ?_) (fun u1 => ?_)
  ·refine au 5 ?_;refine aG 29 rfl rfl (iY rfl rfl) rfl (fun u2 => ?_) (fun u2 => ?_)
   ·refine au 5 ?_;refine aG 35 rfl rfl (qC rfl rfl) rfl (fun u3 => ?_) (fun u3 => ?_)
    ·refine au 4 ?_;refine aG 41 rfl rfl (iY rfl rfl) rfl (fun u4 => ?_) (fun u4 => ?_)
     ·refine au 4 ?_;refine aG 46 rfl rfl (eX rfl rfl) rfl (fun u5 => ?_) (fun u5 => ?_)
      ·refine aU ?_;refine hret rfl ?_;first | exact ⟨bR (by unfold aI; omega), E⟩ | exact ⟨aR fun h => by unfold aI at h; omega, E⟩
      refine aU ?_;refine hret rfl ?_;first | exact ⟨bR (by unfold aI; omega), E⟩ | exact ⟨aR fun h => by unfold aI at h; omega, E⟩
     refine aU ?_;refine hret rfl ?_;first | exact ⟨bR (by unfold aI; omega), E⟩ | exact ⟨aR fun h => by unfold aI at h; omega, E⟩
    refine aU ?_;refine hret rfl ?_;first | exact ⟨bR (by unfold aI; omega), E⟩ | exact ⟨aR fun h => by unfold aI at h; omega, E⟩
   refine aU ?_;refine hret rfl ?_;first | exact ⟨bR (by unfold aI; omega), E⟩ | exact ⟨aR fun h => by unfold aI at h; omega, E⟩
  refine aU ?_;refine hret rfl ?_;first | exact ⟨bR (by unfold aI; omega), E⟩ | exact ⟨aR fun h => by unfold aI at h; omega, E⟩
 refine aU ?_;refine hret rfl ?_;first | exact ⟨bR (by unfold aI; omega), E⟩ | exact ⟨aR fun h => by unfold aI at h; omega, E⟩
end
section
open Go.RowKit
attribute [local irreducible] Y Ef WL WC WK WQ WM cv WN WF cZ WJ gI
open Wire Nd
namespace Nd
theorem zw (h : jF xs = .error c) : c ≠ 0 ∧ c < 256 := by
  unfold jF at h
  cases hp : jC xs with
  | error z => rw [hp] at h; injection h with h; subst h; exact zU hp
  | ok p =>
    rw [hp] at h
    have h' : (if p.2.length < p.1 then (.error 4 : Except Nat (List UInt8 × List UInt8)) else .ok (p.2.take p.1, p.2.drop p.1)) = .error c := h
    split at h'
    · injection h' with h'; omega
    cases h'
theorem wU (xs : Lb) : dh (.ok xs) = match jF xs with
  | .error c => ([], .error c)
  | .ok (v, r) => (v, .ok r) := rfl
theorem IM (hat : at_ ≤ b.length) : (dh (.ok (b.drop at_))).1 = (eR b at_).1 ∧ ((eR b at_).2.2 = 0 → (dh (.ok (b.drop at_))).2 = .ok (b.drop (eR b at_).2.1) ∧ (eR b at_).2.1 ≤ b.length) ∧ ((eR b at_).2.2 ≠ 0 → (dh (.ok (b.drop at_))).2 = .error (eR b at_).2.2) := by
  rw [wU]
  cases hp : jF (b.drop at_) with
  | error z =>
    have hz := zw hp
    rw [mQ hp]
    exact ⟨rfl, fun h => absurd h hz.1, fun _ => rfl⟩
  | ok p =>
    obtain ⟨v, r⟩ := p
    rw [tu hp]
    obtain ⟨k, h1, h2, h3, h4⟩ := vm hp
    rw [List.length_drop] at h2
    refine ⟨rfl, fun _ => ⟨?_, Nat.sub_le _ _⟩, fun h => absurd rfl h⟩
    have hr : r.length = b.length - at_ - (k + v.length) := by rw [h3, List.length_drop, List.length_drop]
    show (.ok r : St) = .ok (b.drop (b.length - r.length))
    rw [show b.length - r.length = at_ + (k + v.length) by omega, h3, List.drop_drop]
def ru : St → Nat
 | .ok xs => xs.length
 | .error _ => 0
theorem Dh (s : St) : (dh s).1.length ≤ ru s ∧ ru (dh s).2 ≤ ru s := by
  cases s with
  | error c => exact ⟨Nat.le_refl _, Nat.le_refl _⟩
  | ok xs =>
    rw [wU]
    cases hp : jF xs with
    | error c => exact ⟨Nat.zero_le _, Nat.zero_le _⟩
    | ok p =>
      obtain ⟨v, r⟩ := p
      obtain ⟨k, h1, h2, h3, h4⟩ := vm hp
      have hr : r.length = xs.length - (k + v.length) := by rw [h3, List.length_drop]
      exact ⟨show v.length ≤ xs.length by omega, show r.length ≤ xs.length by omega⟩
end Nd
theorem Sub.nil (A : Oa) (n : Nat) (b : Lb) : Sub A n b none 0 [] := fun w _ => Bs.nil w _
theorem Il {p : Nat} (h : p < b.length) : eB 1 (.ok (b.drop p)) = ((b.getD p 0).toNat, .ok (b.drop (p + 1))) := by rw [kQ, if_neg (by rw [List.length_drop]; omega), drop_cons h];simp [nb]
theorem EA {p : Nat} (h : b.length ≤ p) : eB 1 (.ok (b.drop p)) = (0, .error 4) := by rw [kQ, if_pos (by rw [List.length_drop]; omega)]
theorem UI (a b c d : UInt8) : nb [a, b, c, d] = ((a.toNat * 256 + b.toNat) * 256 + c.toNat) * 256 + d.toNat := by simp [nb]
theorem Bs.uN {b : Nat} (h : Bs w (some ⟨b, off, none⟩) n xs) (hk : k < n) : w.cell? ⟨b, off + k, none⟩ = some (.int .u8 ((xs.getD k 0).toNat : Int)) := by
 obtain ⟨b', o', e, _, hc⟩ := h.get hk;injection e with e
 injection e with e1 e2 _
 subst e1; subst e2;exact hc
end
section
open Go.RowKit Tryz
attribute [local irreducible] Y Ef WL WC WK WQ WM cv WN WF cZ
theorem wN (HA : Bs w A n xs) (HB : Bs w B m ys) (hn : n ≤ 1000000000) (hm : m ≤ 1000000000) :
  Ct 162 #[.slice A n c, .slice B m d] w fun e w' => ∃ A' k c', e = .returned (.slice A' k c') ∧ Row w' w.heap.size 5 A' k c' ((xs ++ Wire.vec ys).map bv) ∧ k ≤ n + m + 4 ∧ Ext w w' :=
 (dV A B n c m d xs ys w HA Om HB Om).mono fun _ _ ⟨A', k, c', h1, h2, h3, h4⟩ => ⟨A', k, c', h1, h2, by have := Wire.bE m; omega, h4⟩
theorem fF (HB : Bs w B m ys) (hm : m ≤ 1000000000) :
  Ct 54 #[.slice B m d] w fun e w' => ∃ A' k c', e = .returned (.slice A' k c') ∧ Row w' w.heap.size 5 A' k c' ((Wire.vec ys).map bv) ∧ k ≤ m + 4 ∧ Ext w w' :=
 (cI B m d ys w HB Om).mono fun _ _ ⟨A', k, c', h1, h2, h3, h4⟩ => ⟨A', k, c', h1, h2, by have := Wire.bE m; omega, h4⟩
theorem cR (HA : Bs w A n xs) (HB : Bs w B m ys) (hn : n ≤ 1000000000) (hm : m ≤ 1000000000) :
  Ct 214 #[.slice A n c, .slice B m d] w fun e w' => ∃ A' c', e = .returned (.slice A' (n + m) c') ∧ Row w' w.heap.size 5 A' (n + m) c' ((xs ++ ys).map bv) ∧ Ext w w' := by
 refine ai 10 func214 rfl rfl rfl rfl ?_;intro _ hret;refine aU ?_;refine ag (aF (z := .int .u8 0) Tn.u Kr rfl rfl rfl rfl rfl) rfl ?_;rintro _ w1 ⟨g1, rfl, B1, Vq, ex⟩;have E1 := ex; have R1 : Row w1 w.heap.size 5 (some ⟨g1, 0, none⟩) 0 0 [] := Row.new B1 Vq rfl (by unfold maxLen; omega);refine aU ?_;refine ag (iF rfl rfl bT R1 (HA.ext E1).2 (by rw [List.length_map, HA.1]) aJ Om Om E1.size) rfl ?_;rintro _ _ ⟨_, _, rfl, R2, be, gr, hl⟩;have E2 := E1.trans be;refine aU ?_;refine ag (aX rfl rfl bT R2 (HB.ext E2).2 (by rw [List.length_map, HB.1]) aJ Om Om E2.size) rfl ?_;rintro _ _ ⟨A3, c3, rfl, R3, be, gr, hl⟩;have E3 := E2.trans be;refine aU ?_;refine hret rfl ?_;exact ⟨A3, c3, rfl, R3.cat, E3⟩
def ey (l : cw) : List UInt8 := Wire.vec l.box ++ Wire.vec l.sign ++ Wire.vec l.ident ++ [UInt8.ofNat l.src] ++ (if l.src = 3 then Wire.vec l.parent else [])
def lO (l : cw) : List UInt8 := ey l ++ Wire.vec l.sig
theorem eJ (v : Lb) : (Wire.vec v).length ≤ v.length + 4 := by have := Wire.bE v.length; rw [Wire.iV]; omega
theorem lQ {l : cw} (hf : l.Fit) : (ey l).length ≤ 4000017 := by
 obtain ⟨f0, f1, f2, f4, f5⟩ := hf;have h0 := eJ l.box; have h1 := eJ l.sign; have h2 := eJ l.ident; have h4 := eJ l.parent;unfold ey;simp only [List.length_append, List.length_singleton];split
 ·omega
 simp only [List.length_nil]; omega
theorem Kw {l : cw} (hf : l.Fit) : (lO l).length ≤ 5000021 := by have h := lQ hf;have h5 := eJ l.sig;obtain ⟨f0, f1, f2, f4, f5⟩ := hf;unfold lO;rw [List.length_append]; omega
theorem yS (h : s < 256) : (Value.int .u8 (s : Int)) = bv (UInt8.ofNat s) := by unfold bv; congr 1; rw [UInt8.toNat_ofNat']; omega
theorem oB {l : cw} (w : World) (HA : Bs w A n xs) (hn : n ≤ 1000) (H : eE w cs l) (hf : l.Fit) :
  Ct 199 #[.slice A n c, .agg cs] w fun e w' => ∃ A' k c', e = .returned (.slice A' k c') ∧ Row w' w.heap.size 5 A' k c' ((xs ++ ey l).map bv) ∧ Ext w w' := by
 obtain ⟨h0, h1, h2, h4, h5, rfl, hs, b0, b1, b2, b4, b5⟩ := H;have l0 := b0.1; have l1 := b1.1; have l4 := b4.1;have hU := lQ hf;obtain ⟨f0, f1, f2, f4, f5⟩ := hf;have hxl := HA.1;have E := Ext.refl w
 obtain ⟨ys, hys⟩ : ∃ ys, ys = [l.box, l.sign, l.ident] := ⟨_, rfl⟩
 obtain ⟨fl, hfl⟩ : ∃ fl : Nat → List UInt8, fl = fun k => ((ys.take k).map Wire.vec).flatten := ⟨_, rfl⟩
 have hfs : ∀ k, k < 3 → fl (k + 1) = fl k ++ Wire.vec (ys.getD k []) := fun k hk => by
  rw [hfl, hys]
  match k, hk with
  | 0, _ => simp
  | 1, _ => simp
  | 2, _ => simp
 have hfle : ∀ k, k < 3 → (fl k).length ≤ 2000008 := fun k hk => by
  have h0 := eJ l.box; have h1 := eJ l.sign;rw [hfl, hys]
  match k, hk with
  | 0, _ => simp
  | 1, _ => simp; omega
  | 2, _ => simp; omega
 have hyl : ∀ k, k < 3 → (ys.getD k []).length ≤ 1000000 := fun k hk => by
  rw [hys]
  match k, hk with
  | 0, _ => exact f0
  | 1, _ => exact f1
  | 2, _ => exact f2
 refine ai 36 func199 rfl rfl rfl rfl ?_;intro _ hret;refine aU ?_;intro Vr Vu B3 _ ex;replace E := E.ext ex;refine aU ?_;have E0 := E; have Vs := B3.lt;refine ag (aF (z := .slice none 0 0) Tn.u Kr rfl rfl rfl rfl rfl) rfl ?_;rintro _ w2 ⟨Vt, rfl, Vv, _, ex⟩;obtain ⟨E,B3⟩ := aZ ex E B3
 have F : Ext Vr w2 := ex; have Vq : rO w2 (some ⟨Vt, 0, none⟩) 3 ys := (by rw [hys]; exact mL Vv (Bs.ext b0 E) (Bs.ext b1 E) (Bs.ext b2 E))
 refine aU ?_;refine aD (fun n' L wr => ∃ (k m e : Nat) (D : Oa), L = [(0, .slice D m e), (3, .pointer (some ⟨Vu, 0, none⟩)), (13, .slice (some ⟨Vt, 0, none⟩) 3 3), (14, .int .i64 3), (15, .int .i64 (k : Int))] ∧ n' = 3 - k ∧ (k ≤ 3 ∧ Bs wr D m (xs ++ fl k) ∧ (k ≠ 0 → Row wr Vr.heap.size 5 D m e ((xs ++ fl k).map bv)) ∧ Ext Vr wr ∧ ao wr Vu 27 (ie h0 h1 h2 l.src h4 h5) ∧ rO wr (some ⟨Vt, 0, none⟩) 3 ys)) _ _ ⟨0, n, c, A, rfl, rfl, by omega, by rw [hfl]; simpa using HA.ext E, fun h => absurd rfl h, F, B3, Vq⟩ Ls ?_;rintro _ n' L wr ⟨k, m, e, D, rfl, rfl, hk, HD, hrow, F, B3, Vq⟩ Vw;refine aU ?_;refine ak rfl (fun Vx => ?_) (fun Vx => ?_)
 ·have hlt : k < 3 := by omega
  obtain ⟨b, off, C, q, f, zs, e1, hzs, hcell, hC⟩ := Vq.get hlt;injection e1 with e1
  injection e1 with Vy Vz _
  subst Vy; subst Vz;have VA := HD.1;have hq := hC.1;have hzl := hyl k hlt;rw [← hzs.out] at hzl;have hfk := hfle k hlt;rw [List.length_append] at VA;have VB := F.size;refine au 7 ?_;refine al (af rfl Tn.u rfl hcell) ?_;refine aU ?_;refine aC func162 rfl (wN HD hC Om Om) ?_;rintro e _ ⟨A4, k4, c4, rfl, R4, _, ex⟩;refine au 1 ?_;obtain ⟨F,B3,Vq⟩ := bF ex F B3 Vq;rw [hzs.out, List.append_assoc, ← hfs k hlt] at R4; replace R4 := R4.lower VB;refine au 8 ?_;refine ae ?_;refine Vw _ _ ⟨k + 1, k4, c4, A4, rfl, rfl, by omega, R4.bs, fun _ => R4, F, B3, Vq⟩ Om Ls
 obtain rfl : k = 3 := by omega
 have R := hrow Om;have VC : fl 3 = Wire.vec l.box ++ Wire.vec l.sign ++ Wire.vec l.ident := by rw [hfl, hys]; simp
 rw [VC] at R;have hRl := R.len;rw [List.length_map, List.length_append] at hRl;have VF : (Wire.vec l.box ++ Wire.vec l.sign ++ Wire.vec l.ident).length ≤ 4000017 := by unfold ey at hU; simp only [List.length_append] at hU ⊢; omega
 refine au 9 ?_;refine al (Y.as (af rfl Tn.u rfl (B3.get (i := 3) rfl)) (yS hs)) ?_;refine ag (aF (z := .int .u8 0) Tn.u Kr rfl rfl rfl rfl rfl) rfl ?_;rintro _ _ ⟨_, rfl, B5, _, ex⟩;replace R := R.ext ex;refine ag (aX rfl rfl bT R (At.jn (vs := [UInt8.ofNat l.src].map bv) (B5.congr (by rfl))) rfl aJ Om Om (Nat.le_trans F.size ex.size)) rfl ?_;rintro _ _ ⟨A6, c6, rfl, R6, be, _, _⟩;replace F := (F.ext ex).trans be; replace R6 := R6.cat; replace B3 := (B3.ext ex).below be Vs; have E := E0.tr F;refine aU ?_;refine ak rfl (fun VD => ?_) (fun VD => ?_)
 ·refine aU ?_;have VE := E.size;refine aC func162 rfl (wN R6.bs (Bs.ext b4 E) Om Om) ?_;rintro e _ ⟨A7, k7, c7, rfl, R7, _, ex⟩;replace E := E.ext ex;refine aU ?_;refine hret rfl ?_;refine ⟨A7, k7, c7, rfl, (R7.lower VE).congr rfl ?_, E⟩;unfold ey;rw [if_pos Om];simp only [List.append_assoc]
 refine aU ?_;refine hret rfl ?_;refine ⟨A6, _, c6, rfl, (R6.lower E0.size).congr rfl ?_, E⟩;unfold ey;rw [if_neg Om];simp only [List.append_assoc, List.append_nil]
def ng (l : cw) : List UInt8 × Nat := if aI l then (lO l, 0) else ([], 3)
theorem nc {l : cw} (w : World) (H : eE w cs l) (hf : l.Fit) :
  Ct 216 #[.agg cs] w fun e w' => ∃ A' k c', e = .returned (.tuple #[.slice A' k c', .int .u8 (((ng l).2 : Nat) : Int)]) ∧ Row w' w.heap.size 5 A' k c' ((ng l).1.map bv) ∧ Ext w w' := by
 have hU := lQ hf;have HH := H;obtain ⟨h0, h1, h2, h4, h5, rfl, hs, b0, b1, b2, b4, b5⟩ := H;have l5 := b5.1;obtain ⟨f0, f1, f2, f4, f5⟩ := id hf;have E := Ext.refl w;refine bL 12 func216 rfl rfl rfl rfl ?_;intro _ hret;refine aU ?_;intro _ _ B1 _ ex;replace E := E.ext ex;refine aU ?_;refine aC func140 rfl (mX _ (HH.ext E)) ?_;rintro e _ ⟨rfl, ex⟩;obtain ⟨E,B1⟩ := aZ ex E B1;refine aU ?_;refine bB rfl (fun Vq => ?_) (fun Vq => ?_)
 ·refine aU ?_;refine hret rfl rfl ?_;have hno : ¬ aI l := by simpa using Vq
  have e1 : ng l = ([], 3) := by unfold ng; rw [if_neg hno]
  rw [e1];exact ⟨none, 0, 0, rfl, Row.empty _ _ _, E⟩
 refine aU ?_;refine az Kr 7 rfl ?_; intro Vt ex Vu;obtain ⟨E,B1⟩ := aZ ex E B1;refine zm [0, 2, 3] ?_;refine bz 1 rfl func199 rfl (oB _ (Bs.nil _ none) Om (HH.ext E) hf) ?_;rintro e _ ⟨_, _, _, rfl, R3, ex⟩;refine aU ?_;replace E := E.ext ex;have Vr := R3.bs.1;have Vs := E.size; rw [List.nil_append] at Vr;refine bz 4 rfl func162 rfl (wN R3.bs (Bs.ext b5 E) Om Om) ?_;rintro e _ ⟨A4, k4, c4, rfl, R4, _, ex⟩;replace E := E.ext ex;refine zm [5, 6] ?_;refine hret rfl rfl ?_;have hyes : aI l := by simpa using Vq
 have e1 : ng l = (lO l, 0) := by unfold ng; rw [if_pos hyes]
 rw [e1];exact ⟨A4, k4, c4, rfl, (R4.lower Vs).congr rfl (by unfold lO; rw [List.nil_append]), E⟩
end
section
open Go.RowKit
attribute [local irreducible] Y Ef WL WC WK WQ WM cv WN WF cZ WJ gI
open Wire Nd
namespace Nd
theorem CI {s : St} (k : Nat) : ru (eB k s).2 ≤ ru s := by
  cases s with
  | error c => exact Nat.le_refl _
  | ok xs =>
    rw [kQ]
    split
    · exact Nat.zero_le _
    show (xs.drop k).length ≤ xs.length
    rw [List.length_drop]; omega
theorem uX : eY (.ok (b.drop k)) = if k < b.length then 5 else 0 := by
 by_cases h : k < b.length
 ·rw [if_pos h, drop_cons h]; rfl
 rw [if_neg h, List.drop_of_length_le Om]; rfl
end Nd
end
section
open Go.RowKit
namespace Wire
theorem Tx (a : UInt8) : nb [a] = a.toNat := by simp [nb]
theorem Eu (a : UInt8) (r : Lb) : eB 1 (.ok (a :: r)) = (a.toNat, .ok r) := by rw [kQ, if_neg (by simp)];show (nb [a], _) = _;rw [Tx]; rfl
end Wire
open Wire Nd
end
section
open Go.RowKit
attribute [local irreducible] Y Ef WL WC WK WQ WM cv WN WF cZ WJ gI
open Wire Nd
def Node.Small (n : Node) : Prop := n.leaf.box.length ≤ 200 ∧ n.leaf.sign.length ≤ 200 ∧ n.leaf.ident.length ≤ 200 ∧ n.leaf.parent.length ≤ 200 ∧ n.leaf.sig.length ≤ 200 ∧ n.par.box.length ≤ 200 ∧ n.par.hash.length ≤ 200 ∧ n.par.late.length ≤ 60
instance (n : Node) : Decidable n.Small := by unfold Node.Small; exact inferInstance
theorem Node.Small.fit {n : Node} (h : n.Small) : n.Fit := by obtain ⟨h1, h2, h3, h4, h5, h6, h7, h8⟩ := h;exact ⟨⟨by omega, by omega, by omega, by omega, by omega⟩, by omega, by omega, by omega⟩
end
section
open Go.RowKit Tryz
attribute [local irreducible] Y Ef WL WC WK WQ WM cv WN WF cZ WJ gI
open Wire Nd
theorem EM {l : cw} (w : World) (H : eE w cs l) (hf : l.Fit) :
  Ct 215 #[.agg cs] w fun e w' => ∃ A' k c', e = .returned (.slice A' k c') ∧ Row w' w.heap.size 5 A' k c' ((ey l).map bv) ∧ Ext w w' := by
 obtain ⟨h0, h1, h2, h4, h5, rfl, hs, b0, b1, b2, b4, b5⟩ := H;have l0 := b0.1; have l1 := b1.1; have l2 := b2.1; have l4 := b4.1;obtain ⟨f0, f1, f2, f4, f5⟩ := hf;have E := Ext.refl w;refine ai 28 func215 rfl rfl rfl rfl ?_;intro _ hret;refine aU ?_;intro _ _ B1 _ ex;replace E := E.ext ex;refine aU ?_;refine az Kr 16 rfl ?_; intro VB ex VC;obtain ⟨E,B1⟩ := aZ ex E B1;refine zm [0, 1, 3, 4, 7, 8, 10] ?_;refine my 11 rfl (Y.as (af rfl Tn.u rfl (B1.get (i := 3) rfl)) (yS hs)) ?_;refine fR 2 12 Kr ?_ ?_
 ·skip;refine eW rfl func54 rfl rfl rfl (fF (Bs.ext b0 E) Om) rfl ?_;rintro e w2 ⟨A2, k2, c2, rfl, R2, VA, ex⟩;obtain ⟨E,B1⟩ := aZ ex E B1;refine aU ?_;refine fR 5 12 Kr ?_ ?_
  ·skip;refine eW rfl func54 rfl rfl rfl (fF (Bs.ext b1 E) Om) rfl ?_;rintro e w3 ⟨A3, k3, c3, rfl, R3, Vz, ex⟩;obtain ⟨E,B1,R2⟩ := bF ex E B1 R2;refine aU ?_;refine fR 6 12 Kr ?_ ?_
   ·skip;refine eW rfl func214 rfl rfl rfl (cR R2.bs R3.bs Om Om) rfl ?_;rintro e w4 ⟨A4, c4, rfl, R4, ex⟩;obtain ⟨E,B1⟩ := aZ ex E B1;refine aU ?_;refine fR 9 12 Kr ?_ ?_
    ·skip;refine eW rfl func54 rfl rfl rfl (fF (Bs.ext b2 E) Om) rfl ?_;rintro e w5 ⟨A5, k5, c5, rfl, R5, Vv, ex⟩;obtain ⟨E,B1,R4⟩ := bF ex E B1 R4;refine aU ?_;refine aL 12 Kr ?_; refine aQ rfl (aF (z := .int .u8 0) Tn.u Kr rfl rfl rfl rfl rfl) rfl ?_;rintro _ w6 ⟨g6, rfl, B6, Vw, ex⟩;refine ⟨.inr ex, ?_⟩;obtain ⟨E,B1,R4,R5⟩ := bU ex E B1 R4 R5;have H6 := bh (xs := [UInt8.ofNat l.src]) (B6.congr (by rfl)) rfl;refine bz 13 rfl func214 rfl (cR R5.bs H6 Om Om) ?_;rintro e w7 ⟨A7, c7, rfl, R7, ex⟩;obtain ⟨E,B1,R4⟩ := bF ex E B1 R4;refine aU ?_;have Vq := E.size;refine bz 14 rfl func214 rfl (cR R4.bs R7.bs Om Om) ?_;rintro e w8 ⟨A8, c8, rfl, R8, ex⟩;obtain ⟨E,B1⟩ := aZ ex E B1;replace R8 := R8.lower Vq;refine zm [15] ?_;refine ak rfl (fun Vs => ?_) (fun Vs => ?_)
     ·refine aU ?_;refine aC func54 rfl (fF (Bs.ext b4 E) Om) ?_;rintro e w9 ⟨A9, k9, c9, rfl, R9, Vx, ex⟩;obtain ⟨E,R8⟩ := aZ ex E R8;refine aU ?_;have Vr := E.size;refine aC func214 rfl (cR R8.bs R9.bs Om Om) ?_;rintro e Vy ⟨Vt, c10, rfl, Vu, ex⟩;replace E := E.ext ex;refine aU ?_;refine hret rfl ?_;exact ⟨Vt, _, c10, rfl, (Vu.lower Vr).congr rfl (by unfold ey; rw [if_pos Om]; simp only [List.append_assoc]), E⟩
     refine aU ?_;refine hret rfl ?_;exact ⟨A8, _, c8, rfl, R8.congr rfl (by unfold ey; rw [if_neg Om]; simp only [List.append_assoc, List.append_nil]), E⟩
    skip;refine aQ rfl (aF (z := .int .u8 0) Tn.u Kr rfl rfl rfl rfl rfl) rfl ?_;rintro _ w6 ⟨g6, rfl, B6, Vw, ex⟩;refine ⟨.inr ex, ?_⟩;obtain ⟨E,B1,R4⟩ := bF ex E B1 R4;have H6 := bh (xs := [UInt8.ofNat l.src]) (B6.congr (by rfl)) rfl;refine bz 9 rfl func54 rfl (fF (Bs.ext b2 E) Om) ?_;rintro e w5 ⟨A5, k5, c5, rfl, R5, Vv, ex⟩;obtain ⟨E,B1,R4,H6⟩ := bU ex E B1 R4 H6;refine aU ?_;refine bz 13 rfl func214 rfl (cR R5.bs H6 Om Om) ?_;rintro e w7 ⟨A7, c7, rfl, R7, ex⟩;obtain ⟨E,B1,R4⟩ := bF ex E B1 R4;refine aU ?_;have Vq := E.size;refine bz 14 rfl func214 rfl (cR R4.bs R7.bs Om Om) ?_;rintro e w8 ⟨A8, c8, rfl, R8, ex⟩;obtain ⟨E,B1⟩ := aZ ex E B1;replace R8 := R8.lower Vq;refine zm [15] ?_;refine ak rfl (fun Vs => ?_) (fun Vs => ?_)
    ·refine aU ?_;refine aC func54 rfl (fF (Bs.ext b4 E) Om) ?_;rintro e w9 ⟨A9, k9, c9, rfl, R9, Vx, ex⟩;obtain ⟨E,R8⟩ := aZ ex E R8;refine aU ?_;have Vr := E.size;refine aC func214 rfl (cR R8.bs R9.bs Om Om) ?_;rintro e Vy ⟨Vt, c10, rfl, Vu, ex⟩;replace E := E.ext ex;refine aU ?_;refine hret rfl ?_;exact ⟨Vt, _, c10, rfl, (Vu.lower Vr).congr rfl (by unfold ey; rw [if_pos Om]; simp only [List.append_assoc]), E⟩
    refine aU ?_;refine hret rfl ?_;exact ⟨A8, _, c8, rfl, R8.congr rfl (by unfold ey; rw [if_neg Om]; simp only [List.append_assoc, List.append_nil]), E⟩
   skip;refine aQ rfl (aF (z := .int .u8 0) Tn.u Kr rfl rfl rfl rfl rfl) rfl ?_;rintro _ w6 ⟨g6, rfl, B6, Vw, ex⟩;refine ⟨.inr ex, ?_⟩;obtain ⟨E,B1,R2,R3⟩ := bU ex E B1 R2 R3;have H6 := bh (xs := [UInt8.ofNat l.src]) (B6.congr (by rfl)) rfl;refine bz 6 rfl func214 rfl (cR R2.bs R3.bs Om Om) ?_;rintro e w4 ⟨A4, c4, rfl, R4, ex⟩;obtain ⟨E,B1,H6⟩ := bF ex E B1 H6;refine aU ?_;refine bz 9 rfl func54 rfl (fF (Bs.ext b2 E) Om) ?_;rintro e w5 ⟨A5, k5, c5, rfl, R5, Vv, ex⟩;obtain ⟨E,B1,H6,R4⟩ := bU ex E B1 H6 R4;refine aU ?_;refine bz 13 rfl func214 rfl (cR R5.bs H6 Om Om) ?_;rintro e w7 ⟨A7, c7, rfl, R7, ex⟩;obtain ⟨E,B1,R4⟩ := bF ex E B1 R4;refine aU ?_;have Vq := E.size;refine bz 14 rfl func214 rfl (cR R4.bs R7.bs Om Om) ?_;rintro e w8 ⟨A8, c8, rfl, R8, ex⟩;obtain ⟨E,B1⟩ := aZ ex E B1;replace R8 := R8.lower Vq;refine zm [15] ?_;refine ak rfl (fun Vs => ?_) (fun Vs => ?_)
   ·refine aU ?_;refine aC func54 rfl (fF (Bs.ext b4 E) Om) ?_;rintro e w9 ⟨A9, k9, c9, rfl, R9, Vx, ex⟩;obtain ⟨E,R8⟩ := aZ ex E R8;refine aU ?_;have Vr := E.size;refine aC func214 rfl (cR R8.bs R9.bs Om Om) ?_;rintro e Vy ⟨Vt, c10, rfl, Vu, ex⟩;replace E := E.ext ex;refine aU ?_;refine hret rfl ?_;exact ⟨Vt, _, c10, rfl, (Vu.lower Vr).congr rfl (by unfold ey; rw [if_pos Om]; simp only [List.append_assoc]), E⟩
   refine aU ?_;refine hret rfl ?_;exact ⟨A8, _, c8, rfl, R8.congr rfl (by unfold ey; rw [if_neg Om]; simp only [List.append_assoc, List.append_nil]), E⟩
  skip;refine aQ rfl (aF (z := .int .u8 0) Tn.u Kr rfl rfl rfl rfl rfl) rfl ?_;rintro _ w6 ⟨g6, rfl, B6, Vw, ex⟩;refine ⟨.inr ex, ?_⟩;obtain ⟨E,B1,R2⟩ := bF ex E B1 R2;have H6 := bh (xs := [UInt8.ofNat l.src]) (B6.congr (by rfl)) rfl;refine bz 5 rfl func54 rfl (fF (Bs.ext b1 E) Om) ?_;rintro e w3 ⟨A3, k3, c3, rfl, R3, Vz, ex⟩;obtain ⟨E,B1,R2,H6⟩ := bU ex E B1 R2 H6;refine aU ?_;refine bz 6 rfl func214 rfl (cR R2.bs R3.bs Om Om) ?_;rintro e w4 ⟨A4, c4, rfl, R4, ex⟩;obtain ⟨E,B1,H6⟩ := bF ex E B1 H6;refine aU ?_;refine bz 9 rfl func54 rfl (fF (Bs.ext b2 E) Om) ?_;rintro e w5 ⟨A5, k5, c5, rfl, R5, Vv, ex⟩;obtain ⟨E,B1,H6,R4⟩ := bU ex E B1 H6 R4;refine aU ?_;refine bz 13 rfl func214 rfl (cR R5.bs H6 Om Om) ?_;rintro e w7 ⟨A7, c7, rfl, R7, ex⟩;obtain ⟨E,B1,R4⟩ := bF ex E B1 R4;refine aU ?_;have Vq := E.size;refine bz 14 rfl func214 rfl (cR R4.bs R7.bs Om Om) ?_;rintro e w8 ⟨A8, c8, rfl, R8, ex⟩;obtain ⟨E,B1⟩ := aZ ex E B1;replace R8 := R8.lower Vq;refine zm [15] ?_;refine ak rfl (fun Vs => ?_) (fun Vs => ?_)
  ·refine aU ?_;refine aC func54 rfl (fF (Bs.ext b4 E) Om) ?_;rintro e w9 ⟨A9, k9, c9, rfl, R9, Vx, ex⟩;obtain ⟨E,R8⟩ := aZ ex E R8;refine aU ?_;have Vr := E.size;refine aC func214 rfl (cR R8.bs R9.bs Om Om) ?_;rintro e Vy ⟨Vt, c10, rfl, Vu, ex⟩;replace E := E.ext ex;refine aU ?_;refine hret rfl ?_;exact ⟨Vt, _, c10, rfl, (Vu.lower Vr).congr rfl (by unfold ey; rw [if_pos Om]; simp only [List.append_assoc]), E⟩
  refine aU ?_;refine hret rfl ?_;exact ⟨A8, _, c8, rfl, R8.congr rfl (by unfold ey; rw [if_neg Om]; simp only [List.append_assoc, List.append_nil]), E⟩
 skip;refine aQ rfl (aF (z := .int .u8 0) Tn.u Kr rfl rfl rfl rfl rfl) rfl ?_;rintro _ w6 ⟨g6, rfl, B6, Vw, ex⟩;refine ⟨.inr ex, ?_⟩;obtain ⟨E,B1⟩ := aZ ex E B1;have H6 := bh (xs := [UInt8.ofNat l.src]) (B6.congr (by rfl)) rfl;refine bz 2 rfl func54 rfl (fF (Bs.ext b0 E) Om) ?_;rintro e w2 ⟨A2, k2, c2, rfl, R2, VA, ex⟩;obtain ⟨E,B1,H6⟩ := bF ex E B1 H6;refine aU ?_;refine bz 5 rfl func54 rfl (fF (Bs.ext b1 E) Om) ?_;rintro e w3 ⟨A3, k3, c3, rfl, R3, Vz, ex⟩;obtain ⟨E,B1,H6,R2⟩ := bU ex E B1 H6 R2;refine aU ?_;refine bz 6 rfl func214 rfl (cR R2.bs R3.bs Om Om) ?_;rintro e w4 ⟨A4, c4, rfl, R4, ex⟩;obtain ⟨E,B1,H6⟩ := bF ex E B1 H6;refine aU ?_;refine bz 9 rfl func54 rfl (fF (Bs.ext b2 E) Om) ?_;rintro e w5 ⟨A5, k5, c5, rfl, R5, Vv, ex⟩;obtain ⟨E,B1,H6,R4⟩ := bU ex E B1 H6 R4;refine aU ?_;refine bz 13 rfl func214 rfl (cR R5.bs H6 Om Om) ?_;rintro e w7 ⟨A7, c7, rfl, R7, ex⟩;obtain ⟨E,B1,R4⟩ := bF ex E B1 R4;refine aU ?_;have Vq := E.size;refine bz 14 rfl func214 rfl (cR R4.bs R7.bs Om Om) ?_;rintro e w8 ⟨A8, c8, rfl, R8, ex⟩;obtain ⟨E,B1⟩ := aZ ex E B1;replace R8 := R8.lower Vq;refine zm [15] ?_;refine ak rfl (fun Vs => ?_) (fun Vs => ?_)
 ·refine aU ?_;refine aC func54 rfl (fF (Bs.ext b4 E) Om) ?_;rintro e w9 ⟨A9, k9, c9, rfl, R9, Vx, ex⟩;obtain ⟨E,R8⟩ := aZ ex E R8;refine aU ?_;have Vr := E.size;refine aC func214 rfl (cR R8.bs R9.bs Om Om) ?_;rintro e Vy ⟨Vt, c10, rfl, Vu, ex⟩;replace E := E.ext ex;refine aU ?_;refine hret rfl ?_;exact ⟨Vt, _, c10, rfl, (Vu.lower Vr).congr rfl (by unfold ey; rw [if_pos Om]; simp only [List.append_assoc]), E⟩
 refine aU ?_;refine hret rfl ?_;exact ⟨A8, _, c8, rfl, R8.congr rfl (by unfold ey; rw [if_neg Om]; simp only [List.append_assoc, List.append_nil]), E⟩
theorem si {l : cw} (w : World) (H : eE w cs l) (hf : l.Fit) :
  Ct 159 #[.agg cs] w fun e w' => ∃ A' k c', e = .returned (.slice A' k c') ∧ Row w' w.heap.size 5 A' k c' ((lO l).map bv) ∧ Ext w w' := by
 have HH := H;have hU := lQ hf;obtain ⟨h0, h1, h2, h4, h5, rfl, hs, b0, b1, b2, b4, b5⟩ := H;have l5 := b5.1;have f5 := hf.2.2.2.2;have E := Ext.refl w;refine ai 9 func159 rfl rfl rfl rfl ?_;intro _ hret;refine aU ?_;intro _ _ B1 _ ex;replace E := E.ext ex;refine aU ?_;refine az Kr 7 rfl ?_; intro Vr ex Vs;obtain ⟨E,B1⟩ := aZ ex E B1;refine zm [0, 2, 3] ?_;refine bz 1 rfl func215 rfl (EM _ (HH.ext E) hf) ?_;rintro e _ ⟨_, _, _, rfl, R2, ex⟩;refine aU ?_;replace E := E.ext ex;have Vt := R2.bs.1;refine bz 4 rfl func54 rfl (fF (Bs.ext b5 E) Om) ?_;rintro e _ ⟨_, _, _, rfl, R3, _, ex⟩;obtain ⟨E,R2⟩ := aZ ex E R2;refine aU ?_;have Vq := E.size;refine bz 5 rfl func214 rfl (cR R2.bs R3.bs Om Om) ?_;rintro e _ ⟨A4, c4, rfl, R4, ex⟩;replace E := E.ext ex;refine zm [6] ?_;refine hret rfl ?_;exact ⟨A4, _, c4, rfl, R4.lower Vq, E⟩
end
section
open Go.RowKit Tryz
attribute [local irreducible] Y Ef WL WC WK WQ WM cv WN WF cZ
open Nd
structure Pack where
 init : List UInt8
 leaf : cw
 sig : List UInt8
structure fU where
 kind : Nat
 pack : Pack
 leaf : cw
 at_ : Int
def Pack.zero : Pack := ⟨[], cw.zero, []⟩
def dH (i h0 h1 h2 : Hd) (s : Nat) (h4 h5 g : Hd) : Array Value := #[.slice i.A i.n i.c, .slice h0.A h0.n h0.c, .slice h1.A h1.n h1.c, .slice h2.A h2.n h2.c, .int .u8 (s : Int), .slice h4.A h4.n h4.c, .slice h5.A h5.n h5.c, .slice g.A g.n g.c]
def iA (B : Hd → List UInt8 → Prop) (cs : Array Value) (p : Pack) : Prop :=
 ∃ i h0 h1 h2 h4 h5 g, cs = dH i h0 h1 h2 p.leaf.src h4 h5 g ∧ p.leaf.src < 256 ∧ B i p.init ∧ B h0 p.leaf.box ∧ B h1 p.leaf.sign ∧ B h2 p.leaf.ident ∧ B h4 p.leaf.parent ∧ B h5 p.leaf.sig ∧ B g p.sig
section
variable {B B' : Hd → List UInt8 → Prop} {p : Pack} {q : fU}
theorem iA.imp (h : iA B cs p) (f : ∀ h xs, B h xs → B' h xs) : iA B' cs p := by obtain ⟨i, h0, h1, h2, h4, h5, g, e, hs, a, b0, b1, b2, b4, b5, c⟩ := h;exact ⟨i, h0, h1, h2, h4, h5, g, e, hs, f _ _ a, f _ _ b0, f _ _ b1, f _ _ b2, f _ _ b4, f _ _ b5, f _ _ c⟩
theorem iA.leaf (h : iA B cs p) : jT B ((cs.toList.drop 1).take 6).toArray p.leaf := by obtain ⟨i, h0, h1, h2, h4, h5, g, rfl, hs, a, b0, b1, b2, b4, b5, c⟩ := h;exact ⟨h0, h1, h2, h4, h5, rfl, hs, b0, b1, b2, b4, b5⟩
end
def dx (w : World) (cs : Array Value) (p : Pack) : Prop := iA (py w) cs p
section
variable {p : Pack} {q : fU}
theorem dx.ext (h : dx w cs p) (e : Ext w w') : dx w' cs p := iA.imp h fun _ _ b => Bs.ext b e
theorem dx.leaf (h : dx w cs p) : eE w ((cs.toList.drop 1).take 6).toArray p.leaf := iA.leaf h
end
def Pack.Fit (p : Pack) : Prop := p.init.length ≤ 1000000 ∧ p.leaf.Fit ∧ p.sig.length ≤ 1000000
/-! Which may be. -/
def kG (l : cw) (s : Nat) : Prop := aI l ∧ l.src = s
instance (l : cw) (s : Nat) : Decidable (kG l s) := by unfold kG; infer_instance
def dk (p : Pack) : Prop := p.init.length = 32 ∧ kG p.leaf 1 ∧ p.sig.length = 64
instance (p : Pack) : Decidable (dk p) := by unfold dk; infer_instance
theorem AT {l : cw} : (ng l).2 = 0 ↔ aI l := by
 unfold ng;split
 ·rename_i h; exact ⟨fun _ => h, fun _ => rfl⟩
 rename_i h; exact ⟨fun e => by simp at e, fun k => absurd k h⟩
variable {l : cw} {p : Pack} {q : fU}
theorem rp (w : World) (H : eE w cs l) (hf : l.Fit) :
  Ct 160 #[.agg cs, .int .u8 (s : Int)] w fun e w' => e = .returned (.bool (decide (kG l s))) ∧ Ext w w' := by
 have HL := H;have hc := AT (l := l);obtain ⟨h0, h1, h2, h4, h5, rfl, hs, b0, b1, b2, b4, b5⟩ := H;have E := Ext.refl w;refine ai 20 func160 rfl rfl rfl rfl ?_;intro _ hret;refine aU ?_;intro _ _ B2 _ ex;replace E := E.ext ex;refine aU ?_;refine aC func216 rfl (nc _ (HL.ext E) hf) ?_;rintro e _ ⟨_, _, _, rfl, _, ex⟩;obtain ⟨E,B2⟩ := aZ ex E B2;refine au 12 ?_;refine bf (aY rfl) rfl (fun q0 => ?_) (fun q0 => ?_)
 ·refine aU ?_;refine hret rfl ?_;exact ⟨by rw [decide_eq_decide.2 (show (l.src : Int) = (s : Int) ↔ kG l s from ⟨fun h => ⟨hc.1 Om, by omega⟩, fun h => by rw [h.2]⟩)], E⟩
 refine aU ?_;refine hret rfl ?_;exact ⟨aR fun h => q0 (by rw [hc.2 h.1]; rfl), E⟩
theorem xB (w : World) (H : eE w cs l) :
  Ct 33 #[.agg cs, .int .u8 (s : Int)] w fun e w' => e = .returned (.bool (decide (kG l s))) ∧ Ext w w' := by
 have HL := H;obtain ⟨h0, h1, h2, h4, h5, rfl, hs, b0, b1, b2, b4, b5⟩ := H;have E := Ext.refl w;refine ai 13 func33 rfl rfl rfl rfl ?_;intro _ hret;refine aU ?_;intro _ _ B2 _ ex;replace E := E.ext ex;refine aU ?_;refine aC func79 rfl (tF _ (HL.ext E)) ?_;rintro e _ ⟨rfl, ex⟩;obtain ⟨E,B2⟩ := aZ ex E B2;refine au 1 ?_;refine bf (aY rfl) rfl (fun q0 => ?_) (fun q0 => ?_)
 ·refine aU ?_;refine hret rfl ?_;exact ⟨by rw [decide_eq_decide.2 (show (l.src : Int) = (s : Int) ↔ kG l s from ⟨fun h => ⟨q0, by omega⟩, fun h => by rw [h.2]⟩)], E⟩
 refine aU ?_;refine hret rfl ?_;exact ⟨aR fun h => q0 h.1, E⟩
theorem nk (w : World) (H : dx w cs p) (hf : p.Fit) :
  Ct 84 #[.agg cs] w fun e w' => e = .returned (.bool (decide (dk p))) ∧ Ext w w' := by
 have HL := H.leaf;obtain ⟨i, h0, h1, h2, h4, h5, g, rfl, hs, a, b0, b1, b2, b4, b5, c⟩ := H;have la := a.1; have lc := c.1;have E := Ext.refl w;refine ai 18 func84 rfl rfl rfl rfl ?_;intro _ hret;refine aU ?_;intro _ _ B1 _ ex;replace E := E.ext ex;refine au 9 ?_;refine bf (aY rfl) rfl (fun q0 => ?_) (fun q0 => ?_)
 ·refine aU ?_;refine fJ 7 rfl rfl func160 rfl rfl rfl (rp (s := 1) _ (HL.ext E) hf.2.1) rfl ?_;rintro e _ ⟨rfl, ex⟩;obtain ⟨E,B1⟩ := aZ ex E B1;refine au 2 ?_;refine bf (aY rfl) rfl (fun q1 => ?_) (fun q1 => ?_)
  ·refine aU ?_;refine hret rfl ?_;exact ⟨dM ⟨fun h => ⟨by omega, q1, by omega⟩, fun h => by have := h.2.2; omega⟩, E⟩
  refine aU ?_;refine hret rfl ?_;exact ⟨aR fun h => q1 h.2.1, E⟩
 refine aU ?_;refine hret rfl ?_;exact ⟨aR fun h => q0 (by rw [← la, h.1]; rfl), E⟩
theorem uA (w : World) (H : dx w cs p) :
  Ct 10 #[.agg cs] w fun e w' => e = .returned (.bool (decide (dk p))) ∧ Ext w w' := by
 have HL := H.leaf;obtain ⟨i, h0, h1, h2, h4, h5, g, rfl, hs, a, b0, b1, b2, b4, b5, c⟩ := H;have la := a.1; have lc := c.1;have E := Ext.refl w;refine ai 18 func10 rfl rfl rfl rfl ?_;intro _ hret;refine aU ?_;intro _ _ B1 _ ex;replace E := E.ext ex;refine au 9 ?_;refine bf (aY rfl) rfl (fun q0 => ?_) (fun q0 => ?_)
 ·refine aU ?_;refine fJ 7 rfl rfl func33 rfl rfl rfl (xB (s := 1) _ (HL.ext E)) rfl ?_;rintro e _ ⟨rfl, ex⟩;obtain ⟨E,B1⟩ := aZ ex E B1;refine au 2 ?_;refine bf (aY rfl) rfl (fun q1 => ?_) (fun q1 => ?_)
  ·refine aU ?_;refine hret rfl ?_;exact ⟨dM ⟨fun h => ⟨by omega, q1, by omega⟩, fun h => by have := h.2.2; omega⟩, E⟩
  refine aU ?_;refine hret rfl ?_;exact ⟨aR fun h => q1 h.2.1, E⟩
 refine aU ?_;refine hret rfl ?_;exact ⟨aR fun h => q0 (by rw [← la, h.1]; rfl), E⟩
end
section
open Go.RowKit
attribute [local irreducible] Y Ef WL WC WK WQ WM cv WN WF cZ
open Nd
def Pack.Small (p : Pack) : Prop := p.init.length ≤ 100 ∧ p.sig.length ≤ 100 ∧ (⟨0, p.leaf, EO.zero⟩ : Node).Small
instance (p : Pack) : Decidable p.Small := by unfold Pack.Small; infer_instance
def fU.Small (p : fU) : Prop := p.pack.Small ∧ (⟨0, p.leaf, EO.zero⟩ : Node).Small
instance (p : fU) : Decidable p.Small := by unfold fU.Small; infer_instance
theorem Pack.Small.fit {p : Pack} (h : p.Small) : p.Fit := ⟨by have := h.1; omega, h.2.2.fit.1, by have := h.2.1; omega⟩
variable {p : Pack} {q : fU}
theorem Ej (z : Int) (w : World) : Ct 183 #[.int .i64 z] w fun e w' => e = .returned (.bool (decide (0 ≤ z ∧ z ≤ 65535))) ∧ Ext w w' := by
 have E := Ext.refl w;refine ai 9 Tryz.func183 rfl rfl rfl rfl ?_;intro _ hret;refine au 9 ?_;refine bf (aY rfl) rfl (fun q0 => ?_) (fun q0 => ?_)
 ·refine aU ?_;refine hret rfl ?_;exact ⟨dM ⟨fun h => by omega, fun h => by omega⟩, E⟩
 refine aU ?_;refine hret rfl ?_;exact ⟨aR fun h => by omega, E⟩
end
section
open Go.RowKit Tryz
attribute [local irreducible] Y Ef WL WC WK WQ WM cv WN WF cZ
open Nd Wire
def me (p : Pack) : List UInt8 := [0, 1, 0, 1] ++ vec p.init ++ lO p.leaf
def Dv (p : Pack) : List UInt8 := me p ++ vec p.sig
theorem yV {l : cw} (h : (⟨0, l, EO.zero⟩ : Node).Small) : (lO l).length ≤ 1200 := by
 obtain ⟨f0, f1, f2, f4, f5, _⟩ := h;have f0 : l.box.length ≤ 200 := f0;have f1 : l.sign.length ≤ 200 := f1;have f2 : l.ident.length ≤ 200 := f2;have f4 : l.parent.length ≤ 200 := f4;have f5 : l.sig.length ≤ 200 := f5;have h0 := eJ l.box; have h1 := eJ l.sign; have h2 := eJ l.ident; have h4 := eJ l.parent; have h5 := eJ l.sig;unfold lO ey;simp only [List.length_append, List.length_singleton];split
 ·omega
 simp only [List.length_nil]; omega
theorem lP {p : Pack} (h : p.Small) : (me p).length ≤ 1400 := by have h1 := eJ p.init; have h2 := yV h.2.2; have h3 := h.1;unfold me;simp only [List.length_append, List.length_cons, List.length_nil]; omega
theorem za {p : Pack} (h : p.Small) : (Dv p).length ≤ 1600 := by have h1 := eJ p.sig; have h2 := lP h; have h3 := h.2.1;unfold Dv;rw [List.length_append]; omega
theorem xX {ok : Bool} {b : Code} {Ψ : World → Option Addr → Nat → Nat → Prop} (w : World) (hf : Tryz.prog.funcs[f]? = some fn) (hb : fn.body = some b) (hnm : (fn.name == "runtime.NumGoroutine") = false)
  (hp : ok = true → ∀ w1 : World, Ext w w1 → Ct f us.toArray w1 fun e w' => ∃ A k c, e = .returned (.slice A k c) ∧ Ψ w' A k c ∧ Ext w1 w') :
  Ct 83 #[.bool ok, .func (.func f) #[] us.toArray] w fun e w' => ∃ A k c, ∃ z : Nat, e = .returned (.tuple #[.slice A k c, .int .u8 (z : Int)]) ∧ (ok = true → z = 0 ∧ Ψ w' A k c) ∧ (ok = false → z = 3 ∧ A = none ∧ k = 0 ∧ c = 0) ∧ Ext w w' := by
 have E := Ext.refl w;refine bL 10 func83 rfl rfl rfl rfl ?_;intro _ hret;refine aU ?_;refine bB rfl (fun Vq => ?_) (fun Vq => ?_)
 ·refine aU ?_;refine hret rfl rfl ?_;exact ⟨none, 0, 0, 3, rfl, fun h => (by rw [h] at Vq; cases Vq), fun _ => ⟨rfl, rfl, rfl, rfl⟩, E⟩
 have hok : ok = true := by cases ok <;> simp_all
 refine aU ?_;refine ag (lL (Φ := fun v w' => ∃ A k c, v = .slice A k c ∧ Ψ w' A k c ∧ Ext _ w') (xs := []) (vs := []) rfl hf hb hnm rfl (hp hok _ E) (fun _ _ ⟨A, k, c, h1, h2, h3⟩ => ⟨_, h1, A, k, c, rfl, h2, h3⟩)) rfl ?_;rintro _ _ ⟨A2, k2, c2, rfl, P2, ex⟩;replace E := E.ext ex;refine aU ?_;refine hret rfl rfl ?_;exact ⟨A2, k2, c2, 0, rfl, fun _ => ⟨rfl, P2⟩, fun h => (by rw [h] at hok; cases hok), E⟩
section
variable {l : cw} {p : Pack} {q : fU}
theorem rq (w : World) (H : eE w cs l) (hf : l.Fit) (ok : aI l) :
  Ct 164 #[.agg cs] w fun e w' => ∃ A' k c', e = .returned (.slice A' k c') ∧ Row w' w.heap.size 5 A' k c' ((lO l).map bv) ∧ Ext w w' := by
 have HL := H;have e1 : ng l = (lO l, 0) := by unfold ng; rw [if_pos ok]
 obtain ⟨h0, h1, h2, h4, h5, rfl, hs, b0, b1, b2, b4, b5⟩ := H;have E := Ext.refl w;refine ai 11 func164 rfl rfl rfl rfl ?_;intro _ hret;refine aU ?_;intro _ _ _ _ ex;replace E := E.ext ex;have Vq := E.size;refine aU ?_;refine aC func216 rfl (nc _ (HL.ext E) hf) ?_;rintro e _ ⟨A2, k2, c2, rfl, R2, ex⟩;replace E := E.ext ex;rw [e1] at R2;refine aU ?_;refine hret rfl ?_;exact ⟨A2, k2, c2, rfl, R2.lower Vq, E⟩
theorem nW (w : World) (H : dx w cs p) (hf : p.Fit) (ok : dk p) :
  Ct 88 #[.agg cs] w fun e w' => ∃ A' k c', e = .returned (.slice A' k c') ∧ Row w' w.heap.size 5 A' k c' ((me p).map bv) ∧ Ext w w' := by
 have HL := H.leaf;have hB := Kw hf.2.1;have h6 := hf.1;obtain ⟨i, h0, h1, h2, h4, h5, g, rfl, hs, a, b0, b1, b2, b4, b5, c⟩ := H;have la := a.1;have E := Ext.refl w;refine ai 14 func88 rfl rfl rfl rfl ?_;intro _ hret;refine aU ?_;intro _ _ B1 _ ex;replace E := E.ext ex;refine aU ?_;refine aC func163 rfl (mc none 0 0 2 1 [] _ (Bs.nil _ _) Om Om Om) ?_;rintro e _ ⟨A2, c2, rfl, R2, ex⟩;obtain ⟨E,B1⟩ := aZ ex E B1;refine aU ?_;refine aC func163 rfl (mc A2 _ c2 2 1 _ _ R2.bs Om Om Om) ?_;rintro e _ ⟨A3, c3, rfl, R3, ex⟩;obtain ⟨E,B1⟩ := aZ ex E B1;refine aU ?_;refine az Kr 9 rfl ?_; intro Vs ex Vt;obtain ⟨E,B1,R3⟩ := bF ex E B1 R3;refine zm [0, 1, 2, 4, 5] ?_;have Vq := E.size;refine bz 3 rfl func87 rfl (ir A3 i.A _ c3 i.n i.c _ _ _ R3.bs Om (Bs.ext a E) Om) ?_;rintro e _ ⟨_, _, _, rfl, R4, _, ex⟩;refine aU ?_;replace E := E.ext ex;have Vu := bE i.n; replace R4 := R4.lower Vq;refine bz 6 rfl func164 rfl (rq _ (HL.ext E) hf.2.1 ok.2.1.1) ?_;rintro e _ ⟨_, _, _, rfl, R5, ex⟩;refine aU ?_;obtain ⟨E,R4⟩ := aZ ex E R4;have Vv := R5.bs.1;have Vr := E.size;refine aL 7 Kr ?_; refine aQ rfl (aX rfl rfl bT R4 R5.at R5.len aJ Om Om Vr) rfl ?_;rintro _ _ ⟨A6, c6, rfl, R6, be, _, _⟩;refine ⟨.inl rfl, ?_⟩;replace E := E.trans be; have R7 := R6.cat;refine zm [8] ?_;refine hret rfl ?_;exact ⟨A6, _, c6, rfl, R7.congr rfl (by unfold me; rw [List.nil_append]; rfl), E⟩
theorem uq (w : World) (H : dx w cs p) (Vq : p.Small) :
  Ct 81 #[.agg cs] w fun e w' => ∃ A' k c', e = .returned (.slice A' k c') ∧ Row w' w.heap.size 5 A' k c' ((me p).map bv) ∧ Ext w w' := by
 have HL := H.leaf;have hf := Vq.fit;have hB := yV Vq.2.2;have h6 := Vq.1;obtain ⟨i, h0, h1, h2, h4, h5, g, rfl, hs, a, b0, b1, b2, b4, b5, c⟩ := H;have la := a.1;have E := Ext.refl w;refine ai 13 func81 rfl rfl rfl rfl ?_;intro _ hret;refine aU ?_;intro _ _ B1 _ ex;replace E := E.ext ex;refine aU ?_;refine az Kr 11 rfl ?_; intro Vs ex Vt;obtain ⟨E,B1⟩ := aZ ex E B1;refine zm [3, 4, 6, 7] ?_;refine bz 0 rfl func158 rfl (mn 1 _ Om) ?_;rintro e _ ⟨A2, c2, rfl, R2, ex⟩;replace E := E.ext ex;refine aU ?_;refine bz 1 rfl func158 rfl (mn 1 _ Om) ?_;rintro e _ ⟨A3, c3, rfl, R3, ex⟩;obtain ⟨E,R2⟩ := aZ ex E R2;refine aU ?_;refine bz 2 rfl func80 rfl (dS A2 A3 _ c2 _ c3 _ _ _ R2.bs Om R3.bs Om) ?_;rintro e _ ⟨A4, c4, rfl, R4, ex⟩;replace E := E.ext ex;refine aU ?_;refine bz 5 rfl func82 rfl (dZ i.A i.n i.c _ _ (Bs.ext a E) Om) ?_;rintro e _ ⟨A5, k5, c5, rfl, R5, _, ex⟩;refine aU ?_;obtain ⟨E,R4⟩ := aZ ex E R4;have Vu := bE i.n;refine bz 8 rfl func159 rfl (si _ (HL.ext E) hf.2.1) ?_;rintro e _ ⟨A6, k6, c6, rfl, R6, ex⟩;refine aU ?_;obtain ⟨E,R4,R5⟩ := bF ex E R4 R5;have Vv := R6.bs.1;have Vr := E.size;refine bz 9 rfl func122 rfl (fm A4 A5 A6 _ c4 k5 c5 k6 c6 _ _ _ _ R4.bs Om R5.bs Om R6.bs Om) ?_;rintro e _ ⟨A7, c7, rfl, R7, ex⟩;replace E := E.ext ex;refine zm [10] ?_;refine hret rfl ?_;exact ⟨A7, _, c7, rfl, (R7.lower Vr).congr rfl (by unfold me; rfl), E⟩
end
def Told (w : World) (ok : Prop) (xs : Lb) (A : Oa) (k : Nat) (z : Nat) : Prop := (ok → z = 0 ∧ Bs w A k xs) ∧ (¬ ok → z = 3 ∧ k = 0)
def xS : ByteArray := ⟨#[77, 76, 83, 32, 49, 46, 48, 32, 75, 101, 121, 80, 97, 99, 107, 97, 103, 101, 32, 82, 101, 102, 101, 114, 101, 110, 99, 101]⟩
theorem nS : xS.size ≤ 1048576 := by decide
def ik (p : Pack) : List UInt8 := Sha.sum (vec xS.data.toList ++ vec (Dv p))
section
variable {l : cw} {p : Pack} {q : fU}
theorem ED (w : World) (B : ao w g t cs) (H : dx w cs p) (hf : p.Fit) (ok : dk p) :
  Ct 142 #[.pointer (some ⟨g, 0, none⟩)] w fun e w' => ∃ A k c, e = .returned (.slice A k c) ∧ (Bs w' A k (me p) ∧ k ≤ c) ∧ Ext w w' := by
 have HP := H;obtain ⟨i, h0, h1, h2, h4, h5, gg, rfl, hs, a, b0, b1, b2, b4, b5, c⟩ := H;have E := Ext.refl w;refine ai 4 func142 rfl rfl rfl rfl ?_;intro _ hret;refine aU ?_;refine aC func88 rfl (nW _ (HP.ext E) hf ok) ?_;rintro e _ ⟨A2, k2, c2, rfl, R2, ex⟩;replace E := E.ext ex;refine aU ?_;refine hret rfl ?_;exact ⟨A2, k2, c2, rfl, ⟨R2.bs, R2.cap⟩, E⟩
theorem Fw (w : World) (B : ao w g t cs) (H : dx w cs p) (Vq : p.Small) (ok : dk p) :
  Ct 85 #[.pointer (some ⟨g, 0, none⟩)] w fun e w' => ∃ A k c, e = .returned (.slice A k c) ∧ Bn w.heap.size w' A k (ik p) ∧ Ext w w' := by
 have HP := H;have hf := Vq.fit;have hl := lP Vq;have h7 := Vq.2.1;obtain ⟨i, h0, h1, h2, h4, h5, gg, rfl, hs, a, b0, b1, b2, b4, b5, c⟩ := H;have lc := c.1;have E := Ext.refl w;refine ai 8 func85 rfl rfl rfl rfl ?_;intro _ hret;refine aU ?_;refine az Kr 7 rfl ?_; intro Vt ex Vu;obtain ⟨E,B⟩ := aZ ex E B;refine zm [0, 2, 3] ?_;refine bz 1 rfl func88 rfl (nW _ (HP.ext E) hf ok) ?_;rintro e _ ⟨A2, k2, c2, rfl, R2, ex⟩;refine aU ?_;replace E := E.ext ex;have Vv := R2.bs.1;refine bz 4 rfl func87 rfl (ir A2 gg.A k2 c2 gg.n gg.c _ _ _ R2.bs Om (Bs.ext c E) Om) ?_;rintro e _ ⟨A3, k3, c3, rfl, R3, _, ex⟩;refine aU ?_;replace E := E.ext ex;have Vw := bE gg.n;have Vr := E.size;refine bz 5 rfl func86 rfl (NR A3 k3 c3 xS _ _ R3.bs nS Om) ?_;rintro e _ ⟨A4, c4, rfl, ⟨H4, Vs⟩, ex⟩;replace E := E.ext ex;refine zm [6] ?_;refine hret rfl ?_;exact ⟨A4, 32, c4, rfl, Bn.lo ⟨H4, Vs⟩ Vr, E⟩
theorem lu (w : World) (H : dx w cs p) (hf : p.Fit) :
  Ct 69 #[.agg cs] w fun e w' => ∃ A k c z, e = .returned (.tuple #[.slice A k c, .int .u8 ((z : Nat) : Int)]) ∧ Told w' (dk p) (me p) A k z ∧ k ≤ c ∧ Ext w w' := by
 have HP := H;obtain ⟨i, h0, h1, h2, h4, h5, gg, rfl, hs, a, b0, b1, b2, b4, b5, c⟩ := H;have E := Ext.refl w;refine bL 10 func69 rfl rfl rfl rfl ?_;intro _ hret;refine aU ?_;intro _ Vq B1 _ ex;replace E := E.ext ex;refine aU ?_;refine aC func84 rfl (nk _ (HP.ext E) hf) ?_;rintro e _ ⟨rfl, ex⟩;obtain ⟨E,B1⟩ := aZ ex E B1;refine au 1 ?_;refine al (kr (xs := [.tmp 1]) (vs := [.pointer (some ⟨Vq, 0, none⟩)]) rfl) ?_;refine aC func83 rfl (xX (us := [.pointer (some ⟨Vq, 0, none⟩)]) (Ψ := fun w A k c => Bs w A k (me p) ∧ k ≤ c) _ func142 rfl rfl (fun hok w1 e1 => ED w1 (B1.ext e1) ((HP.ext E).ext e1) hf (of_decide_eq_true hok))) ?_;rintro e _ ⟨A3, k3, c3, z3, rfl, T3, N3, ex⟩;replace E := E.ext ex;refine aU ?_;refine hret rfl rfl ?_;exact ⟨A3, k3, c3, z3, rfl, ⟨fun o => ⟨(T3 (decide_eq_true o)).1, (T3 (decide_eq_true o)).2.1⟩, fun o => ⟨(N3 (decide_eq_false o)).1, (N3 (decide_eq_false o)).2.2.1⟩⟩, (by by_cases o : dk p; exact (T3 (decide_eq_true o)).2.2; have h := N3 (decide_eq_false o); omega), E⟩
theorem rz (w : World) (H : dx w cs p) (Vq : p.Small) :
  Ct 36 #[.agg cs] w fun e w' => ∃ A k c z, e = .returned (.tuple #[.slice A k c, .int .u8 ((z : Nat) : Int)]) ∧ Told w' (dk p) (ik p) A k z ∧ Nw w.heap.size w' A ∧ Ext w w' := by
 have HP := H;have hf := Vq.fit;obtain ⟨i, h0, h1, h2, h4, h5, gg, rfl, hs, a, b0, b1, b2, b4, b5, c⟩ := H;have E := Ext.refl w;refine bL 10 func36 rfl rfl rfl rfl ?_;intro _ hret;refine aU ?_;intro _ Vr B1 _ ex;replace E := E.ext ex;refine aU ?_;refine aC func84 rfl (nk _ (HP.ext E) hf) ?_;rintro e w2 ⟨rfl, ex⟩;obtain ⟨E,B1⟩ := aZ ex E B1;refine au 1 ?_;refine al (kr (xs := [.tmp 1]) (vs := [.pointer (some ⟨Vr, 0, none⟩)]) rfl) ?_;have Vs := E.size;refine aC func83 rfl (xX (us := [.pointer (some ⟨Vr, 0, none⟩)]) (Ψ := fun w2 A k c => Bn w.heap.size w2 A k (ik p)) _ func85 rfl rfl (fun hok w1 e1 => (Fw w1 (B1.ext e1) ((HP.ext E).ext e1) Vq (of_decide_eq_true hok)).mono fun _ _ ⟨A, k, c, h1, h2, h3⟩ => ⟨A, k, c, h1, h2.lo (Nat.le_trans Vs e1.size), h3⟩)) ?_;rintro e _ ⟨A3, k3, c3, z3, rfl, T3, N3, ex⟩;replace E := E.ext ex;refine aU ?_;refine hret rfl rfl ?_;exact ⟨A3, k3, c3, z3, rfl, ⟨fun o => ⟨(T3 (decide_eq_true o)).1, (T3 (decide_eq_true o)).2.1⟩, fun o => ⟨(N3 (decide_eq_false o)).1, (N3 (decide_eq_false o)).2.2.1⟩⟩, (by by_cases o : dk p; exact (T3 (decide_eq_true o)).2.2; intro b o' e; rw [(N3 (decide_eq_false o)).2.1] at e; cases e), E⟩
theorem mi (w : World) (H : dx w cs p) (Vq : p.Small) :
  Ct 35 #[.agg cs] w fun e w' => ∃ A' k c', e = .returned (.slice A' k c') ∧ Row w' w.heap.size 5 A' k c' ((Dv p).map bv) ∧ Ext w w' := by
 have HP := H;have hl := lP Vq;have h7 := Vq.2.1;obtain ⟨i, h0, h1, h2, h4, h5, gg, rfl, hs, a, b0, b1, b2, b4, b5, c⟩ := H;have lc := c.1;have E := Ext.refl w;refine ai 9 func35 rfl rfl rfl rfl ?_;intro _ hret;refine aU ?_;intro _ _ B1 _ ex;replace E := E.ext ex;refine aU ?_;refine az Kr 7 rfl ?_; intro Vs ex Vt;obtain ⟨E,B1⟩ := aZ ex E B1;refine zm [0, 2, 3] ?_;refine bz 1 rfl func81 rfl (uq _ (HP.ext E) Vq) ?_;rintro e _ ⟨A2, k2, c2, rfl, R2, ex⟩;refine aU ?_;replace E := E.ext ex;have Vu := R2.bs.1;refine bz 4 rfl func82 rfl (dZ gg.A gg.n gg.c _ _ (Bs.ext c E) Om) ?_;rintro e _ ⟨A3, k3, c3, rfl, R3, _, ex⟩;refine aU ?_;obtain ⟨E,R2⟩ := aZ ex E R2;have Vv := bE gg.n;have Vr := E.size;refine bz 5 rfl func80 rfl (dS A2 A3 k2 c2 k3 c3 _ _ _ R2.bs Om R3.bs Om) ?_;rintro e _ ⟨A4, c4, rfl, R4, ex⟩;replace E := E.ext ex;refine zm [6] ?_;refine hret rfl ?_;exact ⟨A4, _, c4, rfl, R4.lower Vr, E⟩
theorem ur (w : World) (H : dx w cs p) (Vq : p.Small) :
  Ct 11 #[.agg cs] w fun e w' => ∃ A' c', e = .returned (.slice A' 32 c') ∧ Bs w' A' 32 (ik p) ∧ Ext w w' := by
 have HP := H;have hl := za Vq;obtain ⟨i, h0, h1, h2, h4, h5, gg, rfl, hs, a, b0, b1, b2, b4, b5, c⟩ := H;have E := Ext.refl w;refine ai 6 func11 rfl rfl rfl rfl ?_;intro _ hret;refine aU ?_;intro _ _ _ _ ex;replace E := E.ext ex;refine aU ?_;refine aC func35 rfl (mi _ (HP.ext E) Vq) ?_;rintro e _ ⟨A2, k2, c2, rfl, R2, ex⟩;refine aU ?_;replace E := E.ext ex;have Vr := R2.bs.1;refine aC func34 rfl (AF A2 k2 c2 xS _ _ R2.bs nS Om) ?_;rintro e _ ⟨A3, c3, rfl, H3, ex⟩;replace E := E.ext ex;refine aU ?_;refine hret rfl ?_;exact ⟨A3, c3, rfl, H3, E⟩
end
def PF (z : Int) : Nat := (z % 18446744073709551616).toNat
theorem IQ (z : Int) : IntKind.u64.wrap z = ((PF z : Nat) : Int) := by
 have h : IntKind.u64.wrap z = z % 18446744073709551616 := by simp [IntKind.wrap, IntKind.bits, IntKind.signed]
 rw [h]; unfold PF; omega
theorem Pw (z : Int) : PF z < 18446744073709551616 := by unfold PF; omega
variable {q : fU}
theorem nL (z : Int) (w : World) : Ct 123 #[.int .i64 z] w fun e w' => ∃ A' c', e = .returned (.slice A' 4 c') ∧ Row w' w.heap.size 5 A' 4 c' ((be 4 (PF z)).map bv) ∧ Ext w w' := by refine ai 6 func123 rfl rfl rfl rfl ?_;intro _ hret;refine au 8 ?_;refine al (bo rfl Tn.u Tn.u (IQ z)) ?_;refine aC func56 rfl (jk 4 (PF z) _ Om (Pw z)) ?_;rintro e _ ⟨A1, c1, rfl, R1, ex⟩;refine aU ?_;refine hret rfl ?_;exact ⟨A1, c1, rfl, R1, ex⟩
end
section
open Go.RowKit
def rl {α : Type} (R : World → Array Value → α → Prop) (sz : Nat) (w : World) (A : Oa) (n : Nat) (xs : List α) : Prop :=
 xs.length = n ∧ ∃ vs : List Value, vs.length = n * sz ∧ At w A vs ∧ ∀ i x, xs[i]? = some x → R w ((vs.drop (i * sz)).take sz).toArray x
section
variable {α : Type} {R : World → Array Value → α → Prop} {xs : List α}
theorem rl.ext (h : rl R sz w A n xs) (e : Ext w w') (hR : ∀ cs x, R w cs x → R w' cs x) : rl R sz w' A n xs := by obtain ⟨h1, vs, h2, h3, h4⟩ := h;exact ⟨h1, vs, h2, h3.ext e, fun i x hx => hR _ _ (h4 i x hx)⟩
theorem rl.nil (R : World → Array Value → α → Prop) (sz : Nat) (w : World) (A : Oa) : rl R sz w A 0 [] := ⟨rfl, [], by simp, .inl rfl, fun i x hx => by simp at hx⟩
theorem rl.get (h : rl R sz w A n xs) (hz : 0 < sz) (hi : i < n) :
  ∃ b off cs x, A = some ⟨b, off, none⟩ ∧ b < w.heap.size ∧ xs[i]? = some x ∧ cs.size = sz ∧ R w cs x ∧ ∀ j v, cs[j]? = some v → w.cell? ⟨b, off + (i * sz + j), none⟩ = some v := by
 obtain ⟨h1, vs, h2, h3, h4⟩ := h
 obtain ⟨x, hx⟩ : ∃ x, xs[i]? = some x := ⟨xs[i]'Om, List.getElem?_eq_getElem _⟩
 have hmul : (i + 1) * sz ≤ n * sz := Nat.mul_le_mul_right sz Om;rw [Nat.add_mul, Nat.one_mul] at hmul
 rcases h3 with h0 | ⟨b, off, hA, hc⟩
 ·rw [h0] at h2; simp at h2; omega
 have hcell : ∀ j v, ((vs.drop (i * sz)).take sz).toArray[j]? = some v → w.cell? ⟨b, off + (i * sz + j), none⟩ = some v := fun j v hv => by
  have hj : j < sz := by
   rcases Nat.lt_or_ge j sz with h | h
   ·exact h
   rw [Array.getElem?_eq_none So] at hv; cases hv
  rw [List.getElem?_toArray, List.getElem?_take_of_lt hj, List.getElem?_drop] at hv;exact hc _ _ hv
 have hs : ((vs.drop (i * sz)).take sz).toArray.size = sz := by simp; omega
 obtain ⟨v, hv⟩ : ∃ v, ((vs.drop (i * sz)).take sz).toArray[0]? = some v := ⟨_, Array.getElem?_eq_getElem (by rw [hs]; exact hz)⟩
 exact ⟨b, off, _, x, hA, dX (hcell 0 v hv), hx, hs, h4 i x hx, hcell⟩
theorem rl.Ck (h : rl R sz w A n xs) (hz : 0 < sz) (hi : i < n) :
  ∃ b off cs x, A = some ⟨b, off, none⟩ ∧ b < w.heap.size ∧ xs[i]? = some x ∧ cs.size = sz ∧ R w cs x ∧ ∀ j v, cs[j]? = some v → w.cell? ⟨b, off + i * sz + j, none⟩ = some v := by
 obtain ⟨b, off, cs, x, h1, h2, h3, h4, h5, h6⟩ := h.get hz hi;exact ⟨b, off, cs, x, h1, h2, h3, h4, h5, fun j v hv => by rw [Nat.add_assoc]; exact h6 j v hv⟩
end
theorem cH {b j : Nat} {k : IntKind} {a : Int} (e1 : A = some ⟨b, off, none⟩) (hx : ev L x = some (.slice A n m)) (hy : ev L y = some (.int k a)) (hu : P.underlying t = some (.slice e)) (hs : (P.info? e).map (·.size) = some s) (ha : a = (j : Int)) (hj : j < n) :
  Y P L w (.indexAddr t x y) ty (.pointer (some ⟨b, off + j * s, none⟩)) := by
 subst e1;exact JX hx hy hu hs ha hj
end
section
open Go.RowKit
open Nd
structure Qf where
 enc : List UInt8
 box : List UInt8
structure Pe where
 box : List UInt8
 to : List Qf
structure RU where
 leaf : cw
 steps : List Pe
structure nP where
 ref : List UInt8
 prop : fU
structure ti where
 items : List nP
 has : Bool
 way : RU
def O9 (h : Hd) : Value := .slice h.A h.n h.c
def fK (h0 h1 : Hd) : Array Value := #[.slice h0.A h0.n h0.c, .slice h1.A h1.n h1.c]
/-! Which may be, and which are no more than is looked at. -/
def Qf.Small (b : Qf) : Prop := b.enc.length ≤ 100 ∧ b.box.length ≤ 100
instance (b : Qf) : Decidable b.Small := by unfold Qf.Small; infer_instance
def Pe.Small (s : Pe) : Prop := s.box.length ≤ 100 ∧ s.to.length ≤ 20 ∧ ∀ b ∈ s.to, b.Small
instance (s : Pe) : Decidable s.Small := by unfold Pe.Small; infer_instance
def nP.Small (x : nP) : Prop := x.ref.length ≤ 100 ∧ x.prop.Small
instance (x : nP) : Decidable x.Small := by unfold nP.Small; infer_instance
def ti.Small (c : ti) : Prop := c.items.length ≤ 70 ∧ c.way.steps.length ≤ 20 ∧ (⟨0, c.way.leaf, EO.zero⟩ : Node).Small ∧ (∀ x ∈ c.items, x.Small) ∧ ∀ s ∈ c.way.steps, s.Small
instance (c : ti) : Decidable c.Small := by unfold ti.Small; infer_instance
end
section
open Go.RowKit
theorem aE.IF (h : w.grownBy w' o) : aE o.toList w w' :=
 ⟨h.os, h.tape, h.output, h.size, fun k hk hn => h.block k hk fun e => hn (by rw [← e]; simp)⟩
end
section
open Go.RowKit
attribute [local irreducible] Y Ef WL WC WK WQ WM cv WN WF cZ
open Nd Wire
structure uj where
 group : List UInt8
 epoch : Nat
 frm : Int
 kind : Nat
 prop : fU
 com : ti
 sig : List UInt8
 tag : List UInt8
 member : List UInt8
def uj.Small (m : uj) : Prop := m.group.length ≤ 200 ∧ m.prop.Small ∧ m.com.Small ∧ m.sig.length ≤ 100 ∧ m.tag.length ≤ 100 ∧ m.member.length ≤ 100
instance (m : uj) : Decidable m.Small := by unfold uj.Small; infer_instance
/-! Its bytes. -/
end
section
open Go.ChangeShapes Go.WideShapes Go.ChangeAt Go.RowKit
variable {H : Type} {enc : TypeId × Value → H} {held : Bool}
theorem glue {α : Type} (cs : List α) (o k : Nat) : cs.drop o = (cs.drop o).take k ++ cs.drop (o + k) := by rw [← List.drop_drop, List.take_append_drop]
theorem Ig {cs : List Value} {x : DataW H × List MemPlace} (h : DataW.trod enc Tryz.prog W base spare held fuel 3 cs = some x) : ∃ z : Int, cs = [.int .i64 z] ∧ -9223372036854775808 ≤ z ∧ z ≤ 9223372036854775807 := by
  cases fuel with
  | zero => simp [DataW.trod] at h
  | succ fuel =>
    simp only [DataW.trod, Tryz.underlying3] at h
    split at h <;> first | (rename_i hk; cases hk; done) | (rename_i hk _; cases hk; done) | skip
    all_goals first
      | (cases h; done)
      | (split at h
         · rename_i k Vr k2 z Vq hw
           injection Vq with Vq
           injection Vq with Vq
           subst Vq
           obtain ⟨rfl, hw⟩ := hw
           exact ⟨z, rfl, by simpa [Lit.wf, IntKind.min, IntKind.max, IntKind.bits, IntKind.signed] using hw⟩
         cases h)
theorem vM (x : Addr) (i j : Nat) : (x.add i).add j = x.add (i + j) := by unfold Addr.add;grind
theorem GQ {α : Type} {R : World → Array Value → α → Prop} (hu : Tryz.prog.underlying t = some (.slice e)) (hc : Tryz.prog.cellsOf e = sz)
    (each : ∀ (fuel : Nat) (cs : List Value) (x : DataW H × List MemPlace), DataW.trod enc Tryz.prog W base spare held fuel e cs = some x → ∃ v : α, R W cs.toArray v) {cs : List Value} {x : DataW H × List MemPlace} (h : DataW.trod enc Tryz.prog W base spare held fuel t cs = some x) : ∃ a n c xs, cs = [.slice a n c] ∧ rl R sz W a n xs ∧ n ≤ maxLen := by
  rcases DataW.trod_slice hu h with ⟨hcs, _⟩ | ⟨x, l, c, elems, rest, n, _, hcs, _, _, hl, hm, hlen, hel, _, _⟩
  · exact ⟨none, 0, 0, [], hcs, rl.nil _ _ _ _, by omega⟩
  have ev : ∀ i, i < l → ∃ q : List Value × α, q.1.length = sz ∧ (∀ j, j < sz → W.cell? (x.add (i * sz + j)) = q.1[j]?) ∧ R W q.1.toArray q.2 := fun i hi => by have hE := hel i hi;rw [hc, List.getElem?_eq_getElem Om] at hE;simp only [Option.bind_eq_some_iff] at hE;obtain ⟨c1, Vq, hy⟩ := hE;obtain ⟨_, q1, q2⟩ := World.cells?_some Vq;obtain ⟨v, hv⟩ := each _ _ _ hy;exact ⟨(c1, v), q1, fun j hj => by rw [← q2 j hj, vM], hv⟩
  obtain ⟨qs, hql, hq⟩ := qQ l ev
  have hflat : ∀ (ls : List (List Value × α)), (∀ q ∈ ls, q.1.length = sz) → (ls.flatMap (·.1)).length = ls.length * sz ∧ ∀ i j, j < sz → ∀ h : i < ls.length, (ls.flatMap (·.1))[i * sz + j]? = (ls[i]).1[j]? := by
    intro ls
    induction ls with
    | nil => simp_all
    | cons q ls ih =>
      intro hall
      obtain ⟨h1, h2⟩ := ih fun q hq => hall q (List.mem_cons_of_mem _ hq)
      have Vr := hall q List.mem_cons_self
      refine ⟨by rw [List.flatMap_cons, List.length_append, h1, Vr, List.length_cons, Nat.add_mul]; omega, fun i j hj hi => ?_⟩
      rw [List.flatMap_cons]
      cases i with
      | zero => grind
      | succ i =>
        rw [Nat.add_mul, Nat.one_mul, List.getElem?_append_right Om, show i * sz + sz + j - q.1.length = i * sz + j by omega, h2 i j hj (by simpa using hi)]
        rfl
  have hall : ∀ q ∈ qs, q.1.length = sz := fun q Vs => by obtain ⟨i, hi, rfl⟩ := List.getElem_of_mem Vs;grind
  obtain ⟨f1, f2⟩ := hflat qs hall;refine ⟨some x, l, c, qs.map (·.2), hcs, ⟨by simpa using hql, qs.flatMap (·.1), by rw [f1, hql], At.tq fun j u hu => ?_, fun i v hv => ?_⟩, by omega⟩
  · have hjl : j < l * sz := by grind
    have hsz : 0 < sz := Nat.pos_of_ne_zero fun e => by grind
    have hd : j / sz < l := Nat.div_lt_of_lt_mul (by rwa [Nat.mul_comm]);have hmd := Nat.mod_lt j hsz;have hj : j / sz * sz + j % sz = j := by rw [Nat.mul_comm]; exact Nat.div_add_mod j sz
    grind
  rw [List.getElem?_map] at hv
  cases hi : qs[i]? with
  | none => simp [hi] at hv
  | some q =>
    simp only [hi, Option.map_some, Option.some.injEq] at hv
    subst hv
    obtain ⟨hlt, e⟩ := List.getElem?_eq_some_iff.1 hi
    have hqi := hq i hlt
    rw [e] at hqi
    have : ((qs.flatMap (·.1)).drop (i * sz)).take sz = q.1 := by
      apply List.ext_getElem?;intro j;by_cases hj : j < sz
      · rw [List.getElem?_take_of_lt hj, List.getElem?_drop, f2 i j hj hlt, e]
      grind
    grind
theorem rW {cs : List Value} {o : Nat} (hk : k = 1) (h : (cs.drop o).take k = [v]) : cs.drop o = v :: cs.drop (o + 1) := by subst hk;rw [glue cs o 1, h]; rfl
theorem MR {cs : List Value} {o : Nat} {V : Array Value} (hk : k = m) (h : ((cs.drop o).take k).toArray = V) : cs.drop o = V.toList ++ cs.drop (o + m) := by subst hk;rw [glue cs o k, ← h]
theorem Kg {cs : List Value} (h : cs.length = n) : cs.drop n = [] := List.drop_eq_nil_of_le Om
end
section
open Go.RowKit
attribute [local irreducible] Y Ef WL WC WK WQ WM cv WN WF cZ
open Nd Wire
instance (c : Ctx) : Decidable c.Small := by unfold Ctx.Small; infer_instance
variable {m : uj} {c : Ctx}
/-! The reference. -/
theorem tR (w : World) (H : gP w ds c) (he : c.ep < 18446744073709551616) :
  Ct 15 #[.agg ds] w fun e w' => e = .returned (.bool (decide c.Small)) ∧ Ext w w' := by
 obtain ⟨A1, A2, A3, n1, d1, n2, d2, n3, d3, rfl, H1, H2, H3⟩ := H;have m1 := H1.1; have m2 := H2.1; have m3 := H3.1;have E := Ext.refl w;refine ai 19 Tryz.func15 rfl rfl rfl rfl ?_;intro _ hret;refine aU ?_;intro w1 g1 (B1 : ao _ _ _ (Fo A1 A2 A3 n1 d1 n2 d2 n3 d3 c.ep)) Vq ex;replace E := E.ext ex;refine au 9 ?_;refine bf (aY rfl) rfl (fun q0 => ?_) (fun q0 => ?_)
 ·refine au 5 ?_;refine bf (aY rfl) rfl (fun q1 => ?_) (fun q1 => ?_)
  ·refine aU ?_;refine hret rfl ?_;exact ⟨dM ⟨fun h => ⟨by omega, by omega, by omega, he⟩, fun h => by have := h.2.2.1; omega⟩, E⟩
  refine aU ?_;refine hret rfl ?_;exact ⟨aR fun h => by have := h.2.1; omega, E⟩
 refine aU ?_;refine hret rfl ?_;exact ⟨aR fun h => by have := h.1; omega, E⟩
end
section
open Go.RowKit Tryz
attribute [local irreducible] Y Ef WL WC WK WQ WM cv WN WF cZ
open Nd Wire
theorem Ng {a b : Pack} : a = b ↔ a.init = b.init ∧ a.leaf = b.leaf ∧ a.sig = b.sig := by
 constructor
 ·rintro rfl; simp
 cases a; cases b; simp_all
instance (a b : Pack) : Decidable (a = b) := decidable_of_iff _ Ng.symm
theorem Nj {a b : fU} : a = b ↔ a.kind = b.kind ∧ a.pack = b.pack ∧ a.leaf = b.leaf ∧ a.at_ = b.at_ := by
 constructor
 ·rintro rfl; simp
 cases a; cases b; simp_all
instance (a b : fU) : Decidable (a = b) := decidable_of_iff _ Nj.symm
theorem QP {a b : Qf} : a = b ↔ a.enc = b.enc ∧ a.box = b.box := by
 constructor
 ·rintro rfl; simp
 cases a; cases b; simp_all
instance : DecidableEq Qf := fun a b => decidable_of_iff _ QP.symm
theorem Pu {a b : Pe} : a = b ↔ a.box = b.box ∧ a.to = b.to := by
 constructor
 ·rintro rfl; simp
 cases a; cases b; simp_all
instance : DecidableEq Pe := fun a b => decidable_of_iff _ Pu.symm
theorem N8 {a b : nP} : a = b ↔ a.ref = b.ref ∧ a.prop = b.prop := by
 constructor
 ·rintro rfl; simp
 cases a; cases b; simp_all
instance : DecidableEq nP := fun a b => decidable_of_iff _ N8.symm
theorem Rm {a b : ti} : a = b ↔ a.items = b.items ∧ a.has = b.has ∧ a.way.leaf = b.way.leaf ∧ a.way.steps = b.way.steps := by
 constructor
 ·rintro rfl; simp
 obtain ⟨i, h, l, s⟩ := a;obtain ⟨i', h', l', s'⟩ := b;rintro ⟨h1, h2, h3, h4⟩;simp only at h1 h2 h3 h4;subst h1; subst h2; subst h3; subst h4; rfl
instance (a b : ti) : Decidable (a = b) := decidable_of_iff _ Rm.symm
def Ctx.Fit (c : Ctx) : Prop := c.grp.length ≤ 1000000 ∧ c.tree.length ≤ 1000000 ∧ c.trans.length ≤ 1000000
def oH (a b : uj) : Prop := a.group = b.group ∧ a.epoch = b.epoch ∧ a.frm = b.frm ∧ a.kind = b.kind ∧ a.prop = b.prop ∧ a.com = b.com
instance (a b : uj) : Decidable (oH a b) := by unfold oH; infer_instance
theorem MW {a b : uj} : a = b ↔ oH a b ∧ a.sig = b.sig ∧ a.tag = b.tag ∧ a.member = b.member := by
 unfold oH;constructor
 ·rintro rfl; simp
 cases a; cases b; simp_all
instance (a b : uj) : Decidable (a = b) := decidable_of_iff _ MW.symm
theorem Le {a b : Ctx} : a = b ↔ a.grp = b.grp ∧ a.ep = b.ep ∧ a.tree = b.tree ∧ a.trans = b.trans := by
 constructor
 ·rintro rfl; simp
 cases a; cases b; simp_all
instance (a b : Ctx) : Decidable (a = b) := decidable_of_iff _ Le.symm
theorem uw {a b : Ctx} (w : World) (H : gP w cs a) (K : gP w ds b) (hf : a.Fit) (hg : b.Fit) :
  Ct 64 #[.agg cs, .agg ds] w fun e w' => e = .returned (.bool (decide (a = b))) ∧ Ext w w' := by
 obtain ⟨A1, A2, A3, n1, d1, n2, d2, n3, d3, rfl, H1, H2, H3⟩ := H;obtain ⟨Vq, Vr, Vs, m1, e1, m2, e2, m3, e3, rfl, Q1, Q2, Q3⟩ := K;have i1 := H1.1; have i2 := H2.1; have i3 := H3.1; have j1 := Q1.1; have j2 := Q2.1; have j3 := Q3.1;obtain ⟨f1, f2, f3⟩ := hf;obtain ⟨g1, g2, g3⟩ := hg;have E := Ext.refl w;refine ai 31 func64 rfl rfl rfl rfl ?_;intro _ hret;refine aU ?_;intro w1 g1 (B1 : ao _ _ _ (Fo A1 A2 A3 n1 d1 n2 d2 n3 d3 a.ep)) Vt ex;replace E := E.ext ex;refine aU ?_;intro w2 g2 (B2 : ao _ _ _ (Fo Vq Vr Vs m1 e1 m2 e2 m3 e3 b.ep)) Vu ex;obtain ⟨E,B1⟩ := aZ ex E B1;refine aU ?_;refine aC func26 rfl (lM (Bs.ext H1 E) (Bs.ext Q1 E) Om Om) ?_;rintro e _ ⟨rfl, ex⟩;obtain ⟨E,B1,B2⟩ := bF ex E B1 B2;refine au 1 ?_;refine bf (aY rfl) rfl (fun q0 => ?_) (fun q0 => ?_)
 ·refine au 6 ?_;refine bf (aY rfl) rfl (fun q1 => ?_) (fun q1 => ?_)
  ·refine aU ?_;refine fJ 17 rfl rfl func26 rfl rfl rfl (lM (Bs.ext H2 E) (Bs.ext Q2 E) Om Om) rfl ?_;rintro e _ ⟨rfl, ex⟩;obtain ⟨E,B1,B2⟩ := bF ex E B1 B2;refine au 2 ?_;refine bf (aY rfl) rfl (fun q2 => ?_) (fun q2 => ?_)
   ·refine aU ?_;refine fJ 24 rfl rfl func26 rfl rfl rfl (lM (Bs.ext H3 E) (Bs.ext Q3 E) Om Om) rfl ?_;rintro e _ ⟨rfl, ex⟩;replace E := E.ext ex;refine aU ?_;refine hret rfl ?_;exact ⟨dM ⟨fun h => Le.2 ⟨q0, by omega, q2, h⟩, fun h => by rw [h]⟩, E⟩
   refine aU ?_;refine hret rfl ?_;exact ⟨aR fun h => q2 (by rw [h]), E⟩
  refine aU ?_;refine hret rfl ?_;exact ⟨aR fun h => q1 (by rw [h]), E⟩
 refine aU ?_;refine hret rfl ?_;exact ⟨aR fun h => q0 (by rw [h]), E⟩
end
section
open Go.RowKit
namespace M20
open Wire Nd
/-! Each thing in its turn. -/
def dq (k n : Nat) (s : St) : St := match (eB k s).2 with
 | .ok r => if (eB k s).1 = n then .ok r else .error 3
 | .error c => .error c
def gZ (s : St) : Bool × St := match (eB 1 s).2 with
 | .ok r => if 1 < (eB 1 s).1 then (false, .error 3) else (decide ((eB 1 s).1 = 1), .ok r)
 | .error c => (false, .error c)
/-! There. -/
end M20
end
section
open Go.RowKit
attribute [local irreducible] Y Ef WL WC WK WQ WM cv WN WF cZ
namespace M20
open Wire Nd
def vU (s : St) : Ctx × St :=
 let g := dh (dq 2 1 (dq 2 1 s))
 let e := eB 8 g.2
 let t := dh e.2
 let u := dh t.2
 (⟨g.1, e.1, t.1, u.1⟩, dq 1 0 u.2)
end M20
open M20
end
section
open Go.RowKit
namespace M20
open Wire Nd
/-! Back: what is read stands there. -/
theorem Jf (t : St) : (∃ c, t = .error c) ∨ ∃ q, t = .ok q := by
 cases t with
 | error c => exact .inl ⟨c, rfl⟩
 | ok q => exact .inr ⟨q, rfl⟩
/-! Messages. -/
end M20
def jJ (w : World) (base : Nat) (e : TypeId) (sz : Nat) (A : Oa) (n c : Nat) (xs : List Value) : Prop := w.ownsRow base e sz (.slice A n c) n xs
section
variable {xs : List Value}
theorem jJ.empty (w : World) (base : Nat) (e : TypeId) (sz : Nat) : jJ w base e sz none 0 0 [] := ⟨by simp, .inl ⟨rfl, rfl⟩⟩
theorem jJ.len (h : jJ w base e sz A n c xs) : xs.length = n * sz := h.1
theorem jJ.cap (h : jJ w base e sz A n c xs) : n ≤ c := by
 rcases h.2 with ⟨hv, rfl⟩ | ⟨g, cap, cur, hv, _, _, hc, _⟩
 ·omega
 injection hv with _ _ hv; omega
theorem jJ.at (h : jJ w base e sz A n c xs) : At w A xs := by
 have h0 := h
 rcases h.2 with ⟨hv, rfl⟩ | ⟨g, cap, cur, hv, _⟩
 ·have := h.1;exact .inl (List.eq_nil_of_length_eq_zero Om)
 injection hv with hA
 subst hA;exact At.tq (World.ownsRow.cells h0 rfl)
theorem jJ.kp (h : jJ w base e sz A n c xs) (hS : ∀ g ∈ S, g < base) : Kp w.heap.size S (fun w => jJ w base e sz A n c xs) w := by
 refine ⟨Nat.le_refl _, fun w2 hw => ⟨h.1, ?_⟩⟩
 rcases h.2 with h0 | ⟨g, cap, cur, hv, hg, hb, r⟩
 ·exact .inl h0
 have hlt : g < w.heap.size := (Array.getElem?_eq_some_iff.1 hb).1;exact .inr ⟨g, cap, cur, hv, hg, (hw g hlt fun hm => by grind).trans hb, r⟩
theorem jJ.bk (h : jJ w base e sz A n c xs) (k : aE S w w') (hS : ∀ g ∈ S, g < base := by first | (simp; done) | (simp; omega)) : jJ w' base e sz A n c xs := ((h.kp hS).bk k (fun _ h => h)).out
theorem jJ.mU (h : jJ w base e sz A n c xs) : ∀ g ∈ (Value.slice A m c).ownBlock.toList, base ≤ g ∧ g < w.heap.size := by
 intro g hg;have h0 := h
 rcases h.2 with ⟨hv, _⟩ | ⟨g', cap, cur, hv, hb, hk, _⟩
 ·injection hv with hA; subst hA; simp [Value.ownBlock] at hg
 injection hv with hA; subst hA
 simp only [Value.ownBlock, Option.toList_some, List.mem_singleton] at hg;grind
end
structure vT (P : Program) (t e : TypeId) (sz bytes : Nat) : Prop where
 ht : P.underlying t = some (.slice e)
 pos : 0 < sz
 row : ∃ (i : TypeInfo) (z : Value), P.info? e = some i ∧ i.zero = some z ∧ i.size = sz ∧ i.bytes = bytes ∧ z.cells.size = sz
theorem vT.of {bytes : Nat} (ht : P.underlying t = some (.slice e)) (h : (P.info? e).map (fun i => (i.zero, i.size, i.bytes)) = some (some z, sz, bytes)) (hz : z.cells.size = sz) (hp : 0 < sz) : vT P t e sz bytes := by obtain ⟨i, h1, h2, h3, h4⟩ := info_parts h;exact ⟨ht, hp, i, z, h1, h2, h3, h4, hz⟩
def TC (w : World) (base : Nat) (e : TypeId) (sz : Nat) (A : Oa) (n c : Nat) (xs : List Value) (v : Value) (w' : World) : Prop :=
 ∃ A' c', v = .slice A' (n + 1) c' ∧ jJ w' base e sz A' (n + 1) c' xs ∧ w.grownBy w' (Value.slice A n c).ownBlock ∧ ((Value.slice A' (n + 1) c').ownBlock = (Value.slice A n c).ownBlock ∨ (Value.slice A' (n + 1) c').ownBlock = some w.heap.size)
section
theorem xc {c2 bytes : Nat} {xs : List Value} (hx : ev L x = some (.slice A n c)) (hy : ev L y = some (.slice (some ⟨g, 0, none⟩) 1 c2)) (hE : vT P t e sz bytes) (hown : jJ w base e sz A n c xs) (hB : ao w g t2 cs) (hl : cs.size = sz) (h1 : cs.all (·.oneCell') = true)
  (hlen : (n + 1) * bytes ≤ 140737488355328) (Vr : n + 1 ≤ 140737488355328) (hbase : base ≤ w.heap.size) : Ef P L w (.call { callee := .builtin .append, args := #[x, y], argTypes := #[t, t] }) ty (TC w base e sz A n c (xs ++ cs.toList)) := Ef.run fun ρ hρ => by
 obtain ⟨ht, hp, i, z, hi, hz, hs, hb, hzs⟩ := hE
 have hnews : ∀ j u, cs.toList[j]? = some u → w.cell? ((⟨g, 0, none⟩ : Addr).add j) = some u := fun j u hu => by rw [Addr.add_plain, Nat.zero_add]; exact hB.get (by simpa using hu)
 obtain ⟨v', w', hrun, h2, h3, _, h5⟩ := run_append_own_at (P := P) w base t ty e i z sz bytes ht hi hz hs hb hzs hp (.slice A n c) n xs hown ⟨g, 0, none⟩ 1 c2 cs.toList (by simp [hl]) hnews (fun u hu => by have := Array.all_eq_true'.1 h1 u (by simpa using hu); exact this) (by unfold maxLen; omega) hlen hbase;obtain ⟨g', Vq, rfl, _, _⟩ := h2.form Om;exact ⟨_, w', ⟨_, _, rfl, h2, h3, h5⟩, fun _ _ _ _ => by simp [execOp, resolve, invoke, builtin, hρ _ _ hx, hρ _ _ hy, hrun]⟩
end
variable {Φ Ψ : World → Prop}
theorem Kp.um (h : Kp N S Φ w) (h1 : N ≤ M) (h2 : M ≤ w.heap.size) : Kp M S Φ w := ⟨h2, fun w2 hw => h.2 w2 fun k hk hn => hw k Om hn⟩
theorem Kp.and (h : Kp N S Φ w) (k : Kp N S Ψ w) : Kp N S (fun w => Φ w ∧ Ψ w) w := ⟨h.1, fun w2 hw => ⟨h.2 w2 hw, k.2 w2 hw⟩⟩
end
section
open Go.RowKit
open Nd Wire
structure jq where
 ctx : Ctx
 tag : List UInt8
 frm : Int
 sig : List UInt8
structure lB where
 ref : List UInt8
 enc : List UInt8
 box : List UInt8
structure kg where
 guests : List lB
 info : List UInt8
def Ctx.zero : Ctx := ⟨[], 0, [], []⟩
def jq.zero : jq := ⟨Ctx.zero, [], 0, []⟩
def lB.zero : lB := ⟨[], [], []⟩
def kg.zero : kg := ⟨[], []⟩
theorem JM {a b : jq} : a = b ↔ a.ctx = b.ctx ∧ a.tag = b.tag ∧ a.frm = b.frm ∧ a.sig = b.sig := by
 constructor
 ·grind
 rintro ⟨_, _, _, _⟩; cases a; cases b; simp_all
theorem PI {a b : lB} : a = b ↔ a.ref = b.ref ∧ a.enc = b.enc ∧ a.box = b.box := by
 constructor
 ·grind
 rintro ⟨_, _, _⟩; cases a; cases b; simp_all
theorem Qo {a b : kg} : a = b ↔ a.guests = b.guests ∧ a.info = b.info := by
 constructor
 ·grind
 rintro ⟨_, _⟩; cases a; cases b; simp_all
instance (a b : jq) : Decidable (a = b) := decidable_of_iff _ JM.symm
instance (a b : lB) : Decidable (a = b) := decidable_of_iff _ PI.symm
instance : DecidableEq lB := fun a b => inferInstance
instance (a b : kg) : Decidable (a = b) := decidable_of_iff _ Qo.symm
def Ez (g : Hd) (ep : Nat) (t u : Hd) : Array Value := #[.slice g.A g.n g.c, .int .u64 (ep : Int), .slice t.A t.n t.c, .slice u.A u.n u.c]
def oY (g : Hd) (ep : Nat) (t u tg : Hd) (z : Int) (sg : Hd) : Array Value := #[.slice g.A g.n g.c, .int .u64 (ep : Int), .slice t.A t.n t.c, .slice u.A u.n u.c, .slice tg.A tg.n tg.c, .int .i64 z, .slice sg.A sg.n sg.c]
def fx (a b c : Hd) : Array Value := #[.slice a.A a.n a.c, .slice b.A b.n b.c, .slice c.A c.n c.c]
def Iq (B : Hd → List UInt8 → Prop) (cs : Array Value) (x : Ctx) : Prop := ∃ g t u, cs = Ez g x.ep t u ∧ x.ep < 18446744073709551616 ∧ B g x.grp ∧ B t x.tree ∧ B u x.trans
def jB (B : Hd → List UInt8 → Prop) (cs : Array Value) (x : jq) : Prop :=
 ∃ g t u tg sg, cs = oY g x.ctx.ep t u tg x.frm sg ∧ x.ctx.ep < 18446744073709551616 ∧ (-9223372036854775808 ≤ x.frm ∧ x.frm ≤ 9223372036854775807) ∧ B g x.ctx.grp ∧ B t x.ctx.tree ∧ B u x.ctx.trans ∧ B tg x.tag ∧ B sg x.sig
def IW (B : Hd → List UInt8 → Prop) (cs : Array Value) (x : lB) : Prop := ∃ a b c, cs = fx a b c ∧ B a x.ref ∧ B b x.enc ∧ B c x.box
def fX (w : World) (cs : Array Value) (x : jq) : Prop := jB (py w) cs x
def DC (w : World) (cs : Array Value) (x : lB) : Prop := IW (py w) cs x
section
variable {B B' : Hd → List UInt8 → Prop}
theorem jB.imp {x : jq} (h : jB B cs x) (f : ∀ h xs, B h xs → B' h xs) : jB B' cs x := by obtain ⟨g, t, u, tg, sg, e, he, hz, a, b, c, d, k⟩ := h;exact ⟨g, t, u, tg, sg, e, he, hz, f _ _ a, f _ _ b, f _ _ c, f _ _ d, f _ _ k⟩
theorem IW.imp {x : lB} (h : IW B cs x) (f : ∀ h xs, B h xs → B' h xs) : IW B' cs x := by obtain ⟨a, b, c, e, h1, h2, h3⟩ := h;exact ⟨a, b, c, e, f _ _ h1, f _ _ h2, f _ _ h3⟩
theorem Iq.at {x : Ctx} (h : Iq (py w) cs x) : gP w cs x := by obtain ⟨g, t, u, e, he, a, b, c⟩ := h;exact ⟨g.A, t.A, u.A, g.n, g.c, t.n, t.c, u.n, u.c, e, a, b, c⟩
theorem jB.ctx {x : jq} (h : jB B cs x) : Iq B ((cs.toList.drop 0).take 4).toArray x.ctx := by obtain ⟨g, t, u, tg, sg, rfl, he, hz, a, b, c, d, k⟩ := h;exact ⟨g, t, u, rfl, he, a, b, c⟩
theorem fX.ext {x : jq} (h : fX w cs x) (e : Ext w w') : fX w' cs x := jB.imp h fun _ _ b => Bs.ext b e
theorem DC.ext {x : lB} (h : DC w cs x) (e : Ext w w') : DC w' cs x := IW.imp h fun _ _ b => Bs.ext b e
end
def gL (i : jq) : Prop := i.ctx.grp.length ≤ 64 ∧ i.ctx.tree.length = 32 ∧ i.ctx.trans.length = 32 ∧ i.tag.length = 32 ∧ (0 ≤ i.frm ∧ i.frm ≤ 65535) ∧ i.sig.length = 64
instance (i : jq) : Decidable (gL i) := by unfold gL; infer_instance
def qG (j y : Lb) : Prop := j.length = 32 ∧ (y.length = 0 ∨ y.length = 32)
instance (j y : Lb) : Decidable (qG j y) := by unfold qG; infer_instance
def lB.Small (g : lB) : Prop := g.ref.length ≤ 100 ∧ g.enc.length ≤ 100 ∧ g.box.length ≤ 200
instance (g : lB) : Decidable g.Small := by unfold lB.Small; infer_instance
def kg.Small (x : kg) : Prop := x.guests.length < 70 ∧ (∀ g ∈ x.guests, g.Small) ∧ x.info.length ≤ 500
instance (x : kg) : Decidable x.Small := by unfold kg.Small; infer_instance
/-! Their bytes. -/
def zo (i : jq) : List UInt8 := dw i.ctx ++ [0] ++ vec i.tag ++ be 4 (PF i.frm)
def BA (i : jq) : List UInt8 := zo i ++ vec i.sig
def rv (j y : Lb) : List UInt8 := if y.length = 0 then vec j ++ [0] else vec j ++ [1] ++ vec y
namespace M20
/-! How they are read. -/
def lA (s : St) : jq × St :=
 let c := vU s
 let t := dh (dq 1 0 c.2)
 let f := eB 4 t.2
 let g := dh f.2
 (⟨c.1, t.1, (f.1 : Int), g.1⟩, g.2)
def jL (s : St) : (List UInt8 × Bool × List UInt8) × St :=
 let j := dh s
 let h := gZ j.2
 let y := if h.1 then dh h.2 else ([], h.2)
 ((j.1, h.1, y.1), y.2)
def db {α : Type} (z : α) (p : α × St) (ok : Bool) : α × Nat := if eY p.2 ≠ 0 then (z, eY p.2) else if ok then (p.1, 0) else (z, 3)
def dj (b : Lb) : jq × Nat := db jq.zero (lA (.ok b)) (decide (gL (lA (.ok b)).1))
def fQ (p : List UInt8 × Bool × List UInt8) : Prop := qG p.1 p.2.2 ∧ (p.2.1 = true ↔ 0 < p.2.2.length)
instance (p : List UInt8 × Bool × List UInt8) : Decidable (fQ p) := by unfold fQ; infer_instance
def dI (b : Lb) : (List UInt8 × Bool × List UInt8) × Nat := db ([], false, []) (jL (.ok b)) (decide (fQ (jL (.ok b)).1))
theorem y5 {α : Type} {z : α} {p : α × St} {ok : Bool} (h : (db z p ok).2 ≠ 0) : (db z p ok).1 = z := by unfold db at h ⊢;grind
end M20
end
section
open Go.ChangeShapes Go.WideShapes Go.ChangeAt Go.RowKit
variable {H : Type} {enc : TypeId × Value → H} {held : Bool}
theorem Lo {cs : List Value} {x : DataW H × List MemPlace} (h : DataW.trod enc Tryz.prog W base spare held fuel 40 cs = some x) : ∃ c, gP W cs.toArray c ∧ c.ep < 18446744073709551616 := by
 have h' : DataW.Trod enc Tryz.prog W base spare held 40 (.agg cs.toArray) x.1 x.2 := ⟨fuel, h⟩
 obtain ⟨c', c, e, hx, he, _⟩ := Ie h';injection e with e
 rw [e];exact ⟨c, hx, he⟩
theorem Jw {cs : List Value} {x : DataW H × List MemPlace} (h : DataW.trod enc Tryz.prog W base spare held fuel 42 cs = some x) : ∃ p, fX W cs.toArray p := by
 obtain ⟨Vq, hl, hfs⟩ := trod_struct Tryz.underlying42 h;have hc : Tryz.prog.cellsOf 42 = 7 := by kernel_rfl
 rw [hc] at hl;have c0 : Tryz.prog.cellsOf 23 = 1 := by kernel_rfl
 have c1 : Tryz.prog.cellsOf 40 = 4 := by kernel_rfl
 have c3 : Tryz.prog.cellsOf 3 = 1 := by kernel_rfl
 obtain ⟨y0, t0⟩ := hfs 0 _ rfl;obtain ⟨_, t1⟩ := hfs 1 _ rfl;obtain ⟨_, t2⟩ := hfs 2 _ rfl;obtain ⟨_, t3⟩ := hfs 3 _ rfl;obtain ⟨c, ⟨A1, A2, A3, n1, d1, n2, d2, n3, d3, e0, b0, b1, b2⟩, hep⟩ := Lo t0;obtain ⟨A4, n4, k4, r4, e4, b4, _⟩ := iQ t1;obtain ⟨z, e5, z0, z1⟩ := Ig t2;obtain ⟨A6, n6, k6, r6, e6, b6, _⟩ := iQ t3;have e : cs.drop 0 = _ := MR (o := 0) c1 e0;rw [rW (o := 4) c0 e4, rW (o := 5) c3 e5, rW (o := 6) c0 e6, Kg hl] at e;refine ⟨⟨c, r4, z, r6⟩, ⟨A1, n1, d1⟩, ⟨A2, n2, d2⟩, ⟨A3, n3, d3⟩, ⟨A4, n4, k4⟩, ⟨A6, n6, k6⟩, ?_, hep, ⟨z0, z1⟩, b0, b1, b2, b4, b6⟩;rw [show cs = _ from e];rfl
end
section
open Go.RowKit Tryz
attribute [local irreducible] Y Ef WL WC WK WQ WM cv WN WF cZ WJ gI
open Wire Nd M20
structure QE (M : Nat) (V : List Nat) (w w' : World) : Prop where
 os : w'.os = w.os
 tape : w'.tape = w.tape
 output : w'.output = w.output
 size : w.heap.size ≤ w'.heap.size
 block : ∀ k, k < M → k ∉ V → w'.heap[k]? = w.heap[k]?
section
variable {Φ : World → Prop}
theorem aE.Rj (h : aE S w w') (hM : M ≤ w.heap.size) (hS : ∀ k ∈ S, k < M → k ∈ V := by first | (simp; done) | (simp; omega)) : QE M V w w' := ⟨h.os, h.tape, h.output, h.size, fun k hk hn => h.block k Om fun hm => hn (hS k hm hk)⟩
theorem _root_.Go.RowKit.Below.Rj (h : Ext w w') (hM : M ≤ w.heap.size) : QE M V w w' := (aE.of h []).Rj hM (by simp)
theorem aE.QK (h : aE S w w') (l : QE M V w' w'') (hM : w.heap.size ≤ M) (hV : ∀ k ∈ V, k ∈ S) : aE S w w'' :=
 ⟨l.os.trans h.os, l.tape.trans h.tape, l.output.trans h.output, Nat.le_trans h.size l.size, fun k hk hn => (l.block k Om fun hm => hn (hV k hm)).trans (h.block k hk hn)⟩
end
def SE (gr e : Nat) : Array Value := #[.pointer (some ⟨gr, 0, none⟩), .int .u8 (e : Int)]
theorem M1 (gr e e' : Nat) {z : Int} (hz : z = (e' : Int)) : (SE gr e).setIfInBounds 1 (.int .u8 z) = SE gr e' := by subst hz; rfl
def rj (N : Nat) (S : List Nat) (w : World) (gi gr : Nat) (s : St) (e : Nat) : Prop := ao w gi 214 (SE gr e) ∧ gi ∈ S ∧ gi ≠ gr ∧ Rs N S w gr s
def In (N : Nat) (S : List Nat) (w : World) (gi gr : Nat) : St → Prop
 | .ok xs => rj N S w gi gr (.ok xs) 0
 | .error c => c ≠ 0 ∧ c < 256 ∧ ∃ s, rj N S w gi gr s c
section
variable {e : Nat} {s : St}
theorem rj.ext (h : rj N S w gi gr s e) (E : Ext w w') : rj N S w' gi gr s e := ⟨h.1.ext E, h.2.1, h.2.2.1, h.2.2.2.ext E⟩
theorem rj.grow (h : rj N S w gi gr s e) (E : Ext w w') (hk : w.heap.size ≤ k) : rj N (k :: S) w' gi gr s e := ⟨h.1.ext E, List.mem_cons_of_mem _ h.2.1, h.2.2.1, h.2.2.2.grow E hk⟩
theorem rj.bk (h : rj N S w gi gr s e) (C : aE S' w w') (hs : ∀ k ∈ S', k ∈ S := by first | (simp; done) | (simp; assumption)) (hg : gi ∉ S' := by first | (simp; done) | (simp; omega)) (hr : gr ∉ S' := by first | (simp; done) | (simp; omega)) : rj N S w' gi gr s e := ⟨h.1.bk C hg, h.2.1, h.2.2.1, h.2.2.2.bk C hs hr⟩
theorem rj.mono (h : rj N S w gi gr s e) (hs : ∀ k ∈ S', k ∈ S) (hg : gi ∈ S') (hr : gr ∈ S') : rj N S' w gi gr s e := ⟨h.1, hg, h.2.2.1, h.2.2.2.mono hs hr⟩
theorem In.cases (h : In N S w gi gr s) : ∃ t, rj N S w gi gr t (cy s) ∧ cy s < 256 ∧ ((∃ xs, s = .ok xs ∧ t = s) ∨ (cy s ≠ 0 ∧ s = .error (cy s))) := by
 cases s with
 | ok xs => exact ⟨_, h, by show 0 < 256; omega, .inl ⟨xs, rfl, rfl⟩⟩
 | error c => obtain ⟨h1, h2, t, h⟩ := h; exact ⟨t, h, h2, .inr ⟨h1, rfl⟩⟩
theorem In.jn (h : In N S w gi gr s) : ao w gi 214 (SE gr (cy s)) := by obtain ⟨t, h, _⟩ := h.cases; exact h.1
theorem In.ne (h : In N S w gi gr s) : gi ≠ gr := by obtain ⟨t, h, _⟩ := h.cases; exact h.2.2.1
theorem In.To (h : In N S w gi gr s) : gi < w.heap.size := h.jn.lt
theorem In.Sz (h : In N S w gi gr s) : gr < w.heap.size := by obtain ⟨t, h, _⟩ := h.cases; exact h.2.2.2.lt
theorem In.Ml (h : In N S w gi gr s) : gi ∈ S := by obtain ⟨t, h, _⟩ := h.cases; exact h.2.1
theorem In.Uy (h : In N S w gi gr s) : gr ∈ S := by obtain ⟨t, h, _⟩ := h.cases; exact h.2.2.2.mem
theorem In.ext (h : In N S w gi gr s) (E : Ext w w') : In N S w' gi gr s := by
 cases s with
 | ok xs => exact rj.ext h E
 | error c => obtain ⟨h1, h2, t, h⟩ := h; exact ⟨h1, h2, t, h.ext E⟩
theorem In.grow (h : In N S w gi gr s) (E : Ext w w') (hk : w.heap.size ≤ k) : In N (k :: S) w' gi gr s := by
 cases s with
 | ok xs => exact rj.grow h E hk
 | error c => obtain ⟨h1, h2, t, h⟩ := h; exact ⟨h1, h2, t, h.grow E hk⟩
theorem In.bk (h : In N S w gi gr s) (C : aE S' w w') (hs : ∀ k ∈ S', k ∈ S := by first | (simp; done) | (simp; assumption)) (hg : gi ∉ S' := by first | (simp; done) | (simp; omega)) (hr : gr ∉ S' := by first | (simp; done) | (simp; omega)) : In N S w' gi gr s := by
 cases s with
 | ok xs => exact rj.bk h C hs hg hr
 | error c => obtain ⟨h1, h2, t, h⟩ := h; exact ⟨h1, h2, t, h.bk C hs hg hr⟩
theorem In.mono (h : In N S w gi gr s) (hs : ∀ k ∈ S', k ∈ S) (hg : gi ∈ S') (hr : gr ∈ S') : In N S' w gi gr s := by
 cases s with
 | ok xs => exact rj.mono h hs hg hr
 | error c => obtain ⟨h1, h2, t, h⟩ := h; exact ⟨h1, h2, t, h.mono hs hg hr⟩
end
/-! Wire's flag. -/
theorem MP {s : St} (h : s = .ok xs ∨ (cy s ≠ 0 ∧ s = .error (cy s))) (he : cy s < 256) (hn : (tk xs (cy s) 1).2.1 = false) :
  ∃ c, gZ s = (false, .error c) ∧ (tk xs (cy s) 1).2.2.2 = c ∧ c ≠ 0 ∧ c < 256 := by
 rcases h with rfl | ⟨h0, h1⟩
 ·have e : tk xs (cy (.ok xs)) 1 = tk xs 0 1 := rfl;rw [e, tM xs 1 (z := 1) rfl] at hn ⊢
  cases xs with
  | nil => exact ⟨4, rfl, rfl, by omega, by omega⟩
  | cons b r => rw [if_neg (by simp)] at hn; cases hn
 generalize cy s = c at *
 subst h1;exact ⟨c, rfl, by unfold tk; rw [if_pos h0], h0, he⟩
theorem rT (b : UInt8) (r : Lb) : gZ (.ok (b :: r)) = if 1 < b.toNat then (false, .error 3) else (decide (b.toNat = 1), .ok r) := by unfold gZ; rw [Eu]
theorem Gl {s : St} (w : World) (H0 : Rs N S w g s) :
  Ct 171 #[.pointer (some ⟨g, 0, none⟩)] w fun e w' => e = .returned (.bool (gZ s).1) ∧ Rs N S w' g (gZ s).2 ∧ aE [g] w w' := by
 obtain ⟨xs, H, he, hs⟩ := H0.rd;have F := aE.refl [g] w;refine ai 22 func171 rfl rfl rfl rfl ?_;intro _ hret;refine aU ?_;refine aC func223 rfl (jZ 1 _ he H) ?_;rintro e w1 ⟨A1, n1, _, rfl, _, K1, H1, ex⟩;replace F := F.bk ex;refine aU ?_;refine bB rfl (fun Vq => ?_) (fun Vq => ?_)
 ·refine aU ?_;refine hret rfl ?_;obtain ⟨c, e1, e2, h0, h9⟩ := MP hs he (by simpa using Vq);rw [e2] at H1;rw [e1];exact ⟨rfl, ⟨h0, h9, _, H1⟩, F⟩
 obtain ⟨b, r, rfl, ht⟩ := Dr hs (by simpa using Vq);rw [ht] at K1 H1;replace K1 : Kp N S (fun w => Bs w A1 n1 [b]) w1 := K1;replace H1 : Rd N S w1 g r 0 := H1;have Vs : n1 = 1 := K1.out.1.symm;subst Vs;obtain ⟨b1, o1, rfl, _, hcell⟩ := K1.out.get (k := 0) Om;refine au 6 ?_;refine al (aB rfl rfl Tn.u Kr (j := 0) rfl Om) ?_;refine al (af rfl Tn.u rfl hcell) ?_;refine aU ?_;refine ak rfl (fun Vr => ?_) (fun Vr => ?_)
 ·refine aU ?_;refine aC func224 rfl (j8 3 3 rfl _ H1) ?_;rintro e _ ⟨rfl, H2, ex⟩;replace F := F.bk ex;refine aU ?_;refine hret rfl ?_;rw [rT, if_pos (by have h : (1 : Int) < ((b.toNat : Nat) : Int) := Vr; omega)];exact ⟨rfl, ⟨by omega, by omega, _, H2⟩, F⟩
 refine au 5 ?_;refine al (aB rfl rfl Tn.u Kr (j := 0) rfl Om) ?_;refine al (af rfl Tn.u rfl hcell) ?_;refine aU ?_;refine hret rfl ?_;have hb : ¬ 1 < b.toNat := by have h : ¬ (1 : Int) < ((b.toNat : Nat) : Int) := Vr; omega
 rw [rT, if_neg hb];exact ⟨by show _ = Ending.returned (.bool (decide (b.toNat = 1))); congr 2; exact decide_eq_decide.2 So, H1, F⟩
/-! Notes. -/
def CS (z : Nat) : St → St
 | .ok xs => if z = 0 then .ok xs else .error z
 | .error c => .error c
section
variable {e : Nat} {s : St}
theorem yq (z : Nat) (zi : Int) (hz : zi = (z : Int)) (w : World) (H : rj N S w gi gr s e) :
  Ct 169 #[.pointer (some ⟨gi, 0, none⟩), .int .u8 zi] w fun r w' => r = .returned (.tuple #[]) ∧ rj N S w' gi gr s (if e = 0 then z else e) ∧ aE [gi] w w' := by
 have H0 := H;obtain ⟨B, hm, hne, R⟩ := H;refine gj 13 func169 rfl rfl rfl rfl ?_;intro _ hret;refine aU ?_;refine ak rfl (fun Vq => ?_) (fun Vq => ?_)
 ·refine au 5 ?_;refine ag (aq rfl rfl rfl Kr B (by show 1 < 2; omega)) rfl ?_;rintro _ _ ⟨rfl, D, cg⟩;have ex := aE.one cg;rw [M1 gr e z hz] at D;refine aU ?_;refine hret (.inr rfl) ?_;rw [if_pos Om];exact ⟨rfl, ⟨D, hm, hne, R.bk ex (by simpa using hm)⟩, ex⟩
 refine aU ?_;refine hret (.inr rfl) ?_;rw [if_neg Om];exact ⟨rfl, H0, aE.refl _ _⟩
theorem rj.code (h : rj N S w gi gr s (cy s)) : In N S w gi gr s := by
 cases s with
 | ok xs => exact h
 | error c => exact ⟨h.2.2.2.1, h.2.2.2.2.1, _, h⟩
theorem mH (z : Nat) (zi : Int) (hz : zi = (z : Int)) (w : World) (H : rj N S w gi gr s 0) :
  Ct 169 #[.pointer (some ⟨gi, 0, none⟩), .int .u8 zi] w fun r w' => r = .returned (.tuple #[]) ∧ rj N S w' gi gr s z ∧ aE [gi] w w' :=
 (yq z zi hz w H).mono fun _ _ h => by rw [if_pos rfl] at h; exact h
theorem DG (z : Nat) (zi : Int) (hz : zi = (z : Int)) (h8 : z < 256) (w : World) (H : In N S w gi gr s) :
    Ct 169 #[.pointer (some ⟨gi, 0, none⟩), .int .u8 zi] w fun r w' => r = .returned (.tuple #[]) ∧ In N S w' gi gr (CS z s) ∧ aE [gi] w w' := by
  cases s with
  | ok xs =>
    refine (mH z zi hz w H).mono fun _ _ ⟨h1, h2, h3⟩ => ⟨h1, ?_, h3⟩
    show In N S _ gi gr (if z = 0 then .ok xs else .error z)
    by_cases h : z = 0
    · rw [if_pos h]; subst h; exact h2
    rw [if_neg h]; exact ⟨h, h8, _, h2⟩
  | error c =>
    obtain ⟨k1, k2, t, H⟩ := H
    refine (yq z zi hz w H).mono fun _ _ ⟨h1, h2, h3⟩ => ⟨h1, ?_, h3⟩
    rw [if_neg k1] at h2
    exact ⟨k1, k2, t, h2⟩
theorem In.P8 (h : In N S w gi gr s) (e : cy s = 0) : ∃ xs, s = .ok xs := by
 cases s with
 | ok xs => exact ⟨xs, rfl⟩
 | error c => exact absurd e h.1
theorem In.JY (h : In N S w gi gr s) (e : cy s ≠ 0) : ∃ c, s = .error c := by
 cases s with
 | ok xs => exact absurd rfl e
 | error c => exact ⟨c, rfl⟩
theorem tK (k : Nat) (z : Int) (hz : z = (k : Int)) (w : World) (hk : k = 1 ∨ k = 2 ∨ k = 4 ∨ k = 8) (H : In N S w gi gr s) :
  Ct 109 #[.pointer (some ⟨gi, 0, none⟩), .int .i64 z] w fun e w' => e = .returned (.int .u64 (((eB k s).1 : Nat) : Int)) ∧ In N S w' gi gr (eB k s).2 ∧ aE [gr, gi] w w' := by
 have F := aE.refl [gr, gi] w;have hne := H.ne;have hmi := H.Ml;refine ai 25 func109 rfl rfl rfl rfl ?_;intro _ hret;refine au 11 ?_;refine al (af rfl Tn.u rfl (H.jn.get (i := 1) rfl)) ?_;refine aU ?_;refine ak rfl (fun Vq => ?_) (fun Vq => ?_)
 ·refine aU ?_;refine hret rfl ?_;obtain ⟨c, rfl⟩ := H.JY Om;exact ⟨rfl, H, F⟩
 obtain ⟨xs, rfl⟩ := H.P8 Om;have B := H.1;refine aU ?_;refine aC func182 rfl (GS k z hz _ hk H.2.2.2) ?_;rintro e _ ⟨rfl, R1, ex⟩;obtain ⟨F,B⟩ := iz ex F B;refine aU ?_;refine aC func170 rfl (nY _ R1) ?_;rintro e _ ⟨rfl, ex⟩;obtain ⟨F,B,R1⟩ := bF ex F B R1;refine aU ?_;refine aC func169 rfl (mH _ _ rfl _ ⟨B, hmi, hne, R1⟩) ?_;rintro e _ ⟨rfl, I3, ex⟩;replace F := F.bk ex;refine aU ?_;refine hret rfl ?_;exact ⟨rfl, I3.code, F⟩
theorem iX (w : World) (H : In N S w gi gr s) :
  Ct 93 #[.pointer (some ⟨gi, 0, none⟩)] w fun e w' => ∃ A n c, e = .returned (.slice A n c) ∧ n ≤ c ∧ Fb w.heap.size w' A n (dh s).1 ∧ In N S w' gi gr (dh s).2 ∧ aE [gr, gi] w w' := by
 have F := aE.refl [gr, gi] w;have hne := H.ne;have hmi := H.Ml;have hli := H.To;have hlr := H.Sz;refine ai 22 func93 rfl rfl rfl rfl ?_;intro _ hret;refine au 11 ?_;refine al (af rfl Tn.u rfl (H.jn.get (i := 1) rfl)) ?_;refine aU ?_;refine ak rfl (fun Vr => ?_) (fun Vr => ?_)
 ·refine aU ?_;refine hret rfl ?_;obtain ⟨c, rfl⟩ := H.JY Om;exact ⟨none, 0, 0, rfl, Nat.le_refl _, Fb.nil _ _ _, H, F⟩
 obtain ⟨xs, rfl⟩ := H.P8 Om;have B := H.1;refine aU ?_;refine aC func168 rfl (JZ _ H.2.2.2) ?_;rintro e _ ⟨A1, n1, c1, rfl, Vq, V1, R1, ex⟩;replace F := F.bk ex;replace B := B.bk ex; have J1 := V1.kk (S := [gr, gi]) So;refine aU ?_;refine aC func170 rfl (nY _ R1) ?_;rintro e _ ⟨rfl, ex⟩;obtain ⟨F,B,R1,J1⟩ := bU ex F B R1 J1;refine aU ?_;refine aC func169 rfl (mH _ _ rfl _ ⟨B, hmi, hne, R1⟩) ?_;rintro e _ ⟨rfl, I3, ex⟩;obtain ⟨F,J1⟩ := iz ex F J1;refine aU ?_;refine hret rfl ?_;exact ⟨A1, n1, c1, rfl, Vq, J1.out, I3.code, F⟩
theorem Gp (w : World) (H : In N S w gi gr s) :
  Ct 94 #[.pointer (some ⟨gi, 0, none⟩)] w fun e w' => e = .returned (.bool (gZ s).1) ∧ In N S w' gi gr (gZ s).2 ∧ aE [gr, gi] w w' := by
 have F := aE.refl [gr, gi] w;have hne := H.ne;have hmi := H.Ml;refine ai 22 func94 rfl rfl rfl rfl ?_;intro _ hret;refine au 11 ?_;refine al (af rfl Tn.u rfl (H.jn.get (i := 1) rfl)) ?_;refine aU ?_;refine ak rfl (fun Vq => ?_) (fun Vq => ?_)
 ·refine aU ?_;refine hret rfl ?_;obtain ⟨c, rfl⟩ := H.JY Om;exact ⟨rfl, H, F⟩
 obtain ⟨xs, rfl⟩ := H.P8 Om;have B := H.1;refine aU ?_;refine aC func171 rfl (Gl _ H.2.2.2) ?_;rintro e _ ⟨rfl, R1, ex⟩;obtain ⟨F,B⟩ := iz ex F B;refine aU ?_;refine aC func170 rfl (nY _ R1) ?_;rintro e _ ⟨rfl, ex⟩;obtain ⟨F,B,R1⟩ := bF ex F B R1;refine aU ?_;refine aC func169 rfl (mH _ _ rfl _ ⟨B, hmi, hne, R1⟩) ?_;rintro e _ ⟨rfl, I3, ex⟩;replace F := F.bk ex;refine aU ?_;refine hret rfl ?_;exact ⟨rfl, I3.code, F⟩
theorem CM (h : (eB k s).1 ≠ n) : dq k n s = CS 3 (eB k s).2 := by
 unfold dq
 cases (eB k s).2 with
 | ok r => exact if_neg h
 | error c => rfl
theorem DT (h : (eB k s).1 = n) : dq k n s = (eB k s).2 := by
 unfold dq
 cases (eB k s).2 with
 | ok r => exact if_pos h
 | error c => rfl
theorem mJ (k n : Nat) (z u : Int) (hz : z = (k : Int)) (hu : u = (n : Int)) (w : World) (hk : k = 1 ∨ k = 2 ∨ k = 4 ∨ k = 8) (H : In N S w gi gr s) :
  Ct 108 #[.pointer (some ⟨gi, 0, none⟩), .int .i64 z, .int .u64 u] w fun e w' => e = .returned (.tuple #[]) ∧ In N S w' gi gr (dq k n s) ∧ aE [gr, gi] w w' := by
 have F := aE.refl [gr, gi] w;refine gj 13 func108 rfl rfl rfl rfl ?_;intro _ hret;refine aU ?_;refine aC func109 rfl (tK k z hz _ hk H) ?_;rintro e _ ⟨rfl, H1, ex⟩;replace F := F.bk ex;refine aU ?_;refine ak rfl (fun Vq => ?_) (fun Vq => ?_)
 ·refine aU ?_;refine aC func169 rfl (DG 3 3 rfl Om _ H1) ?_;rintro e _ ⟨rfl, H2, ex⟩;replace F := F.bk ex;refine aU ?_;refine hret (.inr rfl) ?_;rw [CM Om];exact ⟨rfl, H2, F⟩
 refine aU ?_;refine hret (.inr rfl) ?_;rw [DT Om];exact ⟨rfl, H1, F⟩
end
/-! What is in a vector, one behind the other. -/
end
section
open Go.RowKit
attribute [local irreducible] Y Ef WL WC WK WQ WM cv WN WF cZ WJ gI
open Wire Nd M20
/-! In memory from a block on. -/
def TW (base : Nat) (w : World) (cs : Array Value) (x : Ctx) : Prop := Iq (fun h xs => Fb base w h.A h.n xs) cs x
def jQ (base : Nat) (w : World) (cs : Array Value) (x : jq) : Prop := jB (fun h xs => Fb base w h.A h.n xs) cs x
section
variable {b : Nat}
theorem jQ.mono {x : jq} (h : jQ base w cs x) (hb : b ≤ base) : jQ b w cs x := jB.imp h fun _ _ k => k.mono hb
theorem jQ.at {x : jq} (h : jQ base w cs x) : fX w cs x := jB.imp h fun _ _ k => k.1
theorem jQ.kk {x : jq} (h : jQ base w cs x) (hS : ∀ g ∈ S, g < base) : Kp w.heap.size S (fun w => jQ base w cs x) w := ⟨Nat.le_refl _, fun w2 hw => jB.imp h fun _ _ k => (k.kk hS).2 w2 hw⟩
end
theorem Uh {P : Nat → Prop} {a b : Nat} {L : List Nat} (ha : P a) (hb : P b) (hL : ∀ k ∈ L, P k) : ∀ k ∈ a :: b :: L, P k := fun k hk => by
 simp only [List.mem_cons] at hk;rcases hk with rfl | rfl | hk
 ·exact ha
 ·exact hb
 exact hL k hk
theorem rI (k n : Nat) (s : St) : ru (dq k n s) ≤ ru s := by
 have h := CI (s := s) k;unfold dq
 rcases Jf (eB k s).2 with ⟨c, hc⟩ | ⟨q, hq⟩
 ·rw [hc]; exact Nat.zero_le _
 rw [hq] at h ⊢;dsimp only;split
 ·exact h
 exact Nat.zero_le _
end
open Go.RowKit Tryz
attribute [local irreducible] Y Ef WL WC WK WQ WM cv WN WF cZ WJ gI
open Wire Nd M20
section
variable {s : St}
theorem Im (w : World) (H0 : In N S w gi gr s) :
  Ct 107 #[.pointer (some ⟨gi, 0, none⟩)] w fun e w' => ∃ cs, e = .returned (.agg cs) ∧ TW w.heap.size w' cs (vU s).1 ∧ In N S w' gi gr (vU s).2 ∧ aE [gr, gi] w w' := by
 have F := aE.refl [gr, gi] w;have hmi := H0.Ml;have hmr := H0.Uy;have hli := H0.To;have hlr := H0.Sz;have H := H0
 obtain ⟨g, hg⟩ : ∃ g, g = dh (dq 2 1 (dq 2 1 s)) := ⟨_, rfl⟩
 obtain ⟨e, he⟩ : ∃ e, e = eB 8 g.2 := ⟨_, rfl⟩
 have hX : vU s = (⟨g.1, e.1, (dh e.2).1, (dh (dh e.2).2).1⟩, dq 1 0 (dh (dh e.2).2).2) := by rw [he, hg]; rfl
 have Vu : e.1 < 18446744073709551616 := by rw [he]; exact rJ 8 _
 refine aK (s := 4) 20 func107 rfl rfl rfl underlying40 rfl Kr rfl ?_;intro _ hret;refine aU ?_;intro _ Vs B2 Vr ex;replace F := F.grow ex Vr;replace H := H.grow ex Vr;refine aU ?_;refine aC func108 rfl (mJ 2 1 2 1 rfl rfl _ Om H) ?_;rintro e _ ⟨rfl, H1, ex⟩;obtain ⟨F,B2⟩ := iz ex F B2;refine aU ?_;refine aC func108 rfl (mJ 2 1 2 1 rfl rfl _ Om H1) ?_;rintro e _ ⟨rfl, H2, ex⟩;obtain ⟨F,B2⟩ := iz ex F B2;refine aU ?_;have q2 := B2.lt; have q4 := F.size;refine aC func93 rfl (iX _ H2) ?_;rintro e _ ⟨A1, n1, c1, rfl, _, V1, H3, ex⟩;obtain ⟨F,B2⟩ := iz ex F B2;rw [← hg] at H3 V1;have J1 := V1.kk (S := [Vs, gr, gi]) So;refine aU ?_;refine aC func109 rfl (tK 8 8 rfl _ Om H3) ?_;rintro e _ ⟨rfl, H4, ex⟩;refine au 1 ?_;rw [← he] at H4 ⊢;obtain ⟨F,B2,J1⟩ := sh ex F B2 J1;refine aU ?_;have r2 := B2.lt; have r4 := F.size;refine aC func93 rfl (iX _ H4) ?_;rintro e _ ⟨A2, n2, c2, rfl, _, V2, H5, ex⟩;obtain ⟨F,B2,J1⟩ := sh ex F B2 J1;have J2 := V2.kk (S := [Vs, gr, gi]) So;refine aU ?_;have u2 := B2.lt; have u4 := F.size;refine aC func93 rfl (iX _ H5) ?_;rintro e _ ⟨A3, n3, c3, rfl, _, V3, H6, ex⟩;refine au 1 ?_;obtain ⟨F,B2,J1,J2⟩ := dF ex F B2 J1 J2;have J3 := V3.kk (S := [Vs, gr, gi]) So;refine al (ar rfl (cells := Ez ⟨A1, n1, c1⟩ e.1 ⟨A2, n2, c2⟩ ⟨A3, n3, c3⟩) Kr) ?_;refine aU ?_;intro _ Vv B3 Vq ex;have Vt : Vs < Vv := Nat.lt_of_lt_of_le B2.lt Vq;replace F := F.grow ex Vq;replace B2 := B2.grow ex Vq;replace J1 := J1.grow ex Vq;replace J2 := J2.grow ex Vq;replace H6 := H6.grow ex Vq;replace J3 := J3.grow ex Vq;refine aU ?_;intro _ D cg;have ex := aE.one cg;clear cg;obtain ⟨F,B2,J1,J2,H6,J3⟩ := nQ ex F B2 J1 J2 H6 J3;replace B3 := D; clear D;replace B3 := B3.congr (cs' := Ez ⟨A1, n1, c1⟩ e.1 ⟨A2, n2, c2⟩ ⟨A3, n3, c3⟩) rfl;refine aU ?_;refine aC func108 rfl (mJ 1 0 1 0 rfl rfl _ Om H6) ?_;rintro e _ ⟨rfl, H7, ex⟩;obtain ⟨F,B2,J1,J2,J3,B3⟩ := nQ ex F B2 J1 J2 J3 B3;refine aU ?_;intro _ D cg;have ex := aE.one cg;clear cg;obtain ⟨F,J1,J2,J3,H7⟩ := ux ex F J1 J2 J3 H7;replace B2 := D; clear D;replace B2 := B2.congr (cs' := Ez ⟨A1, n1, c1⟩ e.1 ⟨A2, n2, c2⟩ ⟨A3, n3, c3⟩) rfl;refine aU ?_;refine hret rfl B2 rfl ?_;rw [hX]; exact ⟨_, rfl, ⟨_, _, _, rfl, Vu, J1.out.mono Om, J2.out.mono Om, J3.out.mono Om⟩, H7.mono (fun k hk => by simp [hk]) hmi hmr, (F.drop Om).drop Om⟩
end
theorem Ni {t : St} (h : Rs N S w g t) : eY t < 256 := by
  cases t with
  | error c => exact h.2.1
  | ok xs =>
    cases xs with
    | nil => show 0 < 256; omega
    | cons x xs => show 5 < 256; omega
theorem LY {t t' : St} (h : (∃ xs, t = .ok xs ∧ t' = t) ∨ (cy t ≠ 0 ∧ t = .error (cy t))) : cy (CS (eY t') t) = eY t := by
 rcases h with ⟨xs, rfl, rfl⟩ | ⟨h0, h1⟩
 ·cases xs with
  | nil => rfl
  | cons x xs => rfl
 generalize cy t = c at *
 subst h1; rfl
theorem xD {t : St} {okv : Bool} {Vu Vv : Code} {Ψ : Nat → World → Prop} (w : World) (K : Kp N V (fun w => Bs w A n b) w) (hc : n ≤ c) (hn : n ≤ 1048576) (hV : ∀ k ∈ V, k < w.heap.size)
  (Vw : Tryz.prog.funcs[ft]? = some Vq) (Vx : Vq.body = some Vu) (Vy : (Vq.name == "runtime.NumGoroutine") = false) (Vz : Tryz.prog.funcs[fo]? = some Vr) (VA : Vr.body = some Vv) (VB : (Vr.name == "runtime.NumGoroutine") = false)
  (hT : ∀ (w1 : World) (gi gr : Nat), Ext w w1 → w.heap.size ≤ gi → w.heap.size ≤ gr → In N (gi :: gr :: V) w1 gi gr (.ok b) → (∀ k ∈ gi :: gr :: V, k < w1.heap.size) →
   Ct ft (.pointer (some ⟨gi, 0, none⟩) :: us).toArray w1 fun e w2 => e = .returned (.tuple #[]) ∧ In N (gi :: gr :: V) w2 gi gr t ∧ Ψ gi w2 ∧ QE w.heap.size V w1 w2)
  (hΨ : ∀ gi w1 w2, w.heap.size ≤ gi → Ψ gi w1 → aE [gi] w1 w2 → Ψ gi w2)
  (hO : ∀ gi w1, Ψ gi w1 → eY t = 0 → Ct fo vs.toArray w1 fun e w2 => e = .returned (.bool okv) ∧ Ext w1 w2) :
  Ct 95 #[.slice A n c, .func (.func ft) #[] us.toArray, .func (.func fo) #[] vs.toArray] w fun e w' => e = .returned (.int .u8 (((if eY t ≠ 0 then eY t else if okv then 0 else 3 : Nat) : Nat) : Int)) ∧ (∃ gi, w.heap.size ≤ gi ∧ Ψ gi w') ∧ eY t < 256 ∧ aE V w w' := by
 have E := Ext.refl w;have hbl := K.out.1;refine ai 42 func95 rfl rfl rfl rfl ?_;intro _ hret;refine aU ?_;refine aC func172 rfl (tV A n c b _ hc K) ?_;rintro e w1 ⟨gr, rfl, _, R, ex⟩;replace E := E.ext ex;refine au 1 ?_;have hlr := R.lt;refine al (ar rfl (cells := SE gr 0) Kr) ?_;have R0 := R;refine aU ?_;intro w2 gi BI hgi ex;replace E := E.ext ex;replace R0 := R0.grow ex hgi;refine aU ?_
 have H : In N (gi :: gr :: V) w2 gi gr (.ok b) := ⟨BI, List.mem_cons_self, by omega, R0⟩
 have z2 := BI.lt;have z3 := E.size;have z4 := H.Sz;refine ag (lL (Φ := fun v w' => v = .tuple #[] ∧ In N (gi :: gr :: V) w' gi gr t ∧ Ψ gi w' ∧ QE w.heap.size V w2 w') (xs := [.tmp 16]) (vs := [.pointer (some ⟨gi, 0, none⟩)]) rfl Vw Vx Vy rfl (hT w2 gi gr E Om Om H (Uh z2 z4 fun k hk => Nat.lt_of_lt_of_le (hV k hk) z3)) (fun _ _ ⟨h1, h2, h3, h4⟩ => ⟨_, h1, rfl, h2, h3, h4⟩)) rfl ?_;rintro _ _ ⟨rfl, H3, P3, L3⟩;have F := (aE.of E V).QK L3 (Nat.le_refl _) (fun k hk => hk);refine au 8 ?_;refine al (af rfl Tn.u rfl (H3.jn.get (i := 0) rfl)) ?_;obtain ⟨t', I3, h8, hcs⟩ := H3.cases;have Vt := Ni I3.2.2.2;have hne := LY hcs;have het : eY t < 256 := by rcases hcs with ⟨xs, rfl, rfl⟩ | ⟨h, e⟩; exact Vt; rw [e]; exact h8
 refine aC func173 rfl (IJ _ I3.2.2.2) ?_;rintro e _ ⟨rfl, ex⟩;refine aU ?_;obtain ⟨F,H3⟩ := aZ ex F H3;replace P3 := hΨ gi _ _ Om P3 (aE.of ex [gi]);refine aC func169 rfl (DG (eY t') _ rfl Vt _ H3) ?_;rintro e w5 ⟨rfl, H5, ex⟩;have z6 := F.size; replace P3 := hΨ gi _ _ Om P3 ex; replace F := F.QK (aE.Rj (M := w.heap.size) (V := []) ex Om) (Nat.le_refl _) (by simp);obtain ⟨q, hq⟩ : ∃ q, q = CS (eY t') t := ⟨_, rfl⟩; rw [← hq] at H5 hne; have BQ := H5.jn;refine au 10 ?_;refine bf (cO rfl rfl) rfl (fun h0 => ?_) (fun h0 => ?_)
 ·refine aU ?_;refine Lx 30 rfl rfl (lL (Φ := fun v w' => v = .bool okv ∧ Ext w5 w') (xs := []) (vs := []) rfl Vz VA VB rfl (hO gi _ P3 Om) (fun _ _ ⟨h1, h2⟩ => ⟨_, h1, rfl, h2⟩)) rfl ?_;rintro _ _ ⟨rfl, ex⟩;obtain ⟨F,BQ⟩ := aZ ex F BQ;replace P3 := hΨ gi _ _ Om P3 (aE.of ex [gi]);refine aU ?_;refine bB rfl (fun Vs => ?_) (fun Vs => ?_)
  ·refine au 4 ?_;refine ag (aq rfl rfl rfl Kr BQ (by show 1 < 2; omega)) rfl ?_;rintro _ _ ⟨rfl, _, cg⟩;have ex := aE.one cg;have z7 := F.size; replace P3 := hΨ gi _ _ Om P3 ex; replace F := F.QK (aE.Rj (M := w.heap.size) (V := []) ex Om) (Nat.le_refl _) (by simp);refine aU ?_;refine hret rfl ?_;rw [if_neg Om, if_neg (by simpa using Vs)];exact ⟨rfl, ⟨gi, by omega, P3⟩, het, F⟩
  refine aU ?_;refine hret rfl ?_;rw [if_neg Om, if_pos (by simpa using Vs), show cy q = 0 by omega];exact ⟨rfl, ⟨gi, by omega, P3⟩, het, F⟩
 refine au 7 ?_;refine bg rfl rfl ?_;refine aU ?_;refine hret rfl ?_;rw [if_pos Om, hne];exact ⟨rfl, ⟨gi, by omega, P3⟩, het, F⟩
end Go.Proofs.YtgfafidlkldeaaaGreat
