/- The law NodeBack: a node comes back of its bytes, and bytes of what is taken of them. -/
import Derived.Test.YtgfafidlkldeaaaGreatRow
import Derived.Test.YtgfafidlkldeaaaGreatCtxA
import Derived.Test.YtgfafidlkldeaaaGreatVs
import Derived.Test.YtgfafidlkldeaaaGreatBigC
import Derived.Test.YtgfafidlkldeaaaGreatAu
set_option linter.unusedVariables false
set_option linter.unusedSimpArgs false
set_option maxHeartbeats 4000000
set_option maxRecDepth 4000
namespace Go.Proofs.YtgfafidlkldeaaaGreat
section
open Go.ChangeShapes Go.WideShapes Go.ChangeAt Go.RowKit
section
variable {H : Type} {enc : TypeId × Value → H} {W : World} {base : Nat} {spare : Nat → Bool} {held : Bool}
theorem BB {v : Value} {d : DataW H} {p : List MemPlace} (h : DataW.Trod enc Tryz.prog W base spare held 40 v d p) :
  ∃ cs x, v = .agg cs ∧ lT W cs x ∧ x.ep < 18446744073709551616 ∧ x.grp.length ≤ maxLen ∧ x.tree.length ≤ maxLen ∧ x.trans.length ≤ maxLen := by
 obtain ⟨fuel, hf⟩ := h
 obtain ⟨Vl, hl, hfs⟩ := trod_struct Tryz.underlying40 hf
 have hc : Tryz.prog.cellsOf 40 = 4 := by kernel_rfl
 rw [hc] at hl
 have c1 : Tryz.prog.cellsOf 23 = 1 := by kernel_rfl
 have c2 : Tryz.prog.cellsOf 38 = 1 := by kernel_rfl
 obtain ⟨y0, h0⟩ := hfs 0 _ rfl
 obtain ⟨y1, h1⟩ := hfs 1 _ rfl
 obtain ⟨y2, h2⟩ := hfs 2 _ rfl
 obtain ⟨y3, h3⟩ := hfs 3 _ rfl
 obtain ⟨A0, n0, k0, g, e0, b0, m0⟩ := bR h0
 obtain ⟨N, e1, m1⟩ := DM h1
 obtain ⟨A2, n2, k2, tr, e2, b2, m2⟩ := bR h2
 obtain ⟨A3, n3, k3, ts, e3, b3, m3⟩ := bR h3
 have q0 := fN (i := 0) c1 e0
 have q1 := fN (i := 1) c2 e1
 have q2 := fN (i := 2) c1 e2
 have q3 := fN (i := 3) c1 e3
 have hcs : v.cells.toList = [.slice A0 n0 k0, .int .u64 (N : Int), .slice A2 n2 k2, .slice A3 n3 k3] := by
  apply List.ext_getElem?
  intro i
  match i with
  | 0 => exact q0
  | 1 => exact q1
  | 2 => exact q2
  | 3 => exact q3
  | i + 4 => rw [List.getElem?_eq_none Om]; simp
 refine ⟨_, ⟨g, N, tr, ts⟩, wX hcs (by simp), ⟨A0, A2, A3, n0, k0, n2, k2, n3, k3, rfl, b0, b2, b3⟩, m1, ?_, ?_, ?_⟩
 ·show g.length ≤ _; rw [b0.1]; exact m0
 ·show tr.length ≤ _; rw [b2.1]; exact m2
 ·show ts.length ≤ _; rw [b3.1]; exact m3
end
end
section
open Go.ChangeShapes Go.WideShapes Go.ChangeAt Go.RowKit
section
variable {H : Type} {enc : TypeId × Value → H} {W : World} {base : Nat} {spare : Nat → Bool} {held : Bool}
theorem nr {α : Type} {Q : Nat → α → Prop} : ∀ n, (∀ i, i < n → ∃ x, Q i x) → ∃ l : List α, l.length = n ∧ ∀ i (h : i < l.length), Q i l[i]
  | 0, _ => ⟨[], rfl, fun i h => by simp at h⟩
  | n + 1, h => by
    obtain ⟨l, hl, hq⟩ := nr n (fun i hi => h i Om)
    obtain ⟨x, hx⟩ := h n Om
    refine ⟨l ++ [x], by simp [hl], fun i hi => ?_⟩
    by_cases hin : i < l.length
    · rw [List.getElem_append_left hin]; exact hq i hin
    · have : i = l.length := by simp at hi; omega
      subst this
      simp only [List.getElem_concat_length]
      rw [hl]; exact hx
end
end
section
section
open Go.RowKit
attribute [local irreducible] Y Ef WL WC WK WQ WM cx WN WF cT
namespace Wire
abbrev St := Except Nat (List UInt8)
end Wire
open Wire
def OF (A : Oa) (n c e : Nat) : Array Value := #[.slice A n c, .int .u8 (e : Int)]
def Rd (N : Nat) (S : List Nat) (w : World) (g : Nat) (xs : Lb) (e : Nat) : Prop := ∃ A n c, ao w g 263 (OF A n c e) ∧ n ≤ c ∧ g ∈ S ∧ Kp N S (fun w => Bs w A n xs) w
def Rs (N : Nat) (S : List Nat) (w : World) (g : Nat) : St → Prop
 | .ok xs => Rd N S w g xs 0
 | .error c => c ≠ 0 ∧ c < 256 ∧ ∃ xs, Rd N S w g xs c
section
variable {N : Nat} {S S' : List Nat} {w w' : World} {g k e : Nat} {xs : Lb} {s : St}
end
theorem Fb.kk {S : List Nat} {w : World} {A : Oa} {n base : Nat} {xs : Lb} (h : Fb base w A n xs) (hS : ∀ g ∈ S, g < base) : Kp w.heap.size S (fun w => Fb base w A n xs) w := (h.kp hS).map fun _ hb => ⟨hb, h.2⟩
theorem Dv {q x : Nat} (h : x < 256) : (q * 256 ||| x) = q * 256 + x := by
 rw [Nat.mul_comm, show 256 = 2 ^ 8 from rfl, Nat.two_pow_add_eq_or_of_lt Om]
end
section
open Go.RowKit
attribute [local irreducible] Y Ef WL WC WK WQ WM cx WN WF cT
open Wire
namespace Wire
end Wire
end
section
open Go.RowKit
attribute [local irreducible] Y Ef WL WC WK WQ WM cx WN WF cT
open Wire
namespace Wire
end Wire
end
end
section
open Go.RowKit
attribute [local irreducible] Y Ef WL WC WK WQ WM cx WN WF cT
theorem r8 {A B : Oa} {n m c d : Nat} {xs ys : Lb} {w : World} (ha : Bs w A n xs) (hb : Bs w B m ys) (hn : n ≤ 140737488355328) (hm : m ≤ 140737488355328) :
  Ct 26 #[.slice A n c, .slice B m d] w fun e w' => e = .returned (.bool (decide (xs = ys))) ∧ Ext w w' :=
 (Cj A B n m c d xs ys w ha hb hn hm).mono fun _ _ ⟨h1, k, h2⟩ => ⟨h1, by rw [h2]; exact Ext.drewN _ _⟩
structure bO where
 box : List UInt8
 sign : List UInt8
 ident : List UInt8
 src : Nat
 parent : List UInt8
 sig : List UInt8
structure Ak where
 box : List UInt8
 hash : List UInt8
 late : List Int
structure Node where
 kind : Nat
 leaf : bO
 par : Ak
def bO.zero : bO := ⟨[], [], [], 0, [], []⟩
def Ak.zero : Ak := ⟨[], [], []⟩
structure Hd where
 A : Option Addr
 n : Nat
 c : Nat
def aq : Hd := ⟨none, 0, 0⟩
def fL (h0 h1 h2 : Hd) (s : Nat) (h4 h5 : Hd) : Array Value := #[.slice h0.A h0.n h0.c, .slice h1.A h1.n h1.c, .slice h2.A h2.n h2.c, .int .u8 (s : Int), .slice h4.A h4.n h4.c, .slice h5.A h5.n h5.c]
def ik (B : Hd → List UInt8 → Prop) (cs : Array Value) (l : bO) : Prop := ∃ h0 h1 h2 h4 h5, cs = fL h0 h1 h2 l.src h4 h5 ∧ l.src < 256 ∧ B h0 l.box ∧ B h1 l.sign ∧ B h2 l.ident ∧ B h4 l.parent ∧ B h5 l.sig
section
variable {B B' : Hd → List UInt8 → Prop} {Z Z' : Hd → List Int → Prop} {cs : Array Value} {l : bO} {p : Ak} {n : Node}
theorem ik.imp (h : ik B cs l) (f : ∀ h xs, B h xs → B' h xs) : ik B' cs l := by
 obtain ⟨h0, h1, h2, h4, h5, e, hs, b0, b1, b2, b4, b5⟩ := h
 exact ⟨h0, h1, h2, h4, h5, e, hs, f _ _ b0, f _ _ b1, f _ _ b2, f _ _ b4, f _ _ b5⟩
end
abbrev nI (w : World) (h : Hd) (xs : Lb) : Prop := Bs w h.A h.n xs
def dz (w : World) (cs : Array Value) (l : bO) : Prop := ik (nI w) cs l
section
variable {S S' : List Nat} {w w' : World} {cs : Array Value} {l : bO} {p : Ak} {n : Node} {N k base base' : Nat}
theorem dz.ext (h : dz w cs l) (e : Ext w w') : dz w' cs l := ik.imp h fun _ _ b => Bs.ext b e
def gu : Array Value := fL aq aq aq 0 aq aq
end
/-! Which may be. -/
def aC (l : bO) : Prop := l.box.length = 32 ∧ l.sign.length = 32 ∧ l.sig.length = 64 ∧ 1 ≤ l.ident.length ∧ l.ident.length ≤ 64 ∧ 1 ≤ l.src ∧ l.src ≤ 3 ∧ (l.parent.length = 0 ∨ l.src = 3 ∧ l.parent.length = 32)
instance (l : bO) : Decidable (aC l) := by unfold aC; infer_instance
def rising : Int → List Int → Prop
 | _, [] => True
 | last, x :: xs => last < x ∧ x < 65536 ∧ rising x xs
def rising.dec : (last : Int) → (xs : List Int) → Decidable (rising last xs)
 | _, [] => .isTrue trivial
 | last, x :: xs => @instDecidableAnd _ _ _ (@instDecidableAnd _ _ _ (rising.dec x xs))
instance (last : Int) (xs : List Int) : Decidable (rising last xs) := rising.dec last xs
instance (a b : bO) : Decidable (a = b) := by
 refine decidable_of_iff (a.box = b.box ∧ a.sign = b.sign ∧ a.ident = b.ident ∧ a.src = b.src ∧ a.parent = b.parent ∧ a.sig = b.sig) ⟨fun ⟨h1, h2, h3, h4, h5, h6⟩ => ?_, fun h => by subst h; exact ⟨rfl, rfl, rfl, rfl, rfl, rfl⟩⟩
 cases a; cases b; simp_all
instance (a b : Ak) : Decidable (a = b) := by
 refine decidable_of_iff (a.box = b.box ∧ a.hash = b.hash ∧ a.late = b.late) ⟨fun ⟨h1, h2, h3⟩ => ?_, fun h => by subst h; exact ⟨rfl, rfl, rfl⟩⟩
 cases a; cases b; simp_all
instance (a b : Node) : Decidable (a = b) := by
 refine decidable_of_iff (a.kind = b.kind ∧ a.leaf = b.leaf ∧ a.par = b.par) ⟨fun ⟨h1, h2, h3⟩ => ?_, fun h => by subst h; exact ⟨rfl, rfl, rfl⟩⟩
 cases a; cases b; simp_all
theorem aP {p : Prop} [Decidable p] (h : ¬ p) : Ending.returned (.bool false) = .returned (.bool (decide p)) := by rw [decide_eq_false h]
theorem bD {p : Prop} [Decidable p] (h : p) : Ending.returned (.bool true) = .returned (.bool (decide p)) := by rw [decide_eq_true h]
theorem kj {cs : Array Value} {l : bO} (w : World) (H : dz w cs l) :
  Ct 140 #[.agg cs] w fun e w' => e = .returned (.bool (decide (aC l))) ∧ Ext w w' := by
 obtain ⟨h0, h1, h2, h4, h5, rfl, hs, b0, b1, b2, b4, b5⟩ := H
 have l0 := b0.1; have l1 := b1.1; have l2 := b2.1; have l4 := b4.1; have l5 := b5.1
 have E := Ext.refl w
 refine aj 55 Tryz.func140 rfl rfl rfl rfl ?_
 intro _ hret
 refine aU ?_
 intro _ _ _ _ ex
 replace E := E.ext ex
 refine au 10 ?_
 refine bH (jr rfl rfl) rfl (fun q0 => ?_) (fun q0 => ?_)
 ·refine au 15 ?_
  refine bP rfl rfl ?_
  refine aU ?_
  refine hret rfl ?_
  exact ⟨aP fun h => by unfold aC at h; omega, E⟩
 ·refine au 4 ?_
  refine aG 8 rfl rfl (jr rfl rfl) rfl (fun q1 => ?_) (fun q1 => ?_)
  ·refine au 10 ?_
   refine bP rfl rfl ?_
   refine aU ?_
   refine hret rfl ?_
   exact ⟨aP fun h => by unfold aC at h; omega, E⟩
  ·refine au 5 ?_
   refine aG 14 rfl rfl (jr rfl rfl) rfl (fun q2 => ?_) (fun q2 => ?_)
   ·refine au 4 ?_
    refine bP rfl rfl ?_
    refine aU ?_
    refine hret rfl ?_
    exact ⟨aP fun h => by unfold aC at h; omega, E⟩
   ·refine au 4 ?_
    refine cm rfl rfl ?_
    refine au 5 ?_
    refine bH (dU rfl rfl) rfl (fun q3 => ?_) (fun q3 => ?_)
    ·refine au 9 ?_
     refine bP rfl rfl ?_
     refine aU ?_
     refine hret rfl ?_
     exact ⟨aP fun h => by unfold aC at h; omega, E⟩
    ·refine au 4 ?_
     refine aG 25 rfl rfl (fF rfl rfl) rfl (fun q4 => ?_) (fun q4 => ?_)
     ·refine au 4 ?_
      refine bP rfl rfl ?_
      refine aU ?_
      refine hret rfl ?_
      exact ⟨aP fun h => by unfold aC at h; omega, E⟩
     ·refine au 4 ?_
      refine cm rfl rfl ?_
      refine au 4 ?_
      refine bH (dU rfl rfl) rfl (fun q5 => ?_) (fun q5 => ?_)
      ·refine au 8 ?_
       refine bP rfl rfl ?_
       refine aU ?_
       refine hret rfl ?_
       exact ⟨aP fun h => by unfold aC at h; omega, E⟩
      ·refine au 3 ?_
       refine aG 35 rfl rfl (fF rfl rfl) rfl (fun q6 => ?_) (fun q6 => ?_)
       ·refine au 4 ?_
        refine bP rfl rfl ?_
        refine aU ?_
        refine hret rfl ?_
        exact ⟨aP fun h => by unfold aC at h; omega, E⟩
       ·refine au 4 ?_
        refine cm rfl rfl ?_
        refine au 8 ?_
        refine bH (cA rfl rfl) rfl (fun q7 => ?_) (fun q7 => ?_)
        ·refine aU ?_
         refine ck 48 rfl rfl rfl ?_
         refine ck 48 rfl rfl rfl ?_
         refine ck 48 rfl rfl rfl ?_
         refine ck 48 rfl rfl rfl ?_
         refine aU ?_
         refine hret rfl ?_
         exact ⟨bD (by unfold aC; omega), E⟩
        ·refine au 3 ?_
         refine aG 44 rfl rfl (cA rfl rfl) rfl (fun q8 => ?_) (fun q8 => ?_)
         ·refine au 4 ?_
          refine aG 48 rfl rfl (cA rfl rfl) rfl (fun q9 => ?_) (fun q9 => ?_)
          ·refine aU ?_
           refine hret rfl ?_
           exact ⟨bD (by unfold aC; omega), E⟩
          ·refine aU ?_
           refine hret rfl ?_
           exact ⟨aP fun h => by unfold aC at h; omega, E⟩
         ·refine aU ?_
          refine hret rfl ?_
          exact ⟨aP fun h => by unfold aC at h; omega, E⟩
end
section
open Go.ChangeShapes Go.WideShapes Go.ChangeAt Go.RowKit
section
variable {H : Type} {enc : TypeId × Value → H} {W : World} {base : Nat} {spare : Nat → Bool} {held : Bool}
theorem vf {fuel : Nat} {cs : List Value} {x : DataW H × List MemPlace} (h : DataW.trod enc Tryz.prog W base spare held fuel 23 cs = some x) : ∃ a n c xs, cs = [.slice a n c] ∧ Bs W a n xs ∧ n ≤ c := by
 have h' := h
 rcases open_ints Tryz.underlying23 Tryz.underlying5 Kr h with ⟨hcs, _⟩ | ⟨x, l, c, zs, hcs, _⟩
 ·obtain ⟨⟨xs, hb⟩, _, hm⟩ := nC (a := none) (len := 0) (cap := 0) ⟨fuel, by simpa [Value.cells, hcs] using h'⟩
  exact ⟨none, 0, 0, xs, hcs, hb, hm⟩
 ·obtain ⟨⟨xs, hb⟩, _, hm⟩ := nC (a := some x) (len := l) (cap := c) ⟨fuel, by simpa [Value.cells, hcs] using h'⟩
  exact ⟨some x, l, c, xs, hcs, hb, hm⟩
end
end
section
open Go.RowKit
attribute [local irreducible] Y Ef WL WC WK WQ WM cx WN WF cT
def bO.Fit (l : bO) : Prop := l.box.length ≤ 1000000 ∧ l.sign.length ≤ 1000000 ∧ l.ident.length ≤ 1000000 ∧ l.parent.length ≤ 1000000 ∧ l.sig.length ≤ 1000000
def Ak.Fit (p : Ak) : Prop := p.box.length ≤ 1000000 ∧ p.hash.length ≤ 1000000 ∧ p.late.length ≤ 1000000
def Node.Fit (n : Node) : Prop := n.leaf.Fit ∧ n.par.Fit
end
section
open Go.RowKit
attribute [local irreducible] Y Ef WL WC WK WQ WM cx WN WF cT
theorem pT {cs : Array Value} {l : bO} (w : World) (H : dz w cs l) :
  Ct 79 #[.agg cs] w fun e w' => e = .returned (.bool (decide (aC l))) ∧ Ext w w' := by
 obtain ⟨h0, h1, h2, h4, h5, rfl, hs, b0, b1, b2, b4, b5⟩ := H
 have l0 := b0.1; have l1 := b1.1; have l2 := b2.1; have l4 := b4.1; have l5 := b5.1
 have E := Ext.refl w
 refine aj 60 Tryz.func79 rfl rfl rfl rfl ?_
 intro _ hret
 refine aU ?_
 intro _ _ _ _ ex
 replace E := E.ext ex
 refine au 8 ?_
 refine bH (cA rfl rfl) rfl (fun q0 => ?_) (fun q0 => ?_)
 ·refine aU ?_
  refine ck 12 rfl rfl rfl ?_
  refine ck 12 rfl rfl rfl ?_
  refine ck 12 rfl rfl rfl ?_
  refine ck 12 rfl rfl rfl ?_
  refine au 10 ?_
  refine bH (cA rfl rfl) rfl (fun u0 => ?_) (fun u0 => ?_)
  ·refine au 4 ?_
   refine aG 23 rfl rfl (cA rfl rfl) rfl (fun u1 => ?_) (fun u1 => ?_)
   ·refine au 5 ?_
    refine aG 29 rfl rfl (fF rfl rfl) rfl (fun u2 => ?_) (fun u2 => ?_)
    ·refine au 5 ?_
     refine aG 35 rfl rfl (nt rfl rfl) rfl (fun u3 => ?_) (fun u3 => ?_)
     ·refine au 4 ?_
      refine aG 41 rfl rfl (fF rfl rfl) rfl (fun u4 => ?_) (fun u4 => ?_)
      ·refine au 4 ?_
       refine aG 46 rfl rfl (dU rfl rfl) rfl (fun u5 => ?_) (fun u5 => ?_)
       ·refine au 8 ?_
        refine aG 54 rfl rfl (cA rfl rfl) rfl (fun u6 => ?_) (fun u6 => ?_)
        ·refine aU ?_
         refine hret rfl ?_
         first | exact ⟨bD (by unfold aC; omega), E⟩ | exact ⟨aP fun h => by unfold aC at h; omega, E⟩
        ·refine aU ?_
         refine hret rfl ?_
         first | exact ⟨bD (by unfold aC; omega), E⟩ | exact ⟨aP fun h => by unfold aC at h; omega, E⟩
       ·refine aU ?_
        refine hret rfl ?_
        first | exact ⟨bD (by unfold aC; omega), E⟩ | exact ⟨aP fun h => by unfold aC at h; omega, E⟩
      ·refine aU ?_
       refine hret rfl ?_
       first | exact ⟨bD (by unfold aC; omega), E⟩ | exact ⟨aP fun h => by unfold aC at h; omega, E⟩
     ·refine aU ?_
      refine hret rfl ?_
      first | exact ⟨bD (by unfold aC; omega), E⟩ | exact ⟨aP fun h => by unfold aC at h; omega, E⟩
    ·refine aU ?_
     refine hret rfl ?_
     first | exact ⟨bD (by unfold aC; omega), E⟩ | exact ⟨aP fun h => by unfold aC at h; omega, E⟩
   ·refine aU ?_
    refine hret rfl ?_
    first | exact ⟨bD (by unfold aC; omega), E⟩ | exact ⟨aP fun h => by unfold aC at h; omega, E⟩
  ·refine aU ?_
   refine hret rfl ?_
   first | exact ⟨bD (by unfold aC; omega), E⟩ | exact ⟨aP fun h => by unfold aC at h; omega, E⟩
 ·refine au 3 ?_
  refine aG 8 rfl rfl (cA rfl rfl) rfl (fun q1 => ?_) (fun q1 => ?_)
  ·refine au 4 ?_
   refine aG 12 rfl rfl (cA rfl rfl) rfl (fun q2 => ?_) (fun q2 => ?_)
   ·refine au 10 ?_
    refine bH (cA rfl rfl) rfl (fun u0 => ?_) (fun u0 => ?_)
    ·refine au 4 ?_
     refine aG 23 rfl rfl (cA rfl rfl) rfl (fun u1 => ?_) (fun u1 => ?_)
     ·refine au 5 ?_
      refine aG 29 rfl rfl (fF rfl rfl) rfl (fun u2 => ?_) (fun u2 => ?_)
      ·refine au 5 ?_
       refine aG 35 rfl rfl (nt rfl rfl) rfl (fun u3 => ?_) (fun u3 => ?_)
       ·refine au 4 ?_
        refine aG 41 rfl rfl (fF rfl rfl) rfl (fun u4 => ?_) (fun u4 => ?_)
        ·refine au 4 ?_
         refine aG 46 rfl rfl (dU rfl rfl) rfl (fun u5 => ?_) (fun u5 => ?_)
         ·refine au 8 ?_
          refine aG 54 rfl rfl (cA rfl rfl) rfl (fun u6 => ?_) (fun u6 => ?_)
          ·refine aU ?_
           refine hret rfl ?_
           first | exact ⟨bD (by unfold aC; omega), E⟩ | exact ⟨aP fun h => by unfold aC at h; omega, E⟩
          ·refine aU ?_
           refine hret rfl ?_
           first | exact ⟨bD (by unfold aC; omega), E⟩ | exact ⟨aP fun h => by unfold aC at h; omega, E⟩
         ·refine aU ?_
          refine hret rfl ?_
          first | exact ⟨bD (by unfold aC; omega), E⟩ | exact ⟨aP fun h => by unfold aC at h; omega, E⟩
        ·refine aU ?_
         refine hret rfl ?_
         first | exact ⟨bD (by unfold aC; omega), E⟩ | exact ⟨aP fun h => by unfold aC at h; omega, E⟩
       ·refine aU ?_
        refine hret rfl ?_
        first | exact ⟨bD (by unfold aC; omega), E⟩ | exact ⟨aP fun h => by unfold aC at h; omega, E⟩
      ·refine aU ?_
       refine hret rfl ?_
       first | exact ⟨bD (by unfold aC; omega), E⟩ | exact ⟨aP fun h => by unfold aC at h; omega, E⟩
     ·refine aU ?_
      refine hret rfl ?_
      first | exact ⟨bD (by unfold aC; omega), E⟩ | exact ⟨aP fun h => by unfold aC at h; omega, E⟩
    ·refine aU ?_
     refine hret rfl ?_
     first | exact ⟨bD (by unfold aC; omega), E⟩ | exact ⟨aP fun h => by unfold aC at h; omega, E⟩
   ·refine au 10 ?_
    refine bH (cA rfl rfl) rfl (fun u0 => ?_) (fun u0 => ?_)
    ·refine au 4 ?_
     refine aG 23 rfl rfl (cA rfl rfl) rfl (fun u1 => ?_) (fun u1 => ?_)
     ·refine au 5 ?_
      refine aG 29 rfl rfl (fF rfl rfl) rfl (fun u2 => ?_) (fun u2 => ?_)
      ·refine au 5 ?_
       refine aG 35 rfl rfl (nt rfl rfl) rfl (fun u3 => ?_) (fun u3 => ?_)
       ·refine au 4 ?_
        refine aG 41 rfl rfl (fF rfl rfl) rfl (fun u4 => ?_) (fun u4 => ?_)
        ·refine au 4 ?_
         refine aG 46 rfl rfl (dU rfl rfl) rfl (fun u5 => ?_) (fun u5 => ?_)
         ·refine aU ?_
          refine hret rfl ?_
          first | exact ⟨bD (by unfold aC; omega), E⟩ | exact ⟨aP fun h => by unfold aC at h; omega, E⟩
         ·refine aU ?_
          refine hret rfl ?_
          first | exact ⟨bD (by unfold aC; omega), E⟩ | exact ⟨aP fun h => by unfold aC at h; omega, E⟩
        ·refine aU ?_
         refine hret rfl ?_
         first | exact ⟨bD (by unfold aC; omega), E⟩ | exact ⟨aP fun h => by unfold aC at h; omega, E⟩
       ·refine aU ?_
        refine hret rfl ?_
        first | exact ⟨bD (by unfold aC; omega), E⟩ | exact ⟨aP fun h => by unfold aC at h; omega, E⟩
      ·refine aU ?_
       refine hret rfl ?_
       first | exact ⟨bD (by unfold aC; omega), E⟩ | exact ⟨aP fun h => by unfold aC at h; omega, E⟩
     ·refine aU ?_
      refine hret rfl ?_
      first | exact ⟨bD (by unfold aC; omega), E⟩ | exact ⟨aP fun h => by unfold aC at h; omega, E⟩
    ·refine aU ?_
     refine hret rfl ?_
     first | exact ⟨bD (by unfold aC; omega), E⟩ | exact ⟨aP fun h => by unfold aC at h; omega, E⟩
  ·refine au 15 ?_
   refine bH (cA rfl rfl) rfl (fun u0 => ?_) (fun u0 => ?_)
   ·refine au 4 ?_
    refine aG 23 rfl rfl (cA rfl rfl) rfl (fun u1 => ?_) (fun u1 => ?_)
    ·refine au 5 ?_
     refine aG 29 rfl rfl (fF rfl rfl) rfl (fun u2 => ?_) (fun u2 => ?_)
     ·refine au 5 ?_
      refine aG 35 rfl rfl (nt rfl rfl) rfl (fun u3 => ?_) (fun u3 => ?_)
      ·refine au 4 ?_
       refine aG 41 rfl rfl (fF rfl rfl) rfl (fun u4 => ?_) (fun u4 => ?_)
       ·refine au 4 ?_
        refine aG 46 rfl rfl (dU rfl rfl) rfl (fun u5 => ?_) (fun u5 => ?_)
        ·refine aU ?_
         refine hret rfl ?_
         first | exact ⟨bD (by unfold aC; omega), E⟩ | exact ⟨aP fun h => by unfold aC at h; omega, E⟩
        ·refine aU ?_
         refine hret rfl ?_
         first | exact ⟨bD (by unfold aC; omega), E⟩ | exact ⟨aP fun h => by unfold aC at h; omega, E⟩
       ·refine aU ?_
        refine hret rfl ?_
        first | exact ⟨bD (by unfold aC; omega), E⟩ | exact ⟨aP fun h => by unfold aC at h; omega, E⟩
      ·refine aU ?_
       refine hret rfl ?_
       first | exact ⟨bD (by unfold aC; omega), E⟩ | exact ⟨aP fun h => by unfold aC at h; omega, E⟩
     ·refine aU ?_
      refine hret rfl ?_
      first | exact ⟨bD (by unfold aC; omega), E⟩ | exact ⟨aP fun h => by unfold aC at h; omega, E⟩
    ·refine aU ?_
     refine hret rfl ?_
     first | exact ⟨bD (by unfold aC; omega), E⟩ | exact ⟨aP fun h => by unfold aC at h; omega, E⟩
   ·refine aU ?_
    refine hret rfl ?_
    first | exact ⟨bD (by unfold aC; omega), E⟩ | exact ⟨aP fun h => by unfold aC at h; omega, E⟩
end
section
open Go.RowKit Tryz
attribute [local irreducible] Y Ef WL WC WK WQ WM cx WN WF cT
theorem sB {A B : Oa} {n c m d : Nat} {xs ys : Lb} {w : World} (HA : Bs w A n xs) (HB : Bs w B m ys) (hn : n ≤ 1000000000) (hm : m ≤ 1000000000) :
  Ct 162 #[.slice A n c, .slice B m d] w fun e w' => ∃ A' k c', e = .returned (.slice A' k c') ∧ Row w' w.heap.size 5 A' k c' ((xs ++ Wire.vec ys).map bv) ∧ k ≤ n + m + 4 ∧ Ext w w' :=
 (di A B n c m d xs ys w HA Om HB Om).mono fun _ _ ⟨A', k, c', h1, h2, h3, h4⟩ => ⟨A', k, c', h1, h2, by have := Wire.bu m; omega, h4⟩
theorem dX {B : Oa} {m d : Nat} {ys : Lb} {w : World} (HB : Bs w B m ys) (hm : m ≤ 1000000000) :
  Ct 54 #[.slice B m d] w fun e w' => ∃ A' k c', e = .returned (.slice A' k c') ∧ Row w' w.heap.size 5 A' k c' ((Wire.vec ys).map bv) ∧ k ≤ m + 4 ∧ Ext w w' :=
 (cB B m d ys w HB Om).mono fun _ _ ⟨A', k, c', h1, h2, h3, h4⟩ => ⟨A', k, c', h1, h2, by have := Wire.bu m; omega, h4⟩
theorem cw {A B : Oa} {n c m d : Nat} {xs ys : Lb} {w : World} (HA : Bs w A n xs) (HB : Bs w B m ys) (hn : n ≤ 1000000000) (hm : m ≤ 1000000000) :
  Ct 214 #[.slice A n c, .slice B m d] w fun e w' => ∃ A' c', e = .returned (.slice A' (n + m) c') ∧ Row w' w.heap.size 5 A' (n + m) c' ((xs ++ ys).map bv) ∧ Ext w w' := by
 refine aj 10 func214 rfl rfl rfl rfl ?_
 intro _ hret
 refine aU ?_
 refine af (aB (z := .int .u8 0) Tn.u Kr rfl rfl rfl rfl rfl) rfl ?_
 rintro _ w1 ⟨g1, rfl, B1, Vl, ex⟩
 have E1 := ex; have R1 : Row w1 w.heap.size 5 (some ⟨g1, 0, none⟩) 0 0 [] := Row.new B1 Vl rfl (by unfold maxLen; omega)
 refine aU ?_
 refine af (iY rfl rfl bF R1 (HA.ext E1).2 (by rw [List.length_map, HA.1]) aH Om Om E1.size) rfl ?_
 rintro _ _ ⟨_, _, rfl, R2, be, gr, hl⟩
 have E2 := E1.trans be
 refine aU ?_
 refine af (aQ rfl rfl bF R2 (HB.ext E2).2 (by rw [List.length_map, HB.1]) aH Om Om E2.size) rfl ?_
 rintro _ _ ⟨A3, c3, rfl, R3, be, gr, hl⟩
 have E3 := E2.trans be
 refine aU ?_
 refine hret rfl ?_
 exact ⟨A3, c3, rfl, R3.cat, E3⟩
def dt (l : bO) : List UInt8 := Wire.vec l.box ++ Wire.vec l.sign ++ Wire.vec l.ident ++ [UInt8.ofNat l.src] ++ (if l.src = 3 then Wire.vec l.parent else [])
def jx (l : bO) : List UInt8 := dt l ++ Wire.vec l.sig
theorem dy (v : Lb) : (Wire.vec v).length ≤ v.length + 4 := by have := Wire.bu v.length; rw [Wire.gA]; omega
theorem jn {l : bO} (hf : l.Fit) : (dt l).length ≤ 4000017 := by
 obtain ⟨f0, f1, f2, f4, f5⟩ := hf
 have h0 := dy l.box; have h1 := dy l.sign; have h2 := dy l.ident; have h4 := dy l.parent
 unfold dt
 simp only [List.length_append, List.length_singleton]
 split
 ·omega
 ·simp only [List.length_nil]; omega
theorem C5 {l : bO} (hf : l.Fit) : (jx l).length ≤ 5000021 := by
 have h := jn hf
 have h5 := dy l.sig
 obtain ⟨f0, f1, f2, f4, f5⟩ := hf
 unfold jx
 rw [List.length_append]; omega
theorem uB {s : Nat} (h : s < 256) : (Value.int .u8 (s : Int)) = bv (UInt8.ofNat s) := by
 unfold bv; congr 1; rw [UInt8.toNat_ofNat']; omega
theorem lE {A : Oa} {n c : Nat} {xs : Lb} {cs : Array Value} {l : bO} (w : World) (HA : Bs w A n xs) (hn : n ≤ 1000) (H : dz w cs l) (hf : l.Fit) :
  Ct 199 #[.slice A n c, .agg cs] w fun e w' => ∃ A' k c', e = .returned (.slice A' k c') ∧ Row w' w.heap.size 5 A' k c' ((xs ++ dt l).map bv) ∧ Ext w w' := by
 obtain ⟨h0, h1, h2, h4, h5, rfl, hs, b0, b1, b2, b4, b5⟩ := H
 have l0 := b0.1; have l1 := b1.1; have l4 := b4.1
 have hU := jn hf
 obtain ⟨f0, f1, f2, f4, f5⟩ := hf
 have hxl := HA.1
 have E := Ext.refl w
 obtain ⟨ys, hys⟩ : ∃ ys, ys = [l.box, l.sign, l.ident] := ⟨_, rfl⟩
 obtain ⟨fl, hfl⟩ : ∃ fl : Nat → List UInt8, fl = fun k => ((ys.take k).map Wire.vec).flatten := ⟨_, rfl⟩
 have hfs : ∀ k, k < 3 → fl (k + 1) = fl k ++ Wire.vec (ys.getD k []) := fun k hk => by
  rw [hfl, hys]
  match k, hk with
  | 0, _ => simp
  | 1, _ => simp
  | 2, _ => simp
 have hfle : ∀ k, k < 3 → (fl k).length ≤ 2000008 := fun k hk => by
  have h0 := dy l.box; have h1 := dy l.sign
  rw [hfl, hys]
  match k, hk with
  | 0, _ => simp
  | 1, _ => simp; omega
  | 2, _ => simp; omega
 have hyl : ∀ k, k < 3 → (ys.getD k []).length ≤ 1000000 := fun k hk => by
  rw [hys]
  match k, hk with
  | 0, _ => exact f0
  | 1, _ => exact f1
  | 2, _ => exact f2
 refine aj 36 func199 rfl rfl rfl rfl ?_
 intro _ hret
 refine aU ?_
 intro Vm Vp B3 _ ex
 replace E := E.ext ex
 refine aU ?_
 have E0 := E; have Vn := B3.lt
 refine af (aB (z := .slice none 0 0) Tn.u Kr rfl rfl rfl rfl rfl) rfl ?_
 rintro _ w2 ⟨Vo, rfl, Vq, _, ex⟩
 obtain ⟨E,B3⟩ := aY ex E B3
 have F : Ext Vm w2 := ex; have Vl : sN w2 (some ⟨Vo, 0, none⟩) 3 ys := (by rw [hys]; exact jL Vq (Bs.ext b0 E) (Bs.ext b1 E) (Bs.ext b2 E))
 refine aU ?_
 refine aF (fun n' L wr => ∃ (k m e : Nat) (D : Oa), L = [(0, .slice D m e), (3, .pointer (some ⟨Vp, 0, none⟩)), (13, .slice (some ⟨Vo, 0, none⟩) 3 3), (14, .int .i64 3), (15, .int .i64 (k : Int))] ∧ n' = 3 - k ∧ (k ≤ 3 ∧ Bs wr D m (xs ++ fl k) ∧ (k ≠ 0 → Row wr Vm.heap.size 5 D m e ((xs ++ fl k).map bv)) ∧ Ext Vm wr ∧ ao wr Vp 27 (fL h0 h1 h2 l.src h4 h5) ∧ sN wr (some ⟨Vo, 0, none⟩) 3 ys)) _ _ ⟨0, n, c, A, rfl, rfl, by omega, by rw [hfl]; simpa using HA.ext E, fun h => absurd rfl h, F, B3, Vl⟩ Ls ?_
 rintro _ n' L wr ⟨k, m, e, D, rfl, rfl, hk, HD, hrow, F, B3, Vl⟩ Vr
 refine aU ?_
 refine al rfl (fun Vs => ?_) (fun Vs => ?_)
 ·have hlt : k < 3 := by omega
  obtain ⟨b, off, C, q, f, zs, e1, hzs, hcell, hC⟩ := Vl.get hlt
  injection e1 with e1
  injection e1 with Vt Vu _
  subst Vt; subst Vu
  have Vv := HD.1
  have hq := hC.1
  have hzl := hyl k hlt
  rw [← hzs.out] at hzl
  have hfk := hfle k hlt
  rw [List.length_append] at Vv
  have Vw := F.size
  refine au 7 ?_
  refine ak (ah rfl Tn.u rfl hcell) ?_
  refine aU ?_
  refine aL func162 rfl (sB HD hC Om Om) ?_
  rintro e _ ⟨A4, k4, c4, rfl, R4, _, ex⟩
  refine au 1 ?_
  obtain ⟨F,B3,Vl⟩ := bC ex F B3 Vl
  rw [hzs.out, List.append_assoc, ← hfs k hlt] at R4; replace R4 := R4.lower Vw
  refine au 8 ?_
  refine ae ?_
  refine Vr _ _ ⟨k + 1, k4, c4, A4, rfl, rfl, by omega, R4.bs, fun _ => R4, F, B3, Vl⟩ Om Ls
 ·obtain rfl : k = 3 := by omega
  have R := hrow Om
  have Vx : fl 3 = Wire.vec l.box ++ Wire.vec l.sign ++ Wire.vec l.ident := by rw [hfl, hys]; simp
  rw [Vx] at R
  have hRl := R.len
  rw [List.length_map, List.length_append] at hRl
  have VA : (Wire.vec l.box ++ Wire.vec l.sign ++ Wire.vec l.ident).length ≤ 4000017 := by unfold dt at hU; simp only [List.length_append] at hU ⊢; omega
  refine au 9 ?_
  refine ak (Y.as (ah rfl Tn.u rfl (B3.get (i := 3) rfl)) (uB hs)) ?_
  refine af (aB (z := .int .u8 0) Tn.u Kr rfl rfl rfl rfl rfl) rfl ?_
  rintro _ _ ⟨_, rfl, B5, _, ex⟩
  replace R := R.ext ex
  refine af (aQ rfl rfl bF R (At.fT (vs := [UInt8.ofNat l.src].map bv) (B5.congr (by rfl))) rfl aH Om Om (Nat.le_trans F.size ex.size)) rfl ?_
  rintro _ _ ⟨A6, c6, rfl, R6, be, _, _⟩
  replace F := (F.ext ex).trans be; replace R6 := R6.cat; replace B3 := (B3.ext ex).below be Vn; have E := E0.tr F
  refine aU ?_
  refine al rfl (fun Vy => ?_) (fun Vy => ?_)
  ·refine aU ?_
   have Vz := E.size
   refine aL func162 rfl (sB R6.bs (Bs.ext b4 E) Om Om) ?_
   rintro e _ ⟨A7, k7, c7, rfl, R7, _, ex⟩
   replace E := E.ext ex
   refine aU ?_
   refine hret rfl ?_
   refine ⟨A7, k7, c7, rfl, (R7.lower Vz).congr rfl ?_, E⟩
   unfold dt
   rw [if_pos Om]
   simp only [List.append_assoc]
  ·refine aU ?_
   refine hret rfl ?_
   refine ⟨A6, _, c6, rfl, (R6.lower E0.size).congr rfl ?_, E⟩
   unfold dt
   rw [if_neg Om]
   simp only [List.append_assoc, List.append_nil]
def kf (l : bO) : List UInt8 × Nat := if aC l then (jx l, 0) else ([], 3)
theorem kv {cs : Array Value} {l : bO} (w : World) (H : dz w cs l) (hf : l.Fit) :
  Ct 216 #[.agg cs] w fun e w' => ∃ A' k c', e = .returned (.tuple #[.slice A' k c', .int .u8 (((kf l).2 : Nat) : Int)]) ∧ Row w' w.heap.size 5 A' k c' ((kf l).1.map bv) ∧ Ext w w' := by
 have hU := jn hf
 have HH := H
 obtain ⟨h0, h1, h2, h4, h5, rfl, hs, b0, b1, b2, b4, b5⟩ := H
 have l5 := b5.1
 obtain ⟨f0, f1, f2, f4, f5⟩ := id hf
 have E := Ext.refl w
 refine bK 12 func216 rfl rfl rfl rfl ?_
 intro _ hret
 refine aU ?_
 intro _ _ B1 _ ex
 replace E := E.ext ex
 refine aU ?_
 refine aL func140 rfl (kj _ (HH.ext E)) ?_
 rintro e _ ⟨rfl, ex⟩
 obtain ⟨E,B1⟩ := aY ex E B1
 refine aU ?_
 refine bW rfl (fun Vl => ?_) (fun Vl => ?_)
 ·refine aU ?_
  refine hret rfl rfl ?_
  have hno : ¬ aC l := by simpa using Vl
  have e1 : kf l = ([], 3) := by unfold kf; rw [if_neg hno]
  rw [e1]
  exact ⟨none, 0, 0, rfl, Row.empty _ _ _, E⟩
 ·refine aU ?_
  refine aA Kr 7 rfl ?_; intro Vo ex Vp
  obtain ⟨E,B1⟩ := aY ex E B1
  refine zm [0, 2, 3] ?_
  refine bm 1 rfl func199 rfl (lE _ (Bs.nil _ none) Om (HH.ext E) hf) ?_
  rintro e _ ⟨_, _, _, rfl, R3, ex⟩
  refine aU ?_
  replace E := E.ext ex
  have Vm := R3.bs.1
  have Vn := E.size; rw [List.nil_append] at Vm
  refine bm 4 rfl func162 rfl (sB R3.bs (Bs.ext b5 E) Om Om) ?_
  rintro e _ ⟨A4, k4, c4, rfl, R4, _, ex⟩
  replace E := E.ext ex
  refine zm [5, 6] ?_
  refine hret rfl rfl ?_
  have hyes : aC l := by simpa using Vl
  have e1 : kf l = (jx l, 0) := by unfold kf; rw [if_pos hyes]
  rw [e1]
  exact ⟨A4, k4, c4, rfl, (R4.lower Vn).congr rfl (by unfold jx; rw [List.nil_append]), E⟩
end
section
open Go.RowKit
namespace Wire
end Wire
open Wire Nd
namespace Nd
def Good (s : St) : Prop := ∀ c, s = .error c → c ≠ 0
end Nd
end
section
open Go.RowKit
attribute [local irreducible] Y Ef WL WC WK WQ WM cx WN WF cT WJ gZ
open Wire Nd
def Node.Small (n : Node) : Prop := n.leaf.box.length ≤ 200 ∧ n.leaf.sign.length ≤ 200 ∧ n.leaf.ident.length ≤ 200 ∧ n.leaf.parent.length ≤ 200 ∧ n.leaf.sig.length ≤ 200 ∧ n.par.box.length ≤ 200 ∧ n.par.hash.length ≤ 200 ∧ n.par.late.length ≤ 60
instance (n : Node) : Decidable n.Small := by unfold Node.Small; exact inferInstance
theorem Node.Small.fit {n : Node} (h : n.Small) : n.Fit := by
 obtain ⟨h1, h2, h3, h4, h5, h6, h7, h8⟩ := h
 exact ⟨⟨by omega, by omega, by omega, by omega, by omega⟩, by omega, by omega, by omega⟩
namespace Nd
end Nd
end
end Go.Proofs.YtgfafidlkldeaaaGreat
