/- What bytes of messages, infos, welcomes and secrets are read as, plainly: there, and back. No conditions: plain lemmas. -/
import Derived.Test.YtpgalbgonmclaaaGreatMsP
import Derived.Test.YtpgalbgonmclaaaGreatNdL
import Derived.Test.YtpgalbgonmclaaaGreatMsN
/- What bytes of packages, proposals, commits and messages are read as, plainly: there and back. No conditions: plain lemmas. -/
namespace Go.Proofs.YtpgalbgonmclaaaGreat
open Go.RowKit
namespace M20
open Wire Nd
/-! Each thing in its turn. -/
def badX : St → St
  | .ok _ => .error 3
  | .error c => .error c
def justX (k n : Nat) (s : St) : St := match (numX k s).2 with
  | .ok r => if (numX k s).1 = n then .ok r else .error 3
  | .error c => .error c
def flagX (s : St) : Bool × St := match (numX 1 s).2 with
  | .ok r => if 1 < (numX 1 s).1 then (false, .error 3) else (decide ((numX 1 s).1 = 1), .ok r)
  | .error c => (false, .error c)
def leafI : St → Leaf × St
  | .ok xs => ((leafX (.ok xs)).1.1, if (leafX (.ok xs)).1.2 ≠ 0 then .error (leafX (.ok xs)).1.2 else (leafX (.ok xs)).2)
  | .error c => (Leaf.zero, .error c)
def packX (s : St) : Pack × St :=
  let i := vecX (justX 2 1 (justX 2 1 s))
  let l := leafI i.2
  let g := vecX l.2
  (⟨i.1, l.1, g.1⟩, g.2)
def propX (s : St) : Prop20 × St :=
  let k := numX 1 s
  if k.1 = 1 then (⟨1, (packX k.2).1, Leaf.zero, 0⟩, (packX k.2).2)
  else if k.1 = 2 then (⟨2, Pack.zero, (leafI k.2).1, 0⟩, (leafI k.2).2)
  else if k.1 = 3 then (⟨3, Pack.zero, Leaf.zero, ((numX 4 k.2).1 : Int)⟩, (numX 4 k.2).2)
  else (⟨k.1, Pack.zero, Leaf.zero, 0⟩, badX k.2)
def itemX (s : St) : Item20 × St :=
  let k := numX 1 s
  if k.1 = 1 then (⟨[], (propX k.2).1⟩, (propX k.2).2)
  else if k.1 = 2 then (⟨(vecX k.2).1, Prop20.zero⟩, (vecX k.2).2)
  else (⟨[], Prop20.zero⟩, badX k.2)
/-- What is in a vector, one behind the other. -/
def eachN {α : Type} (f : St → α × St) : Nat → List UInt8 → List α × St
  | 0, ys => ([], .ok ys)
  | _ + 1, [] => ([], .ok [])
  | n + 1, y :: ys => match (f (.ok (y :: ys))).2 with
    | .error c => ([(f (.ok (y :: ys))).1], .error c)
    | .ok r => ((f (.ok (y :: ys))).1 :: (eachN f n r).1, (eachN f n r).2)
def eachX {α : Type} (f : St → α × St) (s : St) : List α × St := match (vecX s).2 with
  | .error c => ([], .error c)
  | .ok r => ((eachN f ((vecX s).1.length) (vecX s).1).1, match (eachN f ((vecX s).1.length) (vecX s).1).2 with
    | .error c => .error c
    | .ok _ => .ok r)
def bxdX (s : St) : Bxd × St := (⟨(vecX s).1, (vecX (vecX s).2).1⟩, (vecX (vecX s).2).2)
def stpX (s : St) : Stp × St := (⟨(vecX s).1, (eachX bxdX (vecX s).2).1⟩, (eachX bxdX (vecX s).2).2)
def comX (s : St) : Com20 × St :=
  let i := eachX itemX s
  let h := flagX i.2
  if h.1 then (⟨i.1, true, ⟨(leafI h.2).1, (eachX stpX (leafI h.2).2).1⟩⟩, (eachX stpX (leafI h.2).2).2)
  else (⟨i.1, false, Way20.zero⟩, h.2)
/-! There. -/
end M20
end Go.Proofs.YtpgalbgonmclaaaGreat

/- What is signed tells what is meant; the law MsgApart. -/
namespace Go.Proofs.YtpgalbgonmclaaaGreat
open Go.RowKit
attribute [local irreducible] Y Ef WL WC WK WQ WM OpM WN WF OpN
namespace M20
open Wire Nd
end M20
open M20
theorem Told.code {w : World} {ok : Prop} {xs : List UInt8} {A : Option Addr} {k z : Nat} (h : Told w ok xs A k z) : (z = 0 ↔ ok) ∧ (z = 0 ∨ z = 3) := by
  by_cases o : ok
  · have := (h.1 o).1; exact ⟨⟨fun _ => o, fun _ => this⟩, .inl this⟩
  · have := (h.2 o).1; exact ⟨⟨fun e => by omega, fun e => absurd e o⟩, .inr this⟩
theorem MsgAt.ep {w : World} {cs : Array Value} {m : Mess} (h : MsgAt w cs m) : m.epoch < 18446744073709551616 := by
  obtain ⟨gr, i, h0, h1, h2, s, h4, h5, g, l0, l1, l2, t, l4, l5, it, c0, c1, c2, q, c4, c5, ct, sg, tg, mb, _, a, _⟩ := h
  exact a
end Go.Proofs.YtpgalbgonmclaaaGreat

namespace Go.Proofs.YtpgalbgonmclaaaGreat
open Go.RowKit
namespace M20
open Wire Nd
/-! Back: what is read stands there. -/
def thenX (r : List UInt8) : St → St
  | .ok _ => .ok r
  | .error c => .error c
theorem eachX_no {α : Type} {f : St → α × St} {s : St} {c : Nat} (h : (vecX s).2 = .error c) : eachX f s = ([], .error c) := by unfold eachX; rw [h]
theorem eachX_yes {α : Type} {f : St → α × St} {s : St} {r : List UInt8} (h : (vecX s).2 = .ok r) : eachX f s = ((eachN f (vecX s).1.length (vecX s).1).1, thenX r (eachN f (vecX s).1.length (vecX s).1).2) := by
  unfold eachX; rw [h]
  dsimp only
  cases (eachN f (vecX s).1.length (vecX s).1).2 <;> rfl
theorem thenX_ok {q r : List UInt8} {t : St} (h : thenX q t = .ok r) : ∃ z, t = .ok z ∧ q = r := by
  cases t with
  | error c => cases h
  | ok z => injection h with h; exact ⟨z, rfl, h⟩
theorem st_cases (t : St) : (∃ c, t = .error c) ∨ ∃ q, t = .ok q := by
  cases t with
  | error c => exact .inl ⟨c, rfl⟩
  | ok q => exact .inr ⟨q, rfl⟩
/-! Messages. -/
end M20
end Go.Proofs.YtpgalbgonmclaaaGreat
