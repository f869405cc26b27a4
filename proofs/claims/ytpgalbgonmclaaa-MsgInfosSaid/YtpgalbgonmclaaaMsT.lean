/- What bytes of messages, infos, welcomes and secrets are read as, plainly: there, and back. No conditions: plain lemmas. -/
import Derived.Test.YtpgalbgonmclaaaMsP
import Derived.Test.YtpgalbgonmclaaaNdL
import Derived.Test.YtpgalbgonmclaaaMsN
/- What bytes of packages, proposals, commits and messages are read as, plainly: there and back. No conditions: plain lemmas. -/
namespace Go.Proofs.Ytpgalbgonmclaaa
open Go.RowKit
namespace M20
open Wire Nd
/-! Each thing in its turn. -/
def justX (k n : Nat) (s : St) : St := match (numX k s).2 with
  | .ok r => if (numX k s).1 = n then .ok r else .error 3
  | .error c => .error c
/-! There. -/
end M20
end Go.Proofs.Ytpgalbgonmclaaa

/- What is signed tells what is meant; the law MsgApart. -/
namespace Go.Proofs.Ytpgalbgonmclaaa
open Go.RowKit
attribute [local irreducible] Y Ef WL WC WK WQ WM OpM WN WF OpN WG OpG
namespace M20
open Wire Nd
def ctxX (s : St) : Ctx × St :=
  let g := vecX (justX 2 1 (justX 2 1 s))
  let e := numX 8 g.2
  let t := vecX e.2
  let u := vecX t.2
  (⟨g.1, e.1, t.1, u.1⟩, justX 1 0 u.2)
end M20
open M20
theorem Told.code {w : World} {ok : Prop} {xs : List UInt8} {A : Option Addr} {k z : Nat} (h : Told w ok xs A k z) : (z = 0 ↔ ok) ∧ (z = 0 ∨ z = 3) := by
  by_cases o : ok
  · have := (h.1 o).1; exact ⟨⟨fun _ => o, fun _ => this⟩, .inl this⟩
  · have := (h.2 o).1; exact ⟨⟨fun e => by omega, fun e => absurd e o⟩, .inr this⟩
theorem MsgAt.ep {w : World} {cs : Array Value} {m : Mess} (h : MsgAt w cs m) : m.epoch < 18446744073709551616 := by
  obtain ⟨gr, i, h0, h1, h2, s, h4, h5, g, l0, l1, l2, t, l4, l5, it, c0, c1, c2, q, c4, c5, ct, sg, tg, mb, _, a, _⟩ := h
  exact a
end Go.Proofs.Ytpgalbgonmclaaa

namespace Go.Proofs.Ytpgalbgonmclaaa
open Go.RowKit
namespace M20
open Wire Nd
/-! Back: what is read stands there. -/
theorem st_cases (t : St) : (∃ c, t = .error c) ∨ ∃ q, t = .ok q := by
  cases t with
  | error c => exact .inl ⟨c, rfl⟩
  | ok q => exact .inr ⟨q, rfl⟩
/-! Messages. -/
end M20
end Go.Proofs.Ytpgalbgonmclaaa
