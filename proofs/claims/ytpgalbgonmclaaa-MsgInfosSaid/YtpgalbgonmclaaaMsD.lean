/- The text, the bytes and the name of packages: what msg and the reference hand back. -/
import Derived.Test.YtpgalbgonmclaaaMsC
namespace Go.Proofs.Ytpgalbgonmclaaa
open Go.RowKit
attribute [local irreducible] Y Ef WL WC WK WQ WM OpM WN WF OpN
open Nd Wire
/-- What is told: bytes of what may be, or nothing and 3. -/
def Told (w : World) (ok : Prop) (xs : List UInt8) (A : Option Addr) (k : Nat) (z : Nat) : Prop := (ok → z = 0 ∧ Bs w A k xs) ∧ (¬ ok → z = 3 ∧ k = 0)
theorem Told.ext {w w' : World} {ok : Prop} {xs : List UInt8} {A : Option Addr} {k z : Nat} (h : Told w ok xs A k z) (e : Ext w w') : Told w' ok xs A k z := ⟨fun o => ⟨(h.1 o).1, (h.1 o).2.ext e⟩, h.2⟩
section
variable {cs : Array Value} {l : Leaf} {p : Pack} {q : Prop20} {g : Nat} {t : TypeId}
end
end Go.Proofs.Ytpgalbgonmclaaa
