/- Nodes that are taken of bytes at a place: what the reference answers. -/
import Derived.Test.YtpgalbgonmclaaaNdG
namespace Go.Proofs.Ytpgalbgonmclaaa
open Go.RowKit
attribute [local irreducible] Y Ef WL WC WK WQ WM OpM WN WF OpN
open Wire Nd
def NodeS (A : Option Addr) (n : Nat) (b : List UInt8) (base : Nat) (w : World) (cs : Array Value) (x : Node) : Prop := NodeC (fun h xs => Sub A n b h.A h.n xs) (fun h zs => Fz base w h.A h.n zs) cs x
theorem NodeS.at {A : Option Addr} {n base : Nat} {b : List UInt8} {cs : Array Value} {x : Node} {w : World} (h : NodeS A n b base w cs x) (HA : Bs w A n b) : NodeAt w cs x := NodeC.imp h (fun _ _ s => s w HA) (fun _ _ z => z.1)
theorem NodeS.zero (A : Option Addr) (n : Nat) (b : List UInt8) (base : Nat) (w : World) : NodeS A n b base w zNodeV Node.zero :=
  ⟨nilH, nilH, nilH, nilH, nilH, nilH, nilH, nilH, rfl, by decide, by decide, Sub.nil _ _ _, Sub.nil _ _ _, Sub.nil _ _ _, Sub.nil _ _ _, Sub.nil _ _ _, Sub.nil _ _ _, Sub.nil _ _ _, Fz.nil _ _ _⟩
end Go.Proofs.Ytpgalbgonmclaaa
