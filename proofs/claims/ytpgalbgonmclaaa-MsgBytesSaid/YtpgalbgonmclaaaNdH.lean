/- Nodes that are taken of bytes at a place: what the reference answers. -/
import Derived.Test.YtpgalbgonmclaaaNdE
import Derived.Test.YtpgalbgonmclaaaNdC
/- Leaves and nodes that are taken of bytes at a place: what the reference answers. -/
namespace Go.Proofs.Ytpgalbgonmclaaa
open Go.RowKit
attribute [local irreducible] Y Ef WL WC WK WQ WM OpM WN WF OpN
open Wire Nd
namespace Nd
end Nd
/-- A leaf whose slices lie in given bytes. -/
def LeafS (A : Option Addr) (n : Nat) (b : List UInt8) (cs : Array Value) (l : Leaf) : Prop := LeafC (fun h xs => Sub A n b h.A h.n xs) cs l
theorem LeafS.at {A : Option Addr} {n : Nat} {b : List UInt8} {cs : Array Value} {l : Leaf} {w : World} (h : LeafS A n b cs l) (HA : Bs w A n b) : LeafAt w cs l := LeafC.imp h fun _ _ s => s w HA
theorem Sub.nil (A : Option Addr) (n : Nat) (b : List UInt8) : Sub A n b none 0 [] := fun w _ => Bs.nil w _
theorem LeafS.zero (A : Option Addr) (n : Nat) (b : List UInt8) : LeafS A n b zLeafV Leaf.zero := ⟨nilH, nilH, nilH, nilH, nilH, rfl, by decide, Sub.nil _ _ _, Sub.nil _ _ _, Sub.nil _ _ _, Sub.nil _ _ _, Sub.nil _ _ _⟩
theorem At.slot {w : World} {A : Option Addr} {vals : List Value} {j : Nat} {v : Value} (h : At w A vals) (hj : vals[j]? = some v) : ∃ bb oo, A = some ⟨bb, oo, none⟩ ∧ w.cell? ⟨bb, oo + j, none⟩ = some v := by
  rcases h with h | ⟨b, o, hA, hc⟩
  · subst h; cases hj
  · exact ⟨b, o, hA, hc _ _ hj⟩
end Go.Proofs.Ytpgalbgonmclaaa

namespace Go.Proofs.Ytpgalbgonmclaaa
open Go.RowKit
attribute [local irreducible] Y Ef WL WC WK WQ WM OpM WN WF OpN
open Wire Nd
def NodeS (A : Option Addr) (n : Nat) (b : List UInt8) (base : Nat) (w : World) (cs : Array Value) (x : Node) : Prop := NodeC (fun h xs => Sub A n b h.A h.n xs) (fun h zs => Fz base w h.A h.n zs) cs x
theorem NodeS.at {A : Option Addr} {n base : Nat} {b : List UInt8} {cs : Array Value} {x : Node} {w : World} (h : NodeS A n b base w cs x) (HA : Bs w A n b) : NodeAt w cs x := NodeC.imp h (fun _ _ s => s w HA) (fun _ _ z => z.1)
theorem NodeS.zero (A : Option Addr) (n : Nat) (b : List UInt8) (base : Nat) (w : World) : NodeS A n b base w zNodeV Node.zero :=
  ⟨nilH, nilH, nilH, nilH, nilH, nilH, nilH, nilH, rfl, by decide, by decide, Sub.nil _ _ _, Sub.nil _ _ _, Sub.nil _ _ _, Sub.nil _ _ _, Sub.nil _ _ _, Sub.nil _ _ _, Sub.nil _ _ _, Fz.nil _ _ _⟩
end Go.Proofs.Ytpgalbgonmclaaa
