/- The reference's infos, welcomes and secrets of bytes; a guest's secrets: what msg and the reference hand back. No conditions: contracts of functions. -/
import Derived.Test.YtpgalbgonmclaaaMuC
import Derived.Test.YtpgalbgonmclaaaPlA
namespace Go.Proofs.Ytpgalbgonmclaaa
open Go.RowKit
attribute [local irreducible] Y Ef WL WC WK WQ WM OpM WN WF OpN WJ OpJ WG OpG
open Wire Nd M20
theorem PlS.get {A0 : Option Addr} {n0 : Nat} {b0 : List UInt8} {cs : Array Value} {s : St} (h : PlS A0 n0 b0 cs s) : ∃ A n c at_ e, cs = placeV A n c at_ e ∧ PlS A0 n0 b0 (placeV A n c at_ e) s := by
  have H := h
  obtain ⟨A, n, c, at_, e, b, rfl, _⟩ := h
  exact ⟨A, n, c, at_, e, rfl, H⟩
def InfS (A0 : Option Addr) (n0 : Nat) (b0 : List UInt8) (cs : Array Value) (x : Inf) : Prop := InfC (fun h xs => Sub A0 n0 b0 h.A h.n xs) cs x
theorem InfS.at {A0 : Option Addr} {n0 : Nat} {b0 : List UInt8} {cs : Array Value} {x : Inf} {w : World} (h : InfS A0 n0 b0 cs x) (HA : Bs w A0 n0 b0) : InfAt w cs x := InfC.imp h fun _ _ s => s w HA
theorem InfS.zero (A0 : Option Addr) (n0 : Nat) (b0 : List UInt8) : InfS A0 n0 b0 zInfV Inf.zero := ⟨_, _, _, _, _, rfl, (by decide), (by decide), Sub.nil _ _ _, Sub.nil _ _ _, Sub.nil _ _ _, Sub.nil _ _ _, Sub.nil _ _ _⟩
end Go.Proofs.Ytpgalbgonmclaaa
