/- Nodes that are taken of bytes at a place: what the reference answers. -/
import Derived.Test.YtpgalbgonmclaaaGreatNdG
namespace Go.Proofs.YtpgalbgonmclaaaGreat
open Go.RowKit
attribute [local irreducible] Y Ef WL WC WK WQ WM OpM WN WF OpN WJ OpJ
open Wire Nd
theorem nb4 (a b c d : UInt8) : nb [a, b, c, d] = ((a.toNat * 256 + b.toNat) * 256 + c.toNat) * 256 + d.toNat := by simp [nb]
theorem Bs.cellN {w : World} {b off n : Nat} {xs : List UInt8} (h : Bs w (some ⟨b, off, none⟩) n xs) {k : Nat} (hk : k < n) : w.cell? ⟨b, off + k, none⟩ = some (.int .u8 ((xs.getD k 0).toNat : Int)) := by
  obtain ⟨b', o', e, _, hc⟩ := h.get hk
  injection e with e
  injection e with e1 e2 _
  subst e1; subst e2
  exact hc
def NodeS (A : Option Addr) (n : Nat) (b : List UInt8) (base : Nat) (w : World) (cs : Array Value) (x : Node) : Prop := NodeC (fun h xs => Sub A n b h.A h.n xs) (fun h zs => Fz base w h.A h.n zs) cs x
theorem NodeS.at {A : Option Addr} {n base : Nat} {b : List UInt8} {cs : Array Value} {x : Node} {w : World} (h : NodeS A n b base w cs x) (HA : Bs w A n b) : NodeAt w cs x := NodeC.imp h (fun _ _ s => s w HA) (fun _ _ z => z.1)
theorem NodeS.zero (A : Option Addr) (n : Nat) (b : List UInt8) (base : Nat) (w : World) : NodeS A n b base w zNodeV Node.zero :=
  ⟨nilH, nilH, nilH, nilH, nilH, nilH, nilH, nilH, rfl, by decide, by decide, Sub.nil _ _ _, Sub.nil _ _ _, Sub.nil _ _ _, Sub.nil _ _ _, Sub.nil _ _ _, Sub.nil _ _ _, Sub.nil _ _ _, Fz.nil _ _ _⟩
end Go.Proofs.YtpgalbgonmclaaaGreat
