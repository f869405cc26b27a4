/- Infos, welcomes and a guest's secrets of bytes: what msg hands back. No conditions: contracts of the program's functions. -/
import Derived.Test.YtpgalbgonmclaaaGreatMsW
namespace Go.Proofs.YtpgalbgonmclaaaGreat
open Go.RowKit
attribute [local irreducible] Y Ef WL WC WK WQ WM OpM WN WF OpN WJ OpJ
open Wire Nd M20
def zInfV : Array Value := infV nilH 0 nilH nilH nilH 0 nilH
def zWelV : Array Value := twoV nilH nilH
theorem InfF.zero (base : Nat) (w : World) : InfF base w zInfV Inf.zero := ⟨_, _, _, _, _, rfl, (by decide), (by decide), Fb.nil _ _ _, Fb.nil _ _ _, Fb.nil _ _ _, Fb.nil _ _ _, Fb.nil _ _ _⟩
theorem WelF.zero (base : Nat) (w : World) : WelF base w zWelV Wel.zero := ⟨_, _, rfl, ElsF.nil _ _ _ _ _, Fb.nil _ _ _⟩
theorem InfF.size {base : Nat} {w : World} {cs : Array Value} {x : Inf} (h : InfF base w cs x) : cs.size = 7 ∧ ones cs.toList = true := by
  obtain ⟨g, t, u, tg, sg, rfl, _⟩ := h; exact ⟨rfl, rfl⟩
theorem WelF.size {base : Nat} {w : World} {cs : Array Value} {x : Wel} (h : WelF base w cs x) : cs.size = 2 ∧ ones cs.toList = true := by
  obtain ⟨a, b, rfl, _⟩ := h; exact ⟨rfl, rfl⟩
section
variable {N3 M x gx gs gi base : Nat} {T : List Nat} {st : St}
end
def Inf.Fit (i : Inf) : Prop := i.ctx.grp.length ≤ 1000000 ∧ i.ctx.tree.length ≤ 1000000 ∧ i.ctx.trans.length ≤ 1000000 ∧ i.tag.length ≤ 1000000 ∧ i.sig.length ≤ 1000000
end Go.Proofs.YtpgalbgonmclaaaGreat
