/- From a row's reading of a proposal, a commit, a message, a welcome or an info to the walk's word for it. No conditions beyond the row's own. -/
import Derived.Test.YtpgalbgonmclaaaGreatRow
import Derived.Test.YtpgalbgonmclaaaGreatCtxA
import Derived.Test.YtpgalbgonmclaaaGreatNdA
import Derived.Test.YtpgalbgonmclaaaGreatMsA
import Derived.Test.YtpgalbgonmclaaaGreatMsM
namespace Go.Proofs.YtpgalbgonmclaaaGreat
open Go.ChangeShapes Go.WideShapes Go.ChangeAt Go.RowKit
section
variable {H : Type} {enc : TypeId × Value → H} {W : World} {base : Nat} {spare : Nat → Bool} {held : Bool}
theorem PropAt.get {w : World} {cs : Array Value} {p : Prop20} (h : PropAt w cs p) : ∃ i h0 h1 h2 s h4 h5 g l0 l1 l2 t l4 l5, cs = propV p.kind i h0 h1 h2 s h4 h5 g l0 l1 l2 t l4 l5 p.at_ ∧ PropAt w (propV p.kind i h0 h1 h2 s h4 h5 g l0 l1 l2 t l4 l5 p.at_) p := by
  have H := h
  obtain ⟨i, h0, h1, h2, h4, h5, g, l0, l1, l2, l4, l5, rfl, _⟩ := h
  exact ⟨_, _, _, _, _, _, _, _, _, _, _, _, _, _, rfl, H⟩
theorem LeafAt.get {w : World} {cs : Array Value} {l : Leaf} (h : LeafAt w cs l) : ∃ h0 h1 h2 s h4 h5, cs = leafV h0 h1 h2 s h4 h5 ∧ LeafAt w (leafV h0 h1 h2 s h4 h5) l := by
  have H := h
  obtain ⟨h0, h1, h2, h4, h5, rfl, _⟩ := h
  exact ⟨_, _, _, _, _, _, rfl, H⟩
end
end Go.Proofs.YtpgalbgonmclaaaGreat
