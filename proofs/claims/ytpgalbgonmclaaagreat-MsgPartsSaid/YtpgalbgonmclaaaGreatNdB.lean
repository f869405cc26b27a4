/- Whether parents and nodes are right, empty, or the same: what node and the reference answer. -/
import Derived.Test.YtpgalbgonmclaaaGreatNdA
namespace Go.Proofs.YtpgalbgonmclaaaGreat
open Go.RowKit
attribute [local irreducible] Y Ef WL WC WK WQ WM OpM WN WF OpN
def Leaf.Fit (l : Leaf) : Prop := l.box.length ≤ 1000000 ∧ l.sign.length ≤ 1000000 ∧ l.ident.length ≤ 1000000 ∧ l.parent.length ≤ 1000000 ∧ l.sig.length ≤ 1000000
def Par.Fit (p : Par) : Prop := p.box.length ≤ 1000000 ∧ p.hash.length ≤ 1000000 ∧ p.late.length ≤ 1000000
def Node.Fit (n : Node) : Prop := n.leaf.Fit ∧ n.par.Fit
/-- A node's parts, as its fields lie in it. -/
theorem NodeC.parts {B : Hd → List UInt8 → Prop} {Z : Hd → List Int → Prop} {cs : Array Value} {n : Node} (h : NodeC B Z cs n) : n.kind < 256 ∧ cs.size = 10 ∧ cs[0]? = some (.int .u8 (n.kind : Int)) ∧ LeafC B ((cs.toList.drop 1).take 6).toArray n.leaf ∧ ParC B Z ((cs.toList.drop 7).take 3).toArray n.par := by
  obtain ⟨h0, h1, h2, h4, h5, p0, p1, p2, rfl, hk, hs, b0, b1, b2, b4, b5, q0, q1, q2⟩ := h
  exact ⟨hk, rfl, rfl, ⟨h0, h1, h2, h4, h5, rfl, hs, b0, b1, b2, b4, b5⟩, ⟨p0, p1, p2, rfl, q0, q1, q2⟩⟩
end Go.Proofs.YtpgalbgonmclaaaGreat
