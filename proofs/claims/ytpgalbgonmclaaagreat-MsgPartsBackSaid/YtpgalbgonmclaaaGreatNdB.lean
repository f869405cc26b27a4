/- Whether parents and nodes are right, empty, or the same: what node and the reference answer. -/
import Derived.Test.YtpgalbgonmclaaaGreatRow
import Derived.Test.YtpgalbgonmclaaaGreatNdA
/- From a row's reading of a node, a leaf or ints to the walk's word for them. No conditions beyond the row's own. -/
namespace Go.Proofs.YtpgalbgonmclaaaGreat
open Go.ChangeShapes Go.WideShapes Go.ChangeAt Go.RowKit
section
variable {H : Type} {enc : TypeId × Value → H} {W : World} {base : Nat} {spare : Nat → Bool} {held : Bool}
theorem trod_bytesC {fuel : Nat} {cs : List Value} {x : DataW H × List MemPlace} (h : DataW.trod enc Tryz.prog W base spare held fuel 22 cs = some x) : ∃ a n c xs, cs = [.slice a n c] ∧ Bs W a n xs ∧ n ≤ c := by
  have h' := h
  rcases open_ints Tryz.underlying22 Tryz.underlying5 (by kernel_rfl) h with ⟨hcs, _⟩ | ⟨x, l, c, zs, hcs, _⟩
  · obtain ⟨⟨xs, hb⟩, _, hm⟩ := open_bytesC (a := none) (len := 0) (cap := 0) ⟨fuel, by simpa [Value.cells, hcs] using h'⟩
    exact ⟨none, 0, 0, xs, hcs, hb, hm⟩
  · obtain ⟨⟨xs, hb⟩, _, hm⟩ := open_bytesC (a := some x) (len := l) (cap := c) ⟨fuel, by simpa [Value.cells, hcs] using h'⟩
    exact ⟨some x, l, c, xs, hcs, hb, hm⟩
theorem sub_at {cs : List Value} {o k i : Nat} {v : Value} (hi : i < k) (h : ((cs.drop o).take k)[i]? = some v) : cs[o + i]? = some v := by
  rwa [List.getElem?_take_of_lt hi, List.getElem?_drop] at h
theorem trod_leaf {fuel : Nat} {cs : List Value} {x : DataW H × List MemPlace} (h : DataW.trod enc Tryz.prog W base spare held fuel 25 cs = some x) :
    cs.length = 6 ∧ ∃ (h0 h1 h2 h4 h5 : Hd) (l : Leaf), (∀ i, i < 6 → cs[i]? = (leafV h0 h1 h2 l.src h4 h5)[i]?) ∧ l.src < 256 ∧ (BsH W h0 l.box ∧ h0.n ≤ h0.c) ∧ (BsH W h1 l.sign ∧ h1.n ≤ h1.c) ∧ (BsH W h2 l.ident ∧ h2.n ≤ h2.c) ∧ (BsH W h4 l.parent ∧ h4.n ≤ h4.c) ∧ BsH W h5 l.sig ∧ h5.n ≤ h5.c := by
  obtain ⟨fuel', hl, hfs⟩ := trod_struct Tryz.underlying25 h
  have hc : Tryz.prog.cellsOf 25 = 6 := by kernel_rfl
  rw [hc] at hl
  have c1 : Tryz.prog.cellsOf 22 = 1 := by kernel_rfl
  have c2 : Tryz.prog.cellsOf 5 = 1 := by kernel_rfl
  obtain ⟨y0, t0⟩ := hfs 0 _ rfl
  obtain ⟨y1, t1⟩ := hfs 1 _ rfl
  obtain ⟨y2, t2⟩ := hfs 2 _ rfl
  obtain ⟨y3, t3⟩ := hfs 3 _ rfl
  obtain ⟨y4, t4⟩ := hfs 4 _ rfl
  obtain ⟨y5, t5⟩ := hfs 5 _ rfl
  obtain ⟨A0, n0, k0, x0, e0, b0⟩ := trod_bytesC t0
  obtain ⟨A1, n1, k1, x1, e1, b1⟩ := trod_bytesC t1
  obtain ⟨A2, n2, k2, x2, e2, b2⟩ := trod_bytesC t2
  obtain ⟨N, e3, m3⟩ := trod_u8 t3
  obtain ⟨A4, n4, k4, x4, e4, b4⟩ := trod_bytesC t4
  obtain ⟨A5, n5, k5, x5, e5, b5⟩ := trod_bytesC t5
  have q0 := take1 (i := 0) c1 e0
  have q1 := take1 (i := 1) c1 e1
  have q2 := take1 (i := 2) c1 e2
  have q3 := take1 (i := 3) c2 e3
  have q4 := take1 (i := 4) c1 e4
  have q5 := take1 (i := 5) c1 e5
  refine ⟨hl, ⟨A0, n0, k0⟩, ⟨A1, n1, k1⟩, ⟨A2, n2, k2⟩, ⟨A4, n4, k4⟩, ⟨A5, n5, k5⟩, ⟨x0, x1, x2, N, x4, x5⟩, fun i hi => ?_, m3, b0, b1, b2, b4, b5⟩
  match i with
  | 0 => exact q0
  | 1 => exact q1
  | 2 => exact q2
  | 3 => exact q3
  | 4 => exact q4
  | 5 => exact q5
  | i + 6 => omega
end
end Go.Proofs.YtpgalbgonmclaaaGreat

namespace Go.Proofs.YtpgalbgonmclaaaGreat
open Go.RowKit
attribute [local irreducible] Y Ef WL WC WK WQ WM OpM WN WF OpN
def Leaf.Fit (l : Leaf) : Prop := l.box.length ≤ 1000000 ∧ l.sign.length ≤ 1000000 ∧ l.ident.length ≤ 1000000 ∧ l.parent.length ≤ 1000000 ∧ l.sig.length ≤ 1000000
def Par.Fit (p : Par) : Prop := p.box.length ≤ 1000000 ∧ p.hash.length ≤ 1000000 ∧ p.late.length ≤ 1000000
def Node.Fit (n : Node) : Prop := n.leaf.Fit ∧ n.par.Fit
/-- A node's parts, as its fields lie in it. -/
theorem NodeC.parts {B : Hd → List UInt8 → Prop} {Z : Hd → List Int → Prop} {cs : Array Value} {n : Node} (h : NodeC B Z cs n) : n.kind < 256 ∧ cs.size = 10 ∧ cs[0]? = some (.int .u8 (n.kind : Int)) ∧ LeafC B ((cs.toList.drop 1).take 6).toArray n.leaf ∧ ParC B Z ((cs.toList.drop 7).take 3).toArray n.par := by
  obtain ⟨h0, h1, h2, h4, h5, p0, p1, p2, rfl, hk, hs, b0, b1, b2, b4, b5, q0, q1, q2⟩ := h
  exact ⟨hk, rfl, rfl, ⟨h0, h1, h2, h4, h5, rfl, hs, b0, b1, b2, b4, b5⟩, ⟨p0, p1, p2, rfl, q0, q1, q2⟩⟩
end Go.Proofs.YtpgalbgonmclaaaGreat
