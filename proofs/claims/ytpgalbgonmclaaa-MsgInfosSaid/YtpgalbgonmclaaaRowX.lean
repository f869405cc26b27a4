/- From a row's reading of a context to the walk's word for it. No conditions beyond the row's own. -/
import Derived.Test.YtpgalbgonmclaaaRow
import Derived.Test.YtpgalbgonmclaaaCtxA
namespace Go.Proofs.Ytpgalbgonmclaaa
open Go.ChangeShapes Go.WideShapes Go.ChangeAt Go.RowKit
section
variable {H : Type} {enc : TypeId × Value → H} {W : World} {base : Nat} {spare : Nat → Bool} {held : Bool}
theorem open_ctx {v : Value} {d : DataW H} {p : List MemPlace} (h : DataW.Trod enc Try.prog W base spare held 50 v d p) :
    ∃ cs x, v = .agg cs ∧ CtxAt W cs x ∧ x.ep < 18446744073709551616 ∧ x.grp.length ≤ maxLen ∧ x.tree.length ≤ maxLen ∧ x.trans.length ≤ maxLen := by
  obtain ⟨fuel, hf⟩ := h
  obtain ⟨fuel', hl, hfs⟩ := trod_struct Try.underlying50 hf
  have hc : Try.prog.cellsOf 50 = 4 := by kernel_rfl
  rw [hc] at hl
  have c1 : Try.prog.cellsOf 22 = 1 := by kernel_rfl
  have c2 : Try.prog.cellsOf 46 = 1 := by kernel_rfl
  obtain ⟨y0, h0⟩ := hfs 0 _ rfl
  obtain ⟨y1, h1⟩ := hfs 1 _ rfl
  obtain ⟨y2, h2⟩ := hfs 2 _ rfl
  obtain ⟨y3, h3⟩ := hfs 3 _ rfl
  obtain ⟨A0, n0, k0, g, e0, b0, m0⟩ := trod_bytes h0
  obtain ⟨N, e1, m1⟩ := trod_u64 h1
  obtain ⟨A2, n2, k2, tr, e2, b2, m2⟩ := trod_bytes h2
  obtain ⟨A3, n3, k3, ts, e3, b3, m3⟩ := trod_bytes h3
  have q0 := take1 (i := 0) c1 e0
  have q1 := take1 (i := 1) c2 e1
  have q2 := take1 (i := 2) c1 e2
  have q3 := take1 (i := 3) c1 e3
  have hcs : v.cells.toList = [.slice A0 n0 k0, .int .u64 (N : Int), .slice A2 n2 k2, .slice A3 n3 k3] := by
    apply List.ext_getElem?
    intro i
    match i with
    | 0 => exact q0
    | 1 => exact q1
    | 2 => exact q2
    | 3 => exact q3
    | i + 4 => rw [List.getElem?_eq_none (by omega)]; simp
  refine ⟨_, ⟨g, N, tr, ts⟩, agg_of hcs (by simp), ⟨A0, A2, A3, n0, k0, n2, k2, n3, k3, rfl, b0, b2, b3⟩, m1, ?_, ?_, ?_⟩
  · show g.length ≤ _; rw [b0.1]; exact m0
  · show tr.length ≤ _; rw [b2.1]; exact m2
  · show ts.length ≤ _; rw [b3.1]; exact m3
end
end Go.Proofs.Ytpgalbgonmclaaa
