/- From a row's reading of a welcome or an info to the walk's word for it. No conditions beyond the row's own. -/
import Derived.Test.YtpgalbgonmclaaaRowC
import Derived.Test.YtpgalbgonmclaaaMsU
namespace Go.Proofs.Ytpgalbgonmclaaa
open Go.ChangeShapes Go.WideShapes Go.ChangeAt Go.RowKit
section
variable {H : Type} {enc : TypeId × Value → H} {W : World} {base : Nat} {spare : Nat → Bool} {held : Bool}
theorem trod_guest {fuel : Nat} {cs : List Value} {x : DataW H × List MemPlace} (h : DataW.trod enc Try.prog W base spare held fuel 142 cs = some x) : ∃ p, GstAt W cs.toArray p := by
  obtain ⟨fuel', hl, hfs⟩ := trod_struct Try.underlying142 h
  have hc : Try.prog.cellsOf 142 = 3 := by kernel_rfl
  rw [hc] at hl
  have c0 : Try.prog.cellsOf 22 = 1 := by kernel_rfl
  have c1 : Try.prog.cellsOf 111 = 2 := by kernel_rfl
  obtain ⟨_, t0⟩ := hfs 0 _ rfl
  obtain ⟨_, t1⟩ := hfs 1 _ rfl
  obtain ⟨A0, n0, k0, r0, e0, b0, _⟩ := trod_bytes t0
  obtain ⟨b, f0, f1, e1, v0, v1⟩ := trod_boxed t1
  have e : cs.drop 0 = _ := one_of (o := 0) c0 e0
  rw [some_of (o := 1) c1 e1, end_of hl] at e
  refine ⟨⟨r0, b.enc, b.box⟩, ⟨A0, n0, k0⟩, f0, f1, ?_, b0, v0, v1⟩
  rw [show cs = _ from e]
  rfl
theorem trod_wel {fuel : Nat} {cs : List Value} {x : DataW H × List MemPlace} (h : DataW.trod enc Try.prog W base spare held fuel 80 cs = some x) : ∃ p, WelAt W cs.toArray p := by
  obtain ⟨fuel', hl, hfs⟩ := trod_struct Try.underlying80 h
  have hc : Try.prog.cellsOf 80 = 2 := by kernel_rfl
  rw [hc] at hl
  have c0 : Try.prog.cellsOf 22 = 1 := by kernel_rfl
  have c1 : Try.prog.cellsOf 78 = 1 := by kernel_rfl
  obtain ⟨_, t0⟩ := hfs 0 _ rfl
  obtain ⟨_, t1⟩ := hfs 1 _ rfl
  obtain ⟨A0, n0, k0, r0, e0, b0, _⟩ := trod_els (R := GstAt) (sz := 3) Try.underlying78 (by kernel_rfl) (fun _ _ _ h => trod_guest h) t0
  obtain ⟨A1, n1, k1, r1, e1, b1, _⟩ := trod_bytes t1
  have e : cs.drop 0 = _ := one_of (o := 0) c1 e0
  rw [one_of (o := 1) c0 e1, end_of hl] at e
  refine ⟨⟨r0, r1⟩, ⟨A0, n0, k0⟩, ⟨A1, n1, k1⟩, ?_, b0, b1⟩
  rw [show cs = _ from e]
  rfl
theorem open_wel {v : Value} {d : DataW H} {p : List MemPlace} (h : DataW.Trod enc Try.prog W base spare held 80 v d p) : ∃ cs x, v = .agg cs ∧ WelAt W cs x := by
  obtain ⟨fuel, hf⟩ := h
  obtain ⟨x, hx⟩ := trod_wel hf
  obtain ⟨_, hl, _⟩ := trod_struct Try.underlying80 hf
  exact ⟨_, x, agg_of rfl (by rw [hl]; decide +kernel), hx⟩
end
end Go.Proofs.Ytpgalbgonmclaaa
