/- The ladder's step and product on field elements: what dh's step and product hand back. -/
import Derived.Test.YtopimmomkapdoaaFieldQ
import Derived.Test.YtopimmomkapdoaaVc7
namespace Go.Proofs.Ytopimmomkapdoaa
open Go.RowKit
attribute [local irreducible] Y Ef WL WC WK WQ WM OpM WN WF OpN
theorem FE.fe {cs : Array Value} {a : Fp.F} (h : FE cs a) : ∃ f, cs = fe f ∧ FE (fe f) a := by
  obtain ⟨f, rfl, h1, h2⟩ := h; exact ⟨f, rfl, f, rfl, h1, h2⟩
/-- A pair of field elements. -/
def pr (f g : Nat → Nat) : Array Value := fe f ++ fe g
theorem pr_size (f g : Nat → Nat) : (pr f g).size = 10 := by rw [pr, Array.size_append, fe_size, fe_size]
theorem pr_one (f g : Nat → Nat) : (pr f g).all (·.oneCell') = true := by rw [pr, Array.all_append, fe_one, fe_one]; rfl
theorem pr_fst (f g : Nat → Nat) (j : Nat) (v : Value) (h : (fe f)[j]? = some v) : (pr f g)[j]? = some v := by
  rw [pr, Array.getElem?_append_left (Array.getElem?_eq_some_iff.1 h).1]; exact h
theorem pr_snd (f g : Nat → Nat) (j : Nat) (v : Value) (h : (fe g)[j]? = some v) : (pr f g)[5 + j]? = some v := by
  rw [pr, Array.getElem?_append_right (by rw [fe_size]; omega), fe_size, Nat.add_sub_cancel_left]; exact h
theorem pr_zero : pr (fun _ => 0) (fun _ => 0) = #[.int .u64 0, .int .u64 0, .int .u64 0, .int .u64 0, .int .u64 0, .int .u64 0, .int .u64 0, .int .u64 0, .int .u64 0, .int .u64 0] := rfl
section
variable {L : List (Nat × Value)} {w : World} {ty e : TypeId} {x : Operand} {g : Nat} {f h : Nat → Nat}
/-- A field element read out of a block. -/
theorem y_lE (hx : ev L x = some (.pointer (some ⟨g, 0, none⟩))) (B : Blk w g e (fe f)) : Y Try.prog L w (.load 62 x) ty (.agg (fe f)) := y_loadw hx Try.underlying62 rfl (by rw [fe_size]; kernel_rfl) B
theorem y_lP0 (hx : ev L x = some (.pointer (some ⟨g, 0, none⟩))) (B : Blk w g e (pr f h)) : Y Try.prog L w (.load 62 x) ty (.agg (fe f)) :=
  y_loadp hx Try.underlying62 rfl (by rw [fe_size]; kernel_rfl) fun j v hv => by rw [Addr.add_plain, Nat.zero_add, B.cell]; exact pr_fst f h j v hv
theorem y_lP1 (hx : ev L x = some (.pointer (some ⟨g, 5, none⟩))) (B : Blk w g e (pr f h)) : Y Try.prog L w (.load 62 x) ty (.agg (fe h)) :=
  y_loadp hx Try.underlying62 rfl (by rw [fe_size]; kernel_rfl) fun j v hv => by rw [Addr.add_plain, B.cell]; exact pr_snd f h j v hv
end
/-- One step of the ladder on quotients. -/
def lad (px pz qx qz u : Fp.F) : (Fp.F × Fp.F) × (Fp.F × Fp.F) :=
  let a := px + pz; let b := px - pz; let c := qx + qz; let d := qx - qz
  let da := d * a; let cb := c * b; let aa := a * a; let bb := b * b; let e := aa - bb
  ((aa * bb, e * (aa + e * Fp.of 121665)), ((da + cb) * (da + cb), u * ((da - cb) * (da - cb))))
end Go.Proofs.Ytopimmomkapdoaa
