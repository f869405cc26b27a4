/- Slices of structs in memory, read element by element. No conditions: plain lemmas. -/
import Derived.Test.YtpgalbgonmclaaaMsE
/- The reference's bytes of proposals. -/
namespace Go.Proofs.Ytpgalbgonmclaaa
open Go.RowKit
attribute [local irreducible] Y Ef WL WC WK WQ WM OpM WN WF OpN
open Nd Wire
/-- An int as 64 bits. -/
def w64 (z : Int) : Nat := (z % 18446744073709551616).toNat
theorem w64_wrap (z : Int) : IntKind.u64.wrap z = ((w64 z : Nat) : Int) := by
  have h : IntKind.u64.wrap z = z % 18446744073709551616 := by simp [IntKind.wrap, IntKind.bits, IntKind.signed]
  rw [h]; unfold w64; omega
theorem w64_lt (z : Int) : w64 z < 18446744073709551616 := by unfold w64; omega
section
variable {cs : Array Value} {q : Prop20}
theorem four20_any (z : Int) (w : World) : Calls Try.prog 78 #[.int .i64 z] w fun e w' => ∃ A' c', e = .returned (.slice A' 4 c') ∧ Row w' w.heap.size 5 A' 4 c' ((be 4 (w64 z)).map bv) ∧ Ext w w' := by
  refine vc_enter1 6 Try.func78 rfl rfl rfl rfl ?_
  intro Q hret
  refine wc_seq ?_; intro K1 hK1
  refine wc_region ?_
  refine wl_y (y_assign rfl) rfl ?_
  refine wl_nil ?_
  refine wq_then_norm (hK1 ?_)
  refine wc_seq ?_; intro K2 hK2
  refine wc_region ?_
  refine wl_y (y_move rfl) rfl ?_
  refine wl_y (y_conv rfl Try.underlying3 Try.underlying46 (w64_wrap z)) rfl ?_
  refine wl_call Try.func97 rfl rfl rfl (refNum_any 4 (w64 z) _ (by omega) (w64_lt z)) rfl ?_
  rintro e w1 ⟨A1, c1, rfl, R1, ex⟩
  refine ⟨_, rfl, ?_⟩
  skip
  refine wl_y (y_assign rfl) rfl ?_
  refine wl_nil ?_
  refine wq_then_norm (hK2 ?_)
  refine wc_ret ?_
  refine hret rfl ?_
  exact ⟨A1, c1, rfl, R1, ex⟩
end
end Go.Proofs.Ytpgalbgonmclaaa

namespace Go.Proofs.Ytpgalbgonmclaaa
open Go.RowKit
/-- A slice of structs of sz cells: each element's cells are as R says. -/
def Els {α : Type} (R : World → Array Value → α → Prop) (sz : Nat) (w : World) (A : Option Addr) (n : Nat) (xs : List α) : Prop :=
  xs.length = n ∧ ∃ vs : List Value, vs.length = n * sz ∧ At w A vs ∧ ∀ i x, xs[i]? = some x → R w ((vs.drop (i * sz)).take sz).toArray x
section
variable {α : Type} {R : World → Array Value → α → Prop} {sz : Nat} {w w' : World} {A : Option Addr} {n : Nat} {xs : List α}
theorem Els.ext (h : Els R sz w A n xs) (e : Ext w w') (hR : ∀ cs x, R w cs x → R w' cs x) : Els R sz w' A n xs := by
  obtain ⟨h1, vs, h2, h3, h4⟩ := h
  exact ⟨h1, vs, h2, h3.ext e, fun i x hx => hR _ _ (h4 i x hx)⟩
theorem Els.nil (R : World → Array Value → α → Prop) (sz : Nat) (w : World) (A : Option Addr) : Els R sz w A 0 [] := ⟨rfl, [], by simp, .inl rfl, fun i x hx => by simp at hx⟩
theorem Els.get (h : Els R sz w A n xs) (hz : 0 < sz) {i : Nat} (hi : i < n) :
    ∃ b off cs x, A = some ⟨b, off, none⟩ ∧ b < w.heap.size ∧ xs[i]? = some x ∧ cs.size = sz ∧ R w cs x ∧ ∀ j v, cs[j]? = some v → w.cell? ⟨b, off + (i * sz + j), none⟩ = some v := by
  obtain ⟨h1, vs, h2, h3, h4⟩ := h
  obtain ⟨x, hx⟩ : ∃ x, xs[i]? = some x := ⟨xs[i]'(by omega), List.getElem?_eq_getElem _⟩
  have hmul : (i + 1) * sz ≤ n * sz := Nat.mul_le_mul_right sz (by omega)
  rw [Nat.add_mul, Nat.one_mul] at hmul
  rcases h3 with h0 | ⟨b, off, hA, hc⟩
  · rw [h0] at h2; simp at h2; omega
  · have hcell : ∀ j v, ((vs.drop (i * sz)).take sz).toArray[j]? = some v → w.cell? ⟨b, off + (i * sz + j), none⟩ = some v := fun j v hv => by
      have hj : j < sz := by
        rcases Nat.lt_or_ge j sz with h | h
        · exact h
        · rw [Array.getElem?_eq_none (by simp; omega)] at hv; cases hv
      rw [List.getElem?_toArray, List.getElem?_take_of_lt hj, List.getElem?_drop] at hv
      exact hc _ _ hv
    have hs : ((vs.drop (i * sz)).take sz).toArray.size = sz := by simp; omega
    obtain ⟨v, hv⟩ : ∃ v, ((vs.drop (i * sz)).take sz).toArray[0]? = some v := ⟨_, Array.getElem?_eq_getElem (by rw [hs]; exact hz)⟩
    exact ⟨b, off, _, x, hA, cell_lt (hcell 0 v hv), hx, hs, h4 i x hx, hcell⟩
end
section
variable {P : Program} {L : List (Nat × Value)} {w : World} {ty t e : TypeId} {x y : Operand}
end
end Go.Proofs.Ytpgalbgonmclaaa
