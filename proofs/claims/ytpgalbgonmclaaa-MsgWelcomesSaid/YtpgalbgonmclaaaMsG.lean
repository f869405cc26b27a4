/- Slices of structs in memory, read element by element. No conditions: plain lemmas. -/
import Derived.Test.YtpgalbgonmclaaaMsE
namespace Go.Proofs.Ytpgalbgonmclaaa
open Go.RowKit
/-- A slice of structs of sz cells: each element's cells are as R says. -/
def Els {α : Type} (R : World → Array Value → α → Prop) (sz : Nat) (w : World) (A : Option Addr) (n : Nat) (xs : List α) : Prop :=
  xs.length = n ∧ ∃ vs : List Value, vs.length = n * sz ∧ At w A vs ∧ ∀ i x, xs[i]? = some x → R w ((vs.drop (i * sz)).take sz).toArray x
section
variable {α : Type} {R : World → Array Value → α → Prop} {sz : Nat} {w w' : World} {A : Option Addr} {n : Nat} {xs : List α}
theorem Els.ext (h : Els R sz w A n xs) (e : Ext w w') (hR : ∀ cs x, R w cs x → R w' cs x) : Els R sz w' A n xs := by
  obtain ⟨h1, vs, h2, h3, h4⟩ := h
  exact ⟨h1, vs, h2, h3.ext e, fun i x hx => hR _ _ (h4 i x hx)⟩
theorem Els.nil (R : World → Array Value → α → Prop) (sz : Nat) (w : World) (A : Option Addr) : Els R sz w A 0 [] := ⟨rfl, [], by simp, .inl rfl, fun i x hx => by simp at hx⟩
theorem Els.get (h : Els R sz w A n xs) (hz : 0 < sz) {i : Nat} (hi : i < n) :
    ∃ b off cs x, A = some ⟨b, off, none⟩ ∧ b < w.heap.size ∧ xs[i]? = some x ∧ cs.size = sz ∧ R w cs x ∧ ∀ j v, cs[j]? = some v → w.cell? ⟨b, off + (i * sz + j), none⟩ = some v := by
  obtain ⟨h1, vs, h2, h3, h4⟩ := h
  obtain ⟨x, hx⟩ : ∃ x, xs[i]? = some x := ⟨xs[i]'(by omega), List.getElem?_eq_getElem _⟩
  have hmul : (i + 1) * sz ≤ n * sz := Nat.mul_le_mul_right sz (by omega)
  rw [Nat.add_mul, Nat.one_mul] at hmul
  rcases h3 with h0 | ⟨b, off, hA, hc⟩
  · rw [h0] at h2; simp at h2; omega
  · have hcell : ∀ j v, ((vs.drop (i * sz)).take sz).toArray[j]? = some v → w.cell? ⟨b, off + (i * sz + j), none⟩ = some v := fun j v hv => by
      have hj : j < sz := by
        rcases Nat.lt_or_ge j sz with h | h
        · exact h
        · rw [Array.getElem?_eq_none (by simp; omega)] at hv; cases hv
      rw [List.getElem?_toArray, List.getElem?_take_of_lt hj, List.getElem?_drop] at hv
      exact hc _ _ hv
    have hs : ((vs.drop (i * sz)).take sz).toArray.size = sz := by simp; omega
    obtain ⟨v, hv⟩ : ∃ v, ((vs.drop (i * sz)).take sz).toArray[0]? = some v := ⟨_, Array.getElem?_eq_getElem (by rw [hs]; exact hz)⟩
    exact ⟨b, off, _, x, hA, cell_lt (hcell 0 v hv), hx, hs, h4 i x hx, hcell⟩
theorem Els.get2 (h : Els R sz w A n xs) (hz : 0 < sz) {i : Nat} (hi : i < n) :
    ∃ b off cs x, A = some ⟨b, off, none⟩ ∧ b < w.heap.size ∧ xs[i]? = some x ∧ cs.size = sz ∧ R w cs x ∧ ∀ j v, cs[j]? = some v → w.cell? ⟨b, off + i * sz + j, none⟩ = some v := by
  obtain ⟨b, off, cs, x, h1, h2, h3, h4, h5, h6⟩ := h.get hz hi
  exact ⟨b, off, cs, x, h1, h2, h3, h4, h5, fun j v hv => by rw [Nat.add_assoc]; exact h6 j v hv⟩
end
section
variable {P : Program} {L : List (Nat × Value)} {w : World} {ty t e : TypeId} {x y : Operand}
theorem y_ixsE {A : Option Addr} {b off n m j s : Nat} {k : IntKind} {a : Int} (e1 : A = some ⟨b, off, none⟩) (hx : ev L x = some (.slice A n m)) (hy : ev L y = some (.int k a)) (hu : P.underlying t = some (.slice e)) (hs : (P.info? e).map (·.size) = some s) (ha : a = (j : Int)) (hj : j < n) :
    Y P L w (.indexAddr t x y) ty (.pointer (some ⟨b, off + j * s, none⟩)) := by
  subst e1
  exact y_ixsp hx hy hu hs ha hj
end
theorem take_snoc {α : Type} {xs : List α} {i : Nat} {x : α} (h : xs[i]? = some x) : xs.take (i + 1) = xs.take i ++ [x] := by
  obtain ⟨hlt, he⟩ := List.getElem?_eq_some_iff.1 h
  rw [List.take_succ_eq_append_getElem hlt, he]
theorem all_snoc {α : Type} {p : α → Prop} {xs : List α} {i : Nat} {x : α} (h : xs[i]? = some x) (ha : ∀ y ∈ xs.take i, p y) (hx : p x) : ∀ y ∈ xs.take (i + 1), p y := by
  rw [take_snoc h]
  intro y hy
  rcases List.mem_append.1 hy with h | h
  · exact ha y h
  · simp only [List.mem_singleton] at h; subst h; exact hx
theorem all_full {α : Type} {p : α → Prop} {xs : List α} {i : Nat} (hi : xs.length ≤ i) (ha : ∀ y ∈ xs.take i, p y) : ∀ y ∈ xs, p y := by
  rwa [List.take_of_length_le hi] at ha
theorem ix_mem {α : Type} {xs : List α} {i : Nat} {x : α} (h : xs[i]? = some x) : x ∈ xs := List.mem_of_getElem? h
end Go.Proofs.Ytpgalbgonmclaaa
