/- From a row's reading of a slice of byte slices to the walk's word for it. No conditions beyond the row's own. -/
import Derived.Test.YtopbahbhldgbbaaRow
namespace Go.Proofs.Ytopbahbhldgbbaa
open Go.ChangeShapes Go.WideShapes Go.ChangeAt Go.RowKit
section
variable {H : Type} {enc : TypeId × Value → H} {W : World} {base : Nat} {spare : Nat → Bool} {held : Bool}
theorem trodB {fuel : Nat} {cs : List Value} {x : DataW H × List MemPlace} (h : DataW.trod enc Try.prog W base spare held fuel 24 cs = some x) : ∃ a n c xs, cs = [.slice a n c] ∧ Bs W a n xs ∧ n ≤ maxLen := by
  have h' := h
  rcases open_ints Try.underlying24 Try.underlying5 (by kernel_rfl) h with ⟨hcs, _⟩ | ⟨x, l, c, zs, hcs, _⟩
  · obtain ⟨⟨xs, hb⟩, hm⟩ := open_bytes (a := none) (len := 0) (cap := 0) ⟨fuel, by simpa [Value.cells, hcs] using h'⟩
    exact ⟨none, 0, 0, xs, hcs, hb, hm⟩
  · obtain ⟨⟨xs, hb⟩, hm⟩ := open_bytes (a := some x) (len := l) (cap := c) ⟨fuel, by simpa [Value.cells, hcs] using h'⟩
    exact ⟨some x, l, c, xs, hcs, hb, hm⟩
theorem cells_one {a : Addr} {c1 : List Value} (h : W.cells? base a 1 = some c1) : ∃ c, c1 = [c] ∧ W.cell? a = some c := by
  have e0 : a.add 0 = a := by simp [Addr.add]
  unfold World.cells? at h
  split at h
  · simp only [List.range_succ, List.range_zero, List.nil_append, List.mapM_cons, List.mapM_nil, e0] at h
    cases hcc : W.cell? a with
    | none => simp [hcc] at h
    | some c => simp [hcc] at h; exact ⟨c, h.symm, rfl⟩
  · cases h
theorem choose_list {α : Type} {Q : Nat → α → Prop} : ∀ n, (∀ i, i < n → ∃ x, Q i x) → ∃ l : List α, l.length = n ∧ ∀ i (h : i < l.length), Q i l[i]
  | 0, _ => ⟨[], rfl, fun i h => by simp at h⟩
  | n + 1, h => by
    obtain ⟨l, hl, hq⟩ := choose_list n (fun i hi => h i (by omega))
    obtain ⟨x, hx⟩ := h n (by omega)
    refine ⟨l ++ [x], by simp [hl], fun i hi => ?_⟩
    by_cases hin : i < l.length
    · rw [List.getElem_append_left hin]; exact hq i hin
    · have : i = l.length := by simp at hi; omega
      subst this
      simp only [List.getElem_concat_length]
      rw [hl]; exact hx
/-- A slice of byte slices that came in. -/
theorem open_rowsB {a : Option Addr} {len cap : Nat} {d : DataW H} {p : List MemPlace}
    (h : DataW.Trod enc Try.prog W base spare held 22 (.slice a len cap) d p) : (∃ xss, Bss W a len xss) ∧ len ≤ maxLen := by
  obtain ⟨fuel, hf⟩ := h
  have hc : Try.prog.cellsOf 24 = 1 := by kernel_rfl
  rcases DataW.trod_slice Try.underlying22 hf with ⟨hcs, _⟩ | ⟨x, l, c, elems, rest, n, _, hcs, _, _, hl, hm, hlen, hel, _, _⟩
  · simp [Value.cells] at hcs
    obtain ⟨rfl, rfl, rfl⟩ := hcs
    exact ⟨⟨[], rfl, [], rfl, At.nil, fun i hi => by omega⟩, by unfold maxLen; omega⟩
  · simp [Value.cells] at hcs
    obtain ⟨rfl, rfl, rfl⟩ := hcs
    have each : ∀ i, i < len → ∃ q : (Option Addr × Nat × Nat) × List UInt8, W.cell? (x.add i) = some (.slice q.1.1 q.1.2.1 q.1.2.2) ∧ Bs W q.1.1 q.1.2.1 q.2 := fun i hi => by
      have hE := hel i hi
      rw [hc, Nat.mul_one] at hE
      rw [List.getElem?_eq_getElem (by omega)] at hE
      simp only [Option.bind_eq_some_iff] at hE
      obtain ⟨c1, hc1, hy⟩ := hE
      obtain ⟨v, rfl, hv⟩ := cells_one hc1
      obtain ⟨B, m, c', xs, e, hb, _⟩ := trodB hy
      injection e with e _
      subst e
      exact ⟨((B, m, c'), xs), hv, hb⟩
    obtain ⟨qs, hql, hq⟩ := choose_list len each
    refine ⟨⟨qs.map (·.2), by simpa using hql, qs.map (fun q => .slice q.1.1 q.1.2.1 q.1.2.2), by simpa using hql, At.of_add fun j u hu => ?_, fun i hi => ?_⟩, by unfold maxLen at hm ⊢; omega⟩
    · rw [List.getElem?_map] at hu
      cases hj : qs[j]? with
      | none => simp [hj] at hu
      | some q =>
        simp only [hj, Option.map_some, Option.some.injEq] at hu
        subst hu
        obtain ⟨hlt, e⟩ := List.getElem?_eq_some_iff.1 hj
        have := (hq j hlt).1
        rw [e] at this
        exact this
    · have hlt : i < qs.length := by omega
      refine ⟨(qs[i]).1.1, (qs[i]).1.2.1, (qs[i]).1.2.2, by rw [List.getElem?_map, List.getElem?_eq_getElem hlt]; rfl, ?_⟩
      have : (qs.map (·.2)).getD i [] = qs[i].2 := by simp [hlt]
      rw [this]
      exact (hq i hlt).2
end
end Go.Proofs.Ytopbahbhldgbbaa
