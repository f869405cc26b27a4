/- From a row's reading of a struct of byte slices to the walk's word for it. No conditions beyond the row's own. -/
import Derived.Test.YtopbahbhldgbbaaRow
import Derived.Test.YtopbahbhldgbbaaSecA
namespace Go.Proofs.Ytopbahbhldgbbaa
open Go.ChangeShapes Go.WideShapes Go.ChangeAt Go.RowKit
theorem mapM_all {α β : Type} {f : α → Option β} : ∀ {l : List α} {ys : List β}, l.mapM f = some ys → ∀ a ∈ l, ∃ b, f a = some b
  | [], _, _, a, ha => by cases ha
  | x :: l, ys, h, a, ha => by
    rw [List.mapM_cons] at h
    cases hx : f x with
    | none => simp [hx] at h
    | some y =>
      cases hl : l.mapM f with
      | none => simp [hx, hl] at h
      | some zs =>
        rcases List.mem_cons.1 ha with rfl | ha
        · exact ⟨y, hx⟩
        · exact mapM_all hl a ha
section
variable {H : Type} {enc : TypeId × Value → H} {W : World} {base : Nat} {spare : Nat → Bool} {held : Bool}
/-- A struct that came in: its cells, and that each field reads as it should. -/
theorem trod_struct {t : TypeId} {fs : Array Field} {fuel : Nat} {cs : List Value} {x : DataW H × List MemPlace} (hu : Try.prog.underlying t = some (.struct fs)) (h : DataW.trod enc Try.prog W base spare held fuel t cs = some x) :
    ∃ fuel', cs.length = Try.prog.cellsOf t ∧ ∀ (i : Nat) (f : Field), fs[i]? = some f → ∃ y, DataW.trod enc Try.prog W base spare held fuel' f.type ((cs.drop f.offset).take (Try.prog.cellsOf f.type)) = some y := by
  cases fuel with
  | zero => simp [DataW.trod] at h
  | succ fuel =>
    simp only [DataW.trod, hu] at h
    split at h
    · rename_i hl
      refine ⟨fuel, hl, fun i f hf => ?_⟩
      cases hm : (fs.toList.mapM fun f => DataW.trod enc Try.prog W base spare held fuel f.type ((cs.drop f.offset).take (Try.prog.cellsOf f.type))) with
      | none => simp [hm] at h
      | some ys => exact mapM_all hm f (by rw [← Array.getElem?_toList] at hf; exact List.mem_of_getElem? hf)
    · cases h
theorem trod_bytes {fuel : Nat} {cs : List Value} {x : DataW H × List MemPlace} (h : DataW.trod enc Try.prog W base spare held fuel 24 cs = some x) : ∃ a n c xs, cs = [.slice a n c] ∧ Bs W a n xs ∧ n ≤ maxLen := by
  have h' := h
  rcases open_ints Try.underlying24 Try.underlying5 (by kernel_rfl) h with ⟨hcs, _⟩ | ⟨x, l, c, zs, hcs, _⟩
  · obtain ⟨⟨xs, hb⟩, hm⟩ := open_bytes (a := none) (len := 0) (cap := 0) ⟨fuel, by simpa [Value.cells, hcs] using h'⟩
    exact ⟨none, 0, 0, xs, hcs, hb, hm⟩
  · obtain ⟨⟨xs, hb⟩, hm⟩ := open_bytes (a := some x) (len := l) (cap := c) ⟨fuel, by simpa [Value.cells, hcs] using h'⟩
    exact ⟨some x, l, c, xs, hcs, hb, hm⟩
theorem trod_u64 {fuel : Nat} {cs : List Value} {x : DataW H × List MemPlace} (h : DataW.trod enc Try.prog W base spare held fuel 37 cs = some x) : ∃ n : Nat, cs = [.int .u64 (n : Int)] ∧ n < 18446744073709551616 := by
  cases fuel with
  | zero => simp [DataW.trod] at h
  | succ fuel =>
    simp only [DataW.trod, Try.underlying37] at h
    split at h <;> first | (rename_i hk; cases hk; done) | (rename_i hk _; cases hk; done) | skip
    all_goals first
      | (cases h; done)
      | (split at h
         · rename_i k hk2 k2 z hk1 hw
           injection hk1 with hk1
           injection hk1 with hk1
           subst hk1
           obtain ⟨rfl, hw⟩ := hw
           have hz : 0 ≤ z ∧ z ≤ 18446744073709551615 := by simpa [Lit.wf, IntKind.min, IntKind.max, IntKind.bits, IntKind.signed] using hw
           obtain ⟨N, rfl⟩ : ∃ N : Nat, z = N := Int.eq_ofNat_of_zero_le hz.1
           exact ⟨N, rfl, by omega⟩
         · cases h)
/-- What has more cells than one is a struct's or an array's value. -/
theorem agg_of {v : Value} {cs : List Value} (h : v.cells.toList = cs) (h1 : cs.length ≠ 1) : v = .agg cs.toArray := by
  cases v <;> first | (exfalso; apply h1; rw [← h]; rfl) | (simp only [Value.cells] at h; subst h; rfl)
theorem take1 {cs : List Value} {i k : Nat} {v : Value} (hk : k = 1) (h : (cs.drop i).take k = [v]) : cs[i]? = some v := by
  subst hk
  have : ((cs.drop i).take 1)[0]? = some v := by rw [h]; rfl
  rwa [List.getElem?_take_of_lt (by omega), List.getElem?_drop, Nat.add_zero] at this
theorem open_ctx {v : Value} {d : DataW H} {p : List MemPlace} (h : DataW.Trod enc Try.prog W base spare held 39 v d p) :
    ∃ cs x, v = .agg cs ∧ CtxAt W cs x ∧ x.ep < 18446744073709551616 ∧ x.grp.length ≤ maxLen ∧ x.tree.length ≤ maxLen ∧ x.trans.length ≤ maxLen := by
  obtain ⟨fuel, hf⟩ := h
  obtain ⟨fuel', hl, hfs⟩ := trod_struct Try.underlying39 hf
  have hc : Try.prog.cellsOf 39 = 4 := by kernel_rfl
  rw [hc] at hl
  have c1 : Try.prog.cellsOf 24 = 1 := by kernel_rfl
  have c2 : Try.prog.cellsOf 37 = 1 := by kernel_rfl
  obtain ⟨y0, h0⟩ := hfs 0 _ rfl
  obtain ⟨y1, h1⟩ := hfs 1 _ rfl
  obtain ⟨y2, h2⟩ := hfs 2 _ rfl
  obtain ⟨y3, h3⟩ := hfs 3 _ rfl
  obtain ⟨A0, n0, k0, g, e0, b0, m0⟩ := trod_bytes h0
  obtain ⟨N, e1, m1⟩ := trod_u64 h1
  obtain ⟨A2, n2, k2, tr, e2, b2, m2⟩ := trod_bytes h2
  obtain ⟨A3, n3, k3, ts, e3, b3, m3⟩ := trod_bytes h3
  have q0 := take1 (i := 0) c1 e0
  have q1 := take1 (i := 1) c2 e1
  have q2 := take1 (i := 2) c1 e2
  have q3 := take1 (i := 3) c1 e3
  have hcs : v.cells.toList = [.slice A0 n0 k0, .int .u64 (N : Int), .slice A2 n2 k2, .slice A3 n3 k3] := by
    apply List.ext_getElem?
    intro i
    match i with
    | 0 => exact q0
    | 1 => exact q1
    | 2 => exact q2
    | 3 => exact q3
    | i + 4 => rw [List.getElem?_eq_none (by omega)]; simp
  refine ⟨_, ⟨g, N, tr, ts⟩, agg_of hcs (by simp), ⟨A0, A2, A3, n0, k0, n2, k2, n3, k3, rfl, b0, b2, b3⟩, m1, ?_, ?_, ?_⟩
  · show g.length ≤ _; rw [b0.1]; exact m0
  · show tr.length ≤ _; rw [b2.1]; exact m2
  · show ts.length ≤ _; rw [b3.1]; exact m3
theorem open_sec {v : Value} {d : DataW H} {p : List MemPlace} (h : DataW.Trod enc Try.prog W base spare held 42 v d p) :
    ∃ cs l, v = .agg cs ∧ SecAt W cs l ∧ ∀ i, (l.getD i []).length ≤ maxLen := by
  obtain ⟨fuel, hf⟩ := h
  obtain ⟨fuel', hl, hfs⟩ := trod_struct Try.underlying42 hf
  have hc : Try.prog.cellsOf 42 = 12 := by kernel_rfl
  rw [hc] at hl
  have c1 : Try.prog.cellsOf 24 = 1 := by kernel_rfl
  have key : ∀ i, i < 12 → ∃ A n c xs, v.cells.toList[i]? = some (.slice A n c) ∧ Bs W A n xs ∧ n ≤ maxLen := by
    intro i hi
    match i, hi with
    | 0, _ => obtain ⟨y, h⟩ := hfs 0 _ rfl; obtain ⟨A, n, c, xs, e, b, m⟩ := trod_bytes h; exact ⟨A, n, c, xs, take1 (i := 0) c1 e, b, m⟩
    | 1, _ => obtain ⟨y, h⟩ := hfs 1 _ rfl; obtain ⟨A, n, c, xs, e, b, m⟩ := trod_bytes h; exact ⟨A, n, c, xs, take1 (i := 1) c1 e, b, m⟩
    | 2, _ => obtain ⟨y, h⟩ := hfs 2 _ rfl; obtain ⟨A, n, c, xs, e, b, m⟩ := trod_bytes h; exact ⟨A, n, c, xs, take1 (i := 2) c1 e, b, m⟩
    | 3, _ => obtain ⟨y, h⟩ := hfs 3 _ rfl; obtain ⟨A, n, c, xs, e, b, m⟩ := trod_bytes h; exact ⟨A, n, c, xs, take1 (i := 3) c1 e, b, m⟩
    | 4, _ => obtain ⟨y, h⟩ := hfs 4 _ rfl; obtain ⟨A, n, c, xs, e, b, m⟩ := trod_bytes h; exact ⟨A, n, c, xs, take1 (i := 4) c1 e, b, m⟩
    | 5, _ => obtain ⟨y, h⟩ := hfs 5 _ rfl; obtain ⟨A, n, c, xs, e, b, m⟩ := trod_bytes h; exact ⟨A, n, c, xs, take1 (i := 5) c1 e, b, m⟩
    | 6, _ => obtain ⟨y, h⟩ := hfs 6 _ rfl; obtain ⟨A, n, c, xs, e, b, m⟩ := trod_bytes h; exact ⟨A, n, c, xs, take1 (i := 6) c1 e, b, m⟩
    | 7, _ => obtain ⟨y, h⟩ := hfs 7 _ rfl; obtain ⟨A, n, c, xs, e, b, m⟩ := trod_bytes h; exact ⟨A, n, c, xs, take1 (i := 7) c1 e, b, m⟩
    | 8, _ => obtain ⟨y, h⟩ := hfs 8 _ rfl; obtain ⟨A, n, c, xs, e, b, m⟩ := trod_bytes h; exact ⟨A, n, c, xs, take1 (i := 8) c1 e, b, m⟩
    | 9, _ => obtain ⟨y, h⟩ := hfs 9 _ rfl; obtain ⟨A, n, c, xs, e, b, m⟩ := trod_bytes h; exact ⟨A, n, c, xs, take1 (i := 9) c1 e, b, m⟩
    | 10, _ => obtain ⟨y, h⟩ := hfs 10 _ rfl; obtain ⟨A, n, c, xs, e, b, m⟩ := trod_bytes h; exact ⟨A, n, c, xs, take1 (i := 10) c1 e, b, m⟩
    | 11, _ => obtain ⟨y, h⟩ := hfs 11 _ rfl; obtain ⟨A, n, c, xs, e, b, m⟩ := trod_bytes h; exact ⟨A, n, c, xs, take1 (i := 11) c1 e, b, m⟩
  obtain ⟨f, hfx⟩ : ∃ f : Nat → List UInt8, ∀ i, i < 12 → ∃ A n c, v.cells.toList[i]? = some (.slice A n c) ∧ Bs W A n (f i) ∧ n ≤ maxLen := by
    have hex : ∀ i, ∃ xs : List UInt8, i < 12 → ∃ A n c, v.cells.toList[i]? = some (.slice A n c) ∧ Bs W A n xs ∧ n ≤ maxLen := by
      intro i
      by_cases hi : i < 12
      · obtain ⟨A, n, c, xs, h1, h2, h3⟩ := key i hi
        exact ⟨xs, fun _ => ⟨A, n, c, h1, h2, h3⟩⟩
      · exact ⟨[], fun h => absurd h hi⟩
    exact ⟨fun i => Classical.choose (hex i), fun i hi => Classical.choose_spec (hex i) hi⟩
  have hget : ∀ i, i < 12 → ((List.range 12).map f).getD i [] = f i := fun i hi => by simp [hi]
  refine ⟨v.cells.toList.toArray, (List.range 12).map f, agg_of rfl (by omega), ⟨_, rfl, hl, by simp, fun i hi => ?_⟩, fun i => ?_⟩
  · obtain ⟨A, n, c, h1, h2, h3⟩ := hfx i hi
    exact ⟨A, n, c, h1, by rw [hget i hi]; exact h2⟩
  · by_cases hi : i < 12
    · obtain ⟨A, n, c, h1, h2, h3⟩ := hfx i hi
      rw [hget i hi, h2.1]; exact h3
    · rw [List.getD_eq_getElem?_getD, List.getElem?_eq_none (by simp; omega)]; exact Nat.zero_le _
end
end Go.Proofs.Ytopbahbhldgbbaa
