/- Appends to a row that begins inside its block. Cuts of an array behind a pointer:. -/
import Derived.Test.YtopimmomkapdoaaVc7
import Derived.ArgAppend
namespace Go.Proofs.Ytopimmomkapdoaa
section
open Go.RowKit
section
variable {P : Program} {w : World} {ty : TypeId}
/-- A row of one-cell values that may begin inside its block. -/
def Off (w : World) (base : Nat) (e : TypeId) (A : Option Addr) (n c : Nat) (xs : List Value) : Prop :=
  xs.length = n ∧ ((A = none ∧ n = 0 ∧ c = 0) ∨ ∃ g off cur, A = some ⟨g, off, none⟩ ∧ base ≤ g ∧ w.heap[g]? = some (.cells cur e (0, 0)) ∧ n ≤ c ∧ c ≤ maxLen ∧ off + c ≤ cur.size ∧ (cur.toList.drop off).take n = xs)
theorem run_append_off_room (t e : TypeId) (i : TypeInfo) (ht : P.underlying t = some (.slice e)) (hi : P.info? e = some i) (hs : i.size = 1) (g off n c : Nat) (cur : Array Value) (hg : w.heap[g]? = some (.cells cur e (0, 0))) (a : Addr) (m c2 : Nat) (news : List Value) (hl : news.length = m)
    (hnews : ∀ j u, news[j]? = some u → w.cell? (a.add j) = some u) (h1 : ∀ u ∈ news, u.oneCell' = true) (hroom : n + m ≤ c) (hfit : off + c ≤ cur.size) :
    (Builtin.append_ #[t, t] ty #[.slice (some ⟨g, off, none⟩) n c, .slice (some a) m c2]).run P w = .ok (.slice (some ⟨g, off, none⟩) (n + m) c) (w.setRow g (cur.toList.take (off + n) ++ news ++ cur.toList.drop (off + n + news.length)).toArray) := by
  have hfc := run_firstCells_some (P := P) w 1 m a m c2 news (by omega) hnews
  have hst := run_storeCells_at (P := P) g (off + n) e news 0 cur w hg (by omega) h1
  simp only [Nat.add_zero] at hst
  simp [Builtin.append_, run_underlying ht, sizeOf, typeInfo, hi, hs, Builtin.lenOf, hroom, hfc, Addr.add_lit, hst]
theorem Off.ofRow {base n c : Nat} {e : TypeId} {A : Option Addr} {xs : List Value} (h : Row w base e A n c xs) : Off w base e A n c xs := by
  refine ⟨h.len, ?_⟩
  rcases h.2 with ⟨hv, hn⟩ | ⟨g, cap, cur, hv, hb, hg, hnc, hcm, hcs, ht⟩
  · injection hv with h1 h2 h3; exact .inl ⟨h1, hn, h3⟩
  · injection hv with h1 h2 h3
    subst h3
    exact .inr ⟨g, 0, cur, h1, hb, hg, hnc, hcm, by omega, by simpa using ht⟩
theorem Off.at {base n c : Nat} {e : TypeId} {A : Option Addr} {xs : List Value} (h : Off w base e A n c xs) : At w A xs := by
  rcases h.2 with ⟨hA, hn, _⟩ | ⟨g, off, cur, hA, hb, hg, hnc, hcm, hcs, ht⟩
  · exact .inl (List.eq_nil_of_length_eq_zero (by rw [h.1]; exact hn))
  · refine .inr ⟨g, off, hA, fun j u hj => ?_⟩
    have hlt : j < n := by rw [← h.1]; exact (List.getElem?_eq_some_iff.1 hj).1
    rw [← ht, List.getElem?_take_of_lt hlt, List.getElem?_drop, Array.getElem?_toList] at hj
    rw [cell_of_row _ _ _ cur e (0, 0) hg]; exact hj
theorem run_append_off {base bytes n c m c2 : Nat} {t e : TypeId} (hE : Elt P t e bytes) {A B : Option Addr} {xs ys : List Value} (hown : Off w base e A n c xs) (hr : At w B ys) (hl : ys.length = m) (h1 : ∀ u ∈ ys, u.oneCell' = true)
    (hlen : (n + m) * bytes ≤ 140737488355328) (h63 : n + m ≤ 140737488355328) (hbase : base ≤ w.heap.size) :
    ∃ A' c' w', (Builtin.append_ #[t, t] ty #[.slice A n c, .slice B m c2]).run P w = .ok (.slice A' (n + m) c') w' ∧ Off w' base e A' (n + m) c' (xs ++ ys) ∧ w.grownBy w' (Value.slice A n c).ownBlock ∧
      ((Value.slice A' (n + m) c').ownBlock = (Value.slice A n c).ownBlock ∨ ∀ k, (Value.slice A' (n + m) c').ownBlock = some k → w.heap.size ≤ k) := by
  obtain ⟨hx, hc⟩ := hown
  rcases hc with ⟨rfl, rfl, rfl⟩ | ⟨g, off, cur, rfl, hb, hg, hnc, hcm, hcs, ht⟩
  · have hx' : xs = [] := List.eq_nil_of_length_eq_zero hx
    subst hx'
    obtain ⟨v', w', hrun, h2, _, h4, h5⟩ := run_append (P := P) (w0 := w) base t ty e bytes hE (.slice none 0 0) 0 [] (World.ownsRow_nil _ _ _ _) B m c2 ys hl hr h1 hlen h63 (Below.refl _ _) hbase
    obtain ⟨A', c', rfl⟩ := own_shape h2
    exact ⟨A', c', w', hrun, Off.ofRow h2, h4, h5.imp id fun h k hk => by rw [h] at hk; injection hk with hk; omega⟩
  · obtain ⟨hu, i, z, hi, hz, hs, hby, hzs⟩ := hE
    have hat : ∀ j u, xs[j]? = some u → w.cell? ((⟨g, off, none⟩ : Addr).add j) = some u := fun j u hj => by
      rw [Addr.add_plain, cell_of_row _ _ _ cur e (0, 0) hg]
      have hlt : j < n := by rw [← hx]; exact (List.getElem?_eq_some_iff.1 hj).1
      rw [← ht, List.getElem?_take_of_lt hlt, List.getElem?_drop, Array.getElem?_toList] at hj
      exact hj
    rcases B with _ | a
    · have hy : ys = [] := by
        rcases hr with h | ⟨b, o, h, _⟩
        · exact h
        · cases h
      subst hy
      simp only [List.length_nil] at hl
      subst hl
      refine ⟨some ⟨g, off, none⟩, c, w, ?_, ⟨by simpa using hx, .inr ⟨g, off, cur, rfl, hb, hg, by omega, hcm, hcs, by simpa using ht⟩⟩, World.grownBy.refl w _, .inl rfl⟩
      simp [Builtin.append_, run_underlying hu, sizeOf, typeInfo, hi, Builtin.lenOf, Builtin.firstCells, hnc, storeCells]
    · have hnew : ∀ j u, ys[j]? = some u → w.cell? (a.add j) = some u := fun j u hj => by
        rcases hr with h | ⟨b, o, h, hc⟩
        · subst h; simp at hj
        · injection h with h; subst h; rw [Addr.add_plain]; exact hc j u hj
      by_cases hroom : n + m ≤ c
      · refine ⟨_, _, _, run_append_off_room (P := P) (ty := ty) t e i hu hi hs g off n c cur hg a m c2 ys hl hnew h1 hroom hcs, ⟨by rw [List.length_append]; omega, .inr ⟨g, off, _, rfl, hb, setRow_heap w g cur _ e _ hg, hroom, hcm, ?_, ?_⟩⟩, ⟨rfl, rfl, rfl, by simp, fun k _ hk => setRow_other w g k _ (fun e => hk (by simp [Value.ownBlock, e]))⟩, .inl rfl⟩
        · simp only [List.size_toArray, List.length_append, List.length_take, List.length_drop, Array.length_toList]; omega
        · have hcl : cur.toList.length = cur.size := Array.length_toList
          rw [List.append_assoc, List.drop_append_of_le_length (by rw [List.length_take]; omega)]
          rw [List.drop_take, show off + n - off = n by omega, ht, ← List.append_assoc, List.take_append_of_le_length (by rw [List.length_append]; omega), List.take_of_length_le (by rw [List.length_append]; omega)]
      · obtain ⟨v', w', hrun, h2, h3⟩ := run_append_arg_grows (P := P) (w := w) t ty e i z 1 bytes hu hi hz hs hby hzs (by omega) ⟨g, off, none⟩ n c xs (by omega) hat a m c2 ys (by omega) hnew (by omega) (by unfold maxLen; omega) hlen
        obtain ⟨A', c', rfl⟩ := own_shape h2
        have h2' : Row w' base e A' (n + m) c' (xs ++ ys) := Row.lower h2 hbase
        refine ⟨A', c', w', hrun, Off.ofRow h2', ⟨h3.os, h3.tape, h3.output, h3.size, fun k hk _ => h3.block k hk (by simp)⟩, ?_⟩
        exact .inr fun k hk => (World.ownsRow.lt h2 k hk).1
/-- 'append(s, x...)', s a row that may begin inside its block. -/
theorem ef_appO {L : List (Nat × Value)} {x y : Operand} {A B : Option Addr} {n m c c2 base bytes : Nat} {t e : TypeId} {xs ys : List Value} (hx : ev L x = some (.slice A n c)) (hy : ev L y = some (.slice B m c2)) (hE : Elt P t e bytes) (hown : Off w base e A n c xs) (hr : At w B ys) (hl : ys.length = m) (h1 : ∀ u ∈ ys, u.oneCell' = true)
    (hlen : (n + m) * bytes ≤ 140737488355328) (h63 : n + m ≤ 140737488355328) (hbase : base ≤ w.heap.size) : Ef P L w (.call { callee := .builtin .append, args := #[x, y], argTypes := #[t, t] }) ty fun v w' =>
      ∃ A' c', v = .slice A' (n + m) c' ∧ Off w' base e A' (n + m) c' (xs ++ ys) ∧ Below base w w' ∧ w.grownBy w' (Value.slice A n c).ownBlock ∧ ((Value.slice A' (n + m) c').ownBlock = (Value.slice A n c).ownBlock ∨ ∀ k, (Value.slice A' (n + m) c').ownBlock = some k → w.heap.size ≤ k) := Ef.run fun ρ hρ => by
  obtain ⟨A', c', w', hrun, h2, h3, h4⟩ := run_append_off (P := P) (ty := ty) (c2 := c2) hE hown hr hl h1 hlen h63 hbase
  refine ⟨_, w', ⟨A', c', rfl, h2, (Below.refl base w).grown h3 hbase fun k hk => ?_, h3, h4⟩, fun _ _ _ _ => by simp [execOp, resolve, invoke, builtin, hρ _ _ hx, hρ _ _ hy, hrun]⟩
  rcases hown.2 with ⟨rfl, _, _⟩ | ⟨g, off, cur, rfl, hb, _⟩
  · simp [Value.ownBlock] at hk
  · simp only [Value.ownBlock, Option.some.injEq] at hk; omega
/-- A cut of such a row. -/
theorem Off.cut {base n c j g off : Nat} {e : TypeId} {xs : List Value} (h : Off w base e (some ⟨g, off, none⟩) n c xs) (hj : j ≤ n) : Off w base e (some ⟨g, off + j, none⟩) (n - j) (c - j) (xs.drop j) := by
  refine ⟨by rw [List.length_drop, h.1], ?_⟩
  rcases h.2 with ⟨hA, _⟩ | ⟨g', off', cur, hA, hb, hg, hnc, hcm, hcs, ht⟩
  · cases hA
  · injection hA with hA
    injection hA with h1 h2 _
    subst h1; subst h2
    refine .inr ⟨g, off + j, cur, rfl, hb, hg, by omega, by unfold maxLen at *; omega, by omega, ?_⟩
    rw [← ht, List.drop_take, List.drop_drop]
end
end
section
open Go.RowKit
theorem y_cutarrl {P : Program} {L : List (Nat × Value)} {w : World} {t ty e : TypeId} {x y : Operand} {b off n j s : Nat} {k : IntKind} {a : Int} (hx : ev L x = some (.pointer (some ⟨b, off, none⟩))) (hy : ev L y = some (.int k a)) (hu : P.underlying t = some (.array n e)) (hs : (P.info? e).map (·.size) = some s) (ha : a = (j : Int)) (hj : j < n) :
    Y P L w (.slice t x (some y) none none) ty (.slice (some ⟨b, off + j * s, none⟩) (n - j) (n - j)) := fun ρ hρ w' _ _ _ _ _ => by
  subst ha
  have hb : ((Instr.sliceBounds false n n (some (.int k j)) none none).run P w') = .ok (j, n, n) w' := by
    have := Nat.le_of_lt hj
    simp [Instr.sliceBounds, Instr.sliceBound, asIntOf, this]
  have hne : ¬ (n = j) := by omega
  simp [execOp, hρ _ _ hx, hρ _ _ hy, Instr.sliceAt, Instr.sureAddr, run_underlying hu, hb, size_of_info hs, hne, Addr.add_plain]
theorem y_cutarrh {P : Program} {L : List (Nat × Value)} {w : World} {t ty e : TypeId} {x y : Operand} {A : Addr} {n j s : Nat} {k : IntKind} {a : Int} (hx : ev L x = some (.pointer (some A))) (hy : ev L y = some (.int k a)) (hu : P.underlying t = some (.array n e)) (hs : (P.info? e).map (·.size) = some s) (ha : a = (j : Int)) (hj : j ≤ n) :
    Y P L w (.slice t x none (some y) none) ty (.slice (some A) j n) := fun ρ hρ w' _ _ _ _ _ => by
  subst ha
  have hb : ((Instr.sliceBounds false n n none (some (.int k j)) none).run P w') = .ok (0, j, n) w' := by
    simp [Instr.sliceBounds, Instr.sliceBound, asIntOf, hj]
  simp [execOp, hρ _ _ hx, hρ _ _ hy, Instr.sliceAt, Instr.sureAddr, run_underlying hu, hb, size_of_info hs, Addr.add]
end
end Go.Proofs.Ytopimmomkapdoaa
