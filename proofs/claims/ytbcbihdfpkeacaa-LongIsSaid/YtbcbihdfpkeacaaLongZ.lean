/- 'append(s, make([]T, m)...)': a row that the call owns and that holds something, and m zeros. -/
import Derived.Test.YtbcbihdfpkeacaaOffA
import Derived.Lib.AppendZeros
namespace Go.Proofs.Ytbcbihdfpkeacaa
open Go.RowKit
section
variable {P : Program} {w : World} {ty : TypeId}
theorem run_append_roomZ (t tn e : TypeId) (i : TypeInfo) (z : Value) (k kn : IntKind) (ht : P.underlying t = some (.slice e)) (htn : P.underlying tn = some (.int kn)) (hi : P.info? e = some i) (hz : i.zero = some z)
    (g sLen sCap m : Nat) (cur : Array Value) (hg : w.heap[g]? = some (.cells cur e (0, 0))) (hs : i.size = 1) (h0 : 0 < m) (h63 : (m : Int) ≤ 9223372036854775807) (h48 : m * i.bytes ≤ 281474976710656)
    (news : List Value) (hnews : (Builtin.zeroCells z.cells m).toList = news) (h1 : ∀ u ∈ news, u.oneCell' = true) (hroom : sLen + m ≤ sCap) (hfit : sLen + news.length ≤ cur.size) :
    (Builtin.append_ #[t, tn] ty #[.slice (some ⟨g, 0, none⟩) sLen sCap, .int k m]).run P w = .ok (.slice (some ⟨g, 0, none⟩) (sLen + m) sCap) (w.setRow g (cur.toList.take sLen ++ news ++ cur.toList.drop (sLen + news.length)).toArray) := by
  have hst := run_storeCells_at P g sLen e news 0 cur w hg (by simpa using hfit) h1
  simp only [Nat.add_zero] at hst
  have hw : IntKind.i64.wrap (m : Int) = m := by rw [IntKind.wrap_i64]; omega
  have hneg : ¬ ((m : Int) < 0) := by omega
  have hm0 : m ≠ 0 := by omega
  have h48i : ¬ (281474976710656 < (m : Int) * (i.bytes : Int)) := by rw [← Int.natCast_mul]; omega
  simp [Builtin.append_, run_underlying ht, run_underlying htn, sizeOf, typeInfo, zeroValue, hi, hz, asInt, asIntOf, hw, hneg, hm0, hs, h48i, hroom, Addr.add_lit, hnews, hst]
theorem run_append_growZ (t tn e : TypeId) (i : TypeInfo) (z : Value) (k kn : IntKind) (ht : P.underlying t = some (.slice e)) (htn : P.underlying tn = some (.int kn)) (hi : P.info? e = some i) (hz : i.zero = some z)
    (b : Addr) (sLen sCap m : Nat) (olds : List Value) (hlo : olds.length = sLen * i.size) (holds : ∀ j v, olds[j]? = some v → w.cell? (b.add j) = some v) (hs : i.size = 1) (h0 : 0 < m) (h48m : m * i.bytes ≤ 281474976710656)
    (news : List Value) (hnews : (Builtin.zeroCells z.cells m).toList = news)
    (hg : sCap < sLen + m) (h63 : ((sLen + m : Nat) : Int) ≤ 9223372036854775807) (hfit : Builtin.nextslicecap (sLen + m) sCap * i.bytes ≤ 281474976710656) :
    (Builtin.append_ #[t, tn] ty #[.slice (some b) sLen sCap, .int k m]).run P w = .ok (.slice (some ⟨w.heap.size, 0, none⟩) (sLen + m) (grownCap w (sLen + m) sCap e))
        (w.drew.alloc (.cells (olds.toArray ++ news.toArray ++ Builtin.zeroCells z.cells (grownCap w (sLen + m) sCap e - (sLen + m))) e)) := by
  have hn : ¬ (sLen + m ≤ sCap) := by omega
  have h63' : ¬ (9223372036854775807 < ((sLen : Int) + (m : Int))) := by omega
  have h48' : ¬ (281474976710656 < Builtin.nextslicecap (sLen + m) sCap * i.bytes) := by omega
  have hw : IntKind.i64.wrap (m : Int) = m := by rw [IntKind.wrap_i64]; omega
  have hneg : ¬ ((m : Int) < 0) := by omega
  have hm0 : m ≠ 0 := by omega
  have h48i : ¬ (281474976710656 < (m : Int) * (i.bytes : Int)) := by rw [← Int.natCast_mul]; omega
  have hfo := run_firstCells_some (P := P) w.drew i.size sLen b sLen sCap olds hlo (by simpa using holds)
  rw [hs] at hfo
  have hz' : Builtin.zeroCells z.cells m = news.toArray := by rw [← hnews]
  simp [Builtin.append_, run_underlying ht, run_underlying htn, sizeOf, typeInfo, zeroValue, hi, hz, asInt, asIntOf, hw, hneg, hm0, hs, h48i, hn, h63', h48', Question.forced, hfo, newRow, grownCap, hz']
  congr 2
  apply Array.ext'
  simp [List.append_assoc]
theorem run_append_ownZ {A : Option Addr} {n m c base bytes : Nat} {t tn e : TypeId} {k kn : IntKind} {xs : List Value} {u : Value} (hE : Elt P t e bytes) (htn : P.underlying tn = some (.int kn)) (hown : Row w base e A n c xs)
    (hu : (P.info? e).map (·.zero) = some (some u)) (h1 : u.oneCell' = true) (hn : 0 < n) (h0 : 0 < m) (hlen : (n + m) * bytes ≤ 140737488355328) (h63 : n + m ≤ 140737488355328) (hbase : base ≤ w.heap.size) :
    ∃ A' c' w', (Builtin.append_ #[t, tn] ty #[.slice A n c, .int k m]).run P w = .ok (.slice A' (n + m) c') w' ∧ Row w' base e A' (n + m) c' (xs ++ List.replicate m u) ∧ Below base w w' ∧ w.grownBy w' (Value.slice A (n + m) c).ownBlock ∧ ((Value.slice A' (n + m) c').ownBlock = (Value.slice A (n + m) c).ownBlock ∨ (Value.slice A' (n + m) c').ownBlock = some w.heap.size) := by
  obtain ⟨ht, i, z, hi, hz, hs, hb, hzs⟩ := hE
  have hzu : z = u := by rw [hi] at hu; simp only [Option.map_some, Option.some.injEq] at hu; rw [hz] at hu; injection hu
  subst hzu
  have hz1 : z.cells = #[z] := one_cells h1
  have hnews : (Builtin.zeroCells z.cells m).toList = List.replicate m z := by
    rw [hz1]
    simp only [Builtin.zeroCells, Array.size, List.length_singleton, Nat.mul_one, Array.toList_map, Array.toList_range]
    apply List.ext_getElem
    · simp
    · intro j h2 h3
      simp [Nat.mod_one]
  have hone : ∀ v ∈ List.replicate m z, v.oneCell' = true := fun v hv => by rw [List.eq_of_mem_replicate hv]; exact h1
  have hlx := hown.len
  rcases hown.2 with ⟨hv, hn0⟩ | ⟨g, cap, cur, hv, hbg, hg, hnc, hcm, hcs, htake⟩
  · omega
  · injection hv with h2 h3 h4
    subst h2; subst h4
    have hmb : m * bytes ≤ 140737488355328 := Nat.le_trans (Nat.mul_le_mul_right _ (by omega)) hlen
    rw [Nat.mul_one] at hcs htake
    by_cases hroom : n + m ≤ c
    · have hr := run_append_roomZ (P := P) (w := w) (ty := ty) t tn e i z k kn ht htn hi hz g n c m cur hg hs h0 (by omega) (by rw [hb]; omega) _ hnews hone hroom (by rw [List.length_replicate]; omega)
      refine ⟨_, c, _, hr, ⟨by rw [List.length_append, List.length_replicate]; omega, .inr ⟨g, c, _, rfl, hbg, setRow_heap w g cur _ e _ hg, hroom, hcm, ?_, ?_⟩⟩, ?_, ?_, .inl rfl⟩
      · simp only [List.size_toArray, List.length_append, List.length_take, List.length_drop, Array.length_toList, List.length_replicate]; omega
      · rw [htake, Nat.mul_one, List.take_append_of_le_length (by rw [List.length_append, List.length_replicate]; omega), List.take_of_length_le (by rw [List.length_append, List.length_replicate]; omega)]
      · exact ⟨rfl, rfl, rfl, by simp [World.setRow], fun j hj => setRow_other w g j _ (by omega)⟩
      · exact ⟨rfl, rfl, rfl, by simp, fun j _ hj => setRow_other w g j _ (fun e => hj (by simp [Value.ownBlock, e]))⟩
    · have holds : ∀ j v, xs[j]? = some v → w.cell? ((⟨g, 0, none⟩ : Addr).add j) = some v := World.ownsRow.cells hown rfl
      have hr := run_append_growZ (P := P) (w := w) (ty := ty) t tn e i z k kn ht htn hi hz ⟨g, 0, none⟩ n c m xs (by rw [hs]; omega) holds hs h0 (by rw [hb]; omega) _ hnews (by omega) (by omega) (growslice_fits (by omega) (by rw [hb]; omega))
      have hge := grownCap_ge w (n + m) c e
      have hcm2 : grownCap w (n + m) c e ≤ maxLen := grownCap_le_maxLen w (n + m) c e (by unfold maxLen; omega)
      refine ⟨_, _, _, hr, ⟨by rw [List.length_append, List.length_replicate]; omega, .inr ⟨w.heap.size, _, _, rfl, hbase, heap_alloc_new w.drew _, hge, hcm2, ?_, ?_⟩⟩, ?_, ?_, .inr rfl⟩
      · simp only [Array.size_append, List.size_toArray, size_zeroCells, hzs, List.length_replicate, hlx]; omega
      · simp only [Array.toList_append, List.append_assoc]
        rw [← List.append_assoc, List.take_append_of_le_length (by rw [List.length_append, List.length_replicate]; omega), List.take_of_length_le (by rw [List.length_append, List.length_replicate]; omega)]
      · exact (Below.refl _ _).drew.alloc hbase _
      · exact ⟨rfl, rfl, rfl, by simp, fun j hj _ => ((Below.refl w.heap.size w).drew.alloc (Nat.le_refl _) _).block j hj⟩
theorem ef_appz {L : List (Nat × Value)} {x y : Operand} {A : Option Addr} {n m c base bytes : Nat} {t tn e : TypeId} {k kn : IntKind} {xs : List Value} {u : Value} (hx : ev L x = some (.slice A n c)) (hy : ev L y = some (.int k (m : Int))) (hE : Elt P t e bytes) (htn : P.underlying tn = some (.int kn)) (hown : Row w base e A n c xs)
    (hu : (P.info? e).map (·.zero) = some (some u)) (h1 : u.oneCell' = true) (hn : 0 < n) (h0 : 0 < m) (hlen : (n + m) * bytes ≤ 140737488355328) (h63 : n + m ≤ 140737488355328) (hbase : base ≤ w.heap.size) :
    Ef P L w (.call { callee := .builtin .append, args := #[x, y], argTypes := #[t, tn] }) ty (Apd w base e A (n + m) c (xs ++ List.replicate m u)) := Ef.run fun ρ hρ => by
  obtain ⟨A', c', w', hrun, h2, h3, h4, h5⟩ := run_append_ownZ (P := P) (w := w) (ty := ty) (k := k) hE htn hown hu h1 hn h0 hlen h63 hbase
  exact ⟨_, w', ⟨A', c', rfl, h2, h3, h4, h5⟩, fun _ _ _ _ => by simp [execOp, resolve, invoke, builtin, hρ _ _ hx, hρ _ _ hy, hrun]⟩
end
end Go.Proofs.Ytbcbihdfpkeacaa
