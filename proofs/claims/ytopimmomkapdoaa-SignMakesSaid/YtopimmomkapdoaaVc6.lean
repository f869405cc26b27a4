/- A scope with one label, its first pass by the relation; strings; more on rows. No conditions: plain lemmas of the model. -/
import Derived.Test.YtopimmomkapdoaaVc5
import Derived.Lib.ConvBytes
namespace Go.Proofs.Ytopimmomkapdoaa
open Go.RowKit
section
variable {P : Program} {Q : Exit → Act → World → Prop} {N : Nd} {L : List (Nat × Value)} {w : World}
/-- A scope with jumps back to one label: what stands behind the label is walked once. -/
theorem wc_scope2 {c rest : Code} (l : Nat) (J : Nat → List (Nat × Value) → World → Prop) (hf : findLabel c l = some (Code.skip.seq rest))
    (pass : ∀ (G : Act → World → Prop) (n : Nat) (L : List (Nat × Value)) (w : World), J n L w → (∀ {L1 : List (Nat × Value)} {w' : World} (n' : Nat) (L' : List (Nat × Value)), J n' L' w' → n' < n → allIn L1 L' → WK G N L1 w') → WC P (Exit.jump l G Q) rest N L w)
    (first : ∀ (G : Act → World → Prop), (∀ {L1 : List (Nat × Value)} {w' : World} (n' : Nat) (L' : List (Nat × Value)), J n' L' w' → allIn L1 L' → WC P (Exit.jump l G Q) rest N L1 w') → WC P (Exit.jump l G Q) c N L w) :
    WC P Q (.scope c) N L w := by
  intro a ha
  refine wp_scope_jumps l (fun a w => ∃ n L, Fr N L a ∧ J n L w) (fun a w => leastOf fun n => ∃ L, Fr N L a ∧ J n L w) hf ?_ ?_
  · exact first _ (fun n' L' hJ hin a' ha' => pass (fun a' w' => ∃ n1 L1, Fr N L1 a' ∧ J n1 L1 w') n' L' _ hJ (fun n1 L1 hJ1 _ hin1 a1 ha1 => ⟨n1, L1, ha1.sub hin1, hJ1⟩) a' (ha'.sub hin)) a ha
  · rintro a w ⟨n0, L0, h0⟩
    obtain ⟨⟨L, ha, hJ⟩, hmin⟩ := leastOf_spec (p := fun n => ∃ L, Fr N L a ∧ J n L w) ⟨n0, L0, h0⟩
    refine wp_seq (wp_skip ?_)
    refine wp_mono (pass (fun a' w' => ∃ n', n' < leastOf (fun n => ∃ L, Fr N L a ∧ J n L w) ∧ ∃ L', Fr N L' a' ∧ J n' L' w') _ L w hJ (fun n' L' hJ' hn hin a' ha' => ⟨n', hn, L', ha'.sub hin, hJ'⟩) a ha) ?_
    intro e a' w' hq
    cases e with
    | goto l' =>
      obtain ⟨e1, n', hlt, L', ha', hJ'⟩ := hq
      have hs := leastOf_spec (p := fun n => ∃ L, Fr N L a' ∧ J n L w') ⟨n', L', ha', hJ'⟩
      exact ⟨e1, ⟨n', L', ha', hJ'⟩, Nat.lt_of_le_of_lt (hs.2 n' ⟨L', ha', hJ'⟩) hlt⟩
    | normal => exact hq
    | exit id => exact hq
    | ret => exact hq
    | panic ch => exact hq
    | outgrown => exact hq
end
section
variable {P : Program} {L : List (Nat × Value)} {w : World} {ty t t' e : TypeId} {x y : Operand}
theorem y_strcat {s u : ByteArray} (hx : ev L x = some (.string s)) (hy : ev L y = some (.string u)) (hl : ((s.size : Int) + u.size ≤ 9223372036854775807)) : Y P L w (.binOp .add t x y t') ty (.string (s ++ u)) := fun ρ hρ w' _ _ _ _ _ => by
  simp [execOp, hρ _ _ hx, hρ _ _ hy, eqGuard, binOp, Op.stringOp, hl]
/-- '[]byte(s)' of a string that is no constant. -/
theorem ef_str {s : ByteArray} {d : TypeDesc} (hx : ev L x = some (.string s)) (hs : P.underlying t = some d) (hu : P.underlying t' = some (.slice e)) (he : P.underlying e = some (.int .u8)) :
    Ef P L w (.convert t t' x) ty fun v w' => ∃ g c, v = .slice (some ⟨g, 0, none⟩) s.size c ∧ Bs w' (some ⟨g, 0, none⟩) s.size s.data.toList ∧ w.heap.size ≤ g ∧ Ext w w' := Ef.run fun ρ hρ => by
  refine ⟨_, Lib.bytesWorld w e s, ⟨w.heap.size, grownCap w s.size 0 e, rfl, ⟨rfl, .inr ⟨w.heap.size, 0, rfl, fun j u hu' => ?_⟩⟩, Nat.le_refl _, ?_⟩, fun _ _ _ _ => by simp [execOp, hρ _ _ hx, Lib.run_convert_string_bytes (P := P) w t t' e s hs hu he]⟩
  · rw [List.getElem?_map] at hu'
    have hj : j < s.size := by
      rcases Nat.lt_or_ge j s.size with h | h
      · exact h
      · rw [List.getElem?_eq_none (by simpa using h)] at hu'; cases hu'
    rw [Nat.zero_add, Lib.bytesWorld_cell w e s j hj, ← hu']
    have hj' : j < s.data.toList.length := by simpa using hj
    rw [List.getElem?_eq_getElem hj', List.getD_eq_getElem?_getD, List.getElem?_eq_getElem hj']
    rfl
  · exact ⟨rfl, rfl, rfl, by rw [Lib.bytesWorld_size]; omega, fun k hk => Lib.bytesWorld_at_old w e s k hk⟩
end
/-- What an append to one row leaves of bytes elsewhere. -/
theorem Bs.app {w w' : World} {A B : Option Addr} {n c m : Nat} {ys : List UInt8} (h : Bs w B m ys) (hd : Dj A B) (hg : w.grownBy w' (Value.slice A n c).ownBlock) (hA : ∀ b o s, A = some ⟨b, o, s⟩ → s = none) : Bs w' B m ys := by
  cases A with
  | none =>
    refine ⟨h.1, ?_⟩
    rcases h.2 with h0 | ⟨b, off, hB, hc⟩
    · exact .inl h0
    · exact .inr ⟨b, off, hB, fun j u hu => by
        have h1 := hc j u hu
        rw [World.cell?_of_block (w := w) (hg.block b (cell_lt h1) (by simp [Value.ownBlock]))]
        exact h1⟩
  | some a =>
    obtain ⟨b, o, s⟩ := a
    have := hA b o s rfl
    subst this
    exact h.grown hg (fun b' off hB e => hd b o b' off rfl hB e.symm)
end Go.Proofs.Ytopimmomkapdoaa
