/- Numbers as words of 64 bits, the lowest first: plain laws. No program in sight. -/
namespace Go.Proofs.Ytbcbihdfpkeacaa
namespace Wd
def val : List Nat → Nat
  | [] => 0
  | d :: ds => d + 18446744073709551616 * val ds
def ok (ds : List Nat) : Prop := ∀ d ∈ ds, d < 18446744073709551616
theorem ok_cons {d : Nat} {ds : List Nat} : ok (d :: ds) ↔ d < 18446744073709551616 ∧ ok ds := by
  constructor
  · intro h; exact ⟨h d (by simp), fun x hx => h x (by simp [hx])⟩
  · rintro ⟨h1, h2⟩ x hx
    rcases List.mem_cons.1 hx with rfl | hx
    · exact h1
    · exact h2 x hx
theorem ok_append {a b : List Nat} (ha : ok a) (hb : ok b) : ok (a ++ b) := fun d hd => (List.mem_append.1 hd).elim (ha d) (hb d)
theorem ok_take {a : List Nat} (ha : ok a) (k : Nat) : ok (a.take k) := fun d hd => ha d (List.mem_of_mem_take hd)
theorem ok_drop {a : List Nat} (ha : ok a) (k : Nat) : ok (a.drop k) := fun d hd => ha d (List.mem_of_mem_drop hd)
theorem ok_get {a : List Nat} (ha : ok a) (i : Nat) : a.getD i 0 < 18446744073709551616 := by
  rw [List.getD_eq_getElem?_getD]
  cases h : a[i]? with
  | none => simp
  | some d => exact ha d (List.mem_of_getElem? h)
theorem getD_over {l : List Nat} {i : Nat} (h : l.length ≤ i) : l.getD i 0 = 0 := by
  rw [List.getD_eq_getElem?_getD, List.getElem?_eq_none h]; rfl
theorem zeros_get (n i : Nat) : (List.replicate n 0).getD i 0 = 0 := by
  rw [List.getD_eq_getElem?_getD, List.getElem?_replicate]; split <;> rfl
theorem getD_set_ne (l : List Nat) (i j x : Nat) (h : i ≠ j) : (l.set i x).getD j 0 = l.getD j 0 := by
  rw [List.getD_eq_getElem?_getD, List.getD_eq_getElem?_getD, List.getElem?_set_ne h]
theorem val_append : ∀ (a b : List Nat), val (a ++ b) = val a + 18446744073709551616 ^ a.length * val b
  | [], b => by simp [val]
  | d :: a, b => by
    simp only [List.cons_append, val, val_append a b, List.length_cons, Nat.pow_succ]
    rw [Nat.mul_add, Nat.mul_comm (18446744073709551616 ^ a.length) 18446744073709551616, Nat.mul_assoc]
    omega
theorem val_lt : ∀ (a : List Nat), ok a → val a < 18446744073709551616 ^ a.length
  | [], _ => by simp [val]
  | d :: a, h => by
    obtain ⟨h1, h2⟩ := ok_cons.1 h
    have := val_lt a h2
    simp only [val, List.length_cons, Nat.pow_succ]
    omega
theorem val_take (a : List Nat) (k : Nat) : val a = val (a.take k) + 18446744073709551616 ^ (a.take k).length * val (a.drop k) := by
  rw [← val_append, List.take_append_drop]
theorem val_take_succ (a : List Nat) (k : Nat) : val (a.take (k + 1)) = val (a.take k) + a.getD k 0 * 18446744073709551616 ^ k := by
  rw [List.getD_eq_getElem?_getD]
  by_cases h : k < a.length
  · rw [List.take_succ_eq_append_getElem h, val_append]
    have hl : (a.take k).length = k := by simp; omega
    rw [hl]
    simp [val, h, Nat.mul_comm]
  · rw [List.take_of_length_le (by omega), List.take_of_length_le (by omega), List.getElem?_eq_none (by omega)]
    simp
theorem val_drop (a : List Nat) (k : Nat) (h : k < a.length) : val (a.drop k) = a.getD k 0 + 18446744073709551616 * val (a.drop (k + 1)) := by
  rw [List.drop_eq_getElem_cons h, val]
  simp [List.getD_eq_getElem?_getD, h]
theorem val_set : ∀ (l : List Nat) (i x : Nat), i < l.length → val (l.set i x) + l.getD i 0 * 18446744073709551616 ^ i = val l + x * 18446744073709551616 ^ i
  | [], i, x, h => by cases h
  | d :: l, 0, x, _ => by simp [val]; omega
  | d :: l, i + 1, x, h => by
    have ih := val_set l i x (by simpa using h)
    simp only [List.set_cons_succ, val, List.getD_cons_succ, Nat.pow_succ]
    have e1 : l.getD i 0 * (18446744073709551616 ^ i * 18446744073709551616) = 18446744073709551616 * (l.getD i 0 * 18446744073709551616 ^ i) := by rw [← Nat.mul_assoc, Nat.mul_comm]
    have e2 : x * (18446744073709551616 ^ i * 18446744073709551616) = 18446744073709551616 * (x * 18446744073709551616 ^ i) := by rw [← Nat.mul_assoc, Nat.mul_comm]
    rw [e1, e2]
    omega
theorem ok_set {l : List Nat} (h : ok l) (i x : Nat) (hx : x < 18446744073709551616) : ok (l.set i x) := fun d hd => by
  rcases List.mem_or_eq_of_mem_set hd with h1 | h1
  · exact h d h1
  · omega
theorem val_zeros (n : Nat) : val (List.replicate n 0) = 0 := by
  induction n with
  | zero => rfl
  | succ n ih => rw [List.replicate_succ, val, ih]
theorem ok_zeros (n : Nat) : ok (List.replicate n 0) := fun d hd => by rw [List.eq_of_mem_replicate hd]; omega
theorem dm (D P : Nat) : D % 18446744073709551616 * P + D / 18446744073709551616 * (P * 18446744073709551616) = D * P := by
  rw [Nat.mul_comm P 18446744073709551616, ← Nat.mul_assoc, ← Nat.add_mul]
  congr 1
  omega
theorem mul_step {l l0 o x y cr D P V y' : Nat} (hD : D = o + x * y + cr) (h : l + cr * P = l0 + x * V) (h' : y' + o * P = l + D % 18446744073709551616 * P) : y' + D / 18446744073709551616 * (P * 18446744073709551616) = l0 + x * (V + y * P) := by
  have e := dm D P
  have e2 : D * P = o * P + x * y * P + cr * P := by rw [hD, Nat.add_mul, Nat.add_mul]
  rw [Nat.mul_add, ← Nat.mul_assoc x y P]
  omega
end Wd
end Go.Proofs.Ytbcbihdfpkeacaa
