/- Numbers as words of 64 bits, the lowest first: plain laws. No program in sight. Roots with 84 bits, plain; words or-ed with a bit. No program in sight. -/
import Derived.Test.YtopimmomkapdoaaBigP
import Derived.Test.YtopimmomkapdoaaLongS
namespace Go.Proofs.Ytopimmomkapdoaa
section
namespace Wd
def val : List Nat → Nat
  | [] => 0
  | d :: ds => d + 18446744073709551616 * val ds
def ok (ds : List Nat) : Prop := ∀ d ∈ ds, d < 18446744073709551616
theorem ok_cons {d : Nat} {ds : List Nat} : ok (d :: ds) ↔ d < 18446744073709551616 ∧ ok ds := by
  constructor
  · intro h; exact ⟨h d (by simp), fun x hx => h x (by simp [hx])⟩
  · rintro ⟨h1, h2⟩ x hx
    rcases List.mem_cons.1 hx with rfl | hx
    · exact h1
    · exact h2 x hx
theorem ok_append {a b : List Nat} (ha : ok a) (hb : ok b) : ok (a ++ b) := fun d hd => (List.mem_append.1 hd).elim (ha d) (hb d)
theorem ok_take {a : List Nat} (ha : ok a) (k : Nat) : ok (a.take k) := fun d hd => ha d (List.mem_of_mem_take hd)
theorem ok_drop {a : List Nat} (ha : ok a) (k : Nat) : ok (a.drop k) := fun d hd => ha d (List.mem_of_mem_drop hd)
theorem ok_get {a : List Nat} (ha : ok a) (i : Nat) : a.getD i 0 < 18446744073709551616 := by
  rw [List.getD_eq_getElem?_getD]
  cases h : a[i]? with
  | none => simp
  | some d => exact ha d (List.mem_of_getElem? h)
theorem getD_over {l : List Nat} {i : Nat} (h : l.length ≤ i) : l.getD i 0 = 0 := by
  rw [List.getD_eq_getElem?_getD, List.getElem?_eq_none h]; rfl
theorem zeros_get (n i : Nat) : (List.replicate n 0).getD i 0 = 0 := by
  rw [List.getD_eq_getElem?_getD, List.getElem?_replicate]; split <;> rfl
theorem getD_set_ne (l : List Nat) (i j x : Nat) (h : i ≠ j) : (l.set i x).getD j 0 = l.getD j 0 := by
  rw [List.getD_eq_getElem?_getD, List.getD_eq_getElem?_getD, List.getElem?_set_ne h]
theorem val_append : ∀ (a b : List Nat), val (a ++ b) = val a + 18446744073709551616 ^ a.length * val b
  | [], b => by simp [val]
  | d :: a, b => by
    simp only [List.cons_append, val, val_append a b, List.length_cons, Nat.pow_succ]
    rw [Nat.mul_add, Nat.mul_comm (18446744073709551616 ^ a.length) 18446744073709551616, Nat.mul_assoc]
    omega
theorem val_lt : ∀ (a : List Nat), ok a → val a < 18446744073709551616 ^ a.length
  | [], _ => by simp [val]
  | d :: a, h => by
    obtain ⟨h1, h2⟩ := ok_cons.1 h
    have := val_lt a h2
    simp only [val, List.length_cons, Nat.pow_succ]
    omega
theorem val_take (a : List Nat) (k : Nat) : val a = val (a.take k) + 18446744073709551616 ^ (a.take k).length * val (a.drop k) := by
  rw [← val_append, List.take_append_drop]
theorem val_take_succ (a : List Nat) (k : Nat) : val (a.take (k + 1)) = val (a.take k) + a.getD k 0 * 18446744073709551616 ^ k := by
  rw [List.getD_eq_getElem?_getD]
  by_cases h : k < a.length
  · rw [List.take_succ_eq_append_getElem h, val_append]
    have hl : (a.take k).length = k := by simp; omega
    rw [hl]
    simp [val, h, Nat.mul_comm]
  · rw [List.take_of_length_le (by omega), List.take_of_length_le (by omega), List.getElem?_eq_none (by omega)]
    simp
theorem val_drop (a : List Nat) (k : Nat) (h : k < a.length) : val (a.drop k) = a.getD k 0 + 18446744073709551616 * val (a.drop (k + 1)) := by
  rw [List.drop_eq_getElem_cons h, val]
  simp [List.getD_eq_getElem?_getD, h]
theorem val_set : ∀ (l : List Nat) (i x : Nat), i < l.length → val (l.set i x) + l.getD i 0 * 18446744073709551616 ^ i = val l + x * 18446744073709551616 ^ i
  | [], i, x, h => by cases h
  | d :: l, 0, x, _ => by simp [val]; omega
  | d :: l, i + 1, x, h => by
    have ih := val_set l i x (by simpa using h)
    simp only [List.set_cons_succ, val, List.getD_cons_succ, Nat.pow_succ]
    have e1 : l.getD i 0 * (18446744073709551616 ^ i * 18446744073709551616) = 18446744073709551616 * (l.getD i 0 * 18446744073709551616 ^ i) := by rw [← Nat.mul_assoc, Nat.mul_comm]
    have e2 : x * (18446744073709551616 ^ i * 18446744073709551616) = 18446744073709551616 * (x * 18446744073709551616 ^ i) := by rw [← Nat.mul_assoc, Nat.mul_comm]
    rw [e1, e2]
    omega
theorem ok_set {l : List Nat} (h : ok l) (i x : Nat) (hx : x < 18446744073709551616) : ok (l.set i x) := fun d hd => by
  rcases List.mem_or_eq_of_mem_set hd with h1 | h1
  · exact h d h1
  · omega
theorem val_zeros (n : Nat) : val (List.replicate n 0) = 0 := by
  induction n with
  | zero => rfl
  | succ n ih => rw [List.replicate_succ, val, ih]
theorem ok_zeros (n : Nat) : ok (List.replicate n 0) := fun d hd => by rw [List.eq_of_mem_replicate hd]; omega
theorem dm (D P : Nat) : D % 18446744073709551616 * P + D / 18446744073709551616 * (P * 18446744073709551616) = D * P := by
  rw [Nat.mul_comm P 18446744073709551616, ← Nat.mul_assoc, ← Nat.add_mul]
  congr 1
  omega
theorem mul_step {l l0 o x y cr D P V y' : Nat} (hD : D = o + x * y + cr) (h : l + cr * P = l0 + x * V) (h' : y' + o * P = l + D % 18446744073709551616 * P) : y' + D / 18446744073709551616 * (P * 18446744073709551616) = l0 + x * (V + y * P) := by
  have e := dm D P
  have e2 : D * P = o * P + x * y * P + cr * P := by rw [hD, Nat.add_mul, Nat.add_mul]
  rw [Nat.mul_add, ← Nat.mul_assoc x y P]
  omega
end Wd
end
section
namespace Lng
theorem rootF_spec (T k : Nat) : ∀ (j x : Nat), x ^ k ≤ T → T < (x + 2 ^ j) ^ k → (Big.rootF T k j x) ^ k ≤ T ∧ T < (Big.rootF T k j x + 1) ^ k
  | 0, x, h1, h2 => by rw [Big.rootF]; exact ⟨h1, by simpa using h2⟩
  | j + 1, x, h1, h2 => by
    rw [Big.rootF]
    by_cases h : (x + 2 ^ j) ^ k ≤ T
    · rw [if_pos h]
      exact rootF_spec T k j _ h (by rw [Nat.add_assoc, show 2 ^ j + 2 ^ j = 2 ^ (j + 1) from by rw [Nat.pow_succ]; omega]; exact h2)
    · rw [if_neg h]
      exact rootF_spec T k j _ h1 (by omega)
/-- The whole root. -/
def full (n k : Nat) : Nat := Big.rootF (n * 2 ^ (64 * k)) k 84 0
/-- What the code's Root tells. -/
def root (n k : Nat) : Nat := full n k % 18446744073709551616
theorem full_spec {n k : Nat} (hk : k = 2 ∨ k = 3) (hn : n ≤ 1048576) : (full n k) ^ k ≤ n * 2 ^ (64 * k) ∧ n * 2 ^ (64 * k) < (full n k + 1) ^ k := by
  unfold full
  refine rootF_spec _ k 84 0 ?_ ?_
  · rcases hk with rfl | rfl <;> simp
  · rw [Nat.zero_add]
    rcases hk with rfl | rfl
    · exact Nat.lt_of_le_of_lt (Nat.mul_le_mul_right _ hn) (by decide)
    · exact Nat.lt_of_le_of_lt (Nat.mul_le_mul_right _ hn) (by decide)
theorem pow_lt {a b k : Nat} (hk : k = 2 ∨ k = 3) : a < b ↔ a ^ k < b ^ k := by
  rcases hk with rfl | rfl
  · exact (Nat.pow_lt_pow_iff_left (by omega)).symm
  · exact (Nat.pow_lt_pow_iff_left (by omega)).symm
theorem whole_unique {n k w r : Nat} (hk : k = 2 ∨ k = 3) (h1 : w ^ k ≤ n) (h2 : n < (w + 1) ^ k) (h3 : r ^ k ≤ n * 2 ^ (64 * k)) (h4 : n * 2 ^ (64 * k) < (r + 1) ^ k) : r / 18446744073709551616 = w := by
  have e : (2 : Nat) ^ (64 * k) = 18446744073709551616 ^ k := by rw [Nat.pow_mul]
  rw [e] at h3 h4
  have h5 : w * 18446744073709551616 < r + 1 := (pow_lt hk).2 (Nat.lt_of_le_of_lt (by rw [Nat.mul_pow]; exact Nat.mul_le_mul_right _ h1) h4)
  have h6 : r < (w + 1) * 18446744073709551616 := (pow_lt hk).2 (Nat.lt_of_le_of_lt h3 (by rw [Nat.mul_pow]; exact Nat.mul_lt_mul_of_pos_right h2 (Nat.pow_pos (by omega))))
  omega
set_option maxRecDepth 100000 in
theorem root22 : root 2 2 = 0x6a09e667f3bcc908 := by decide +kernel
set_option maxRecDepth 100000 in
theorem roots_H0 : ((Big.primes 80).take 8).map (fun p => Big.root p 2) = H0 := by decide +kernel
set_option maxRecDepth 100000 in
theorem roots_K : (Big.primes 80).map (fun p => Big.root p 3) = K := by decide +kernel
theorem or_bit {a b : Nat} (h : a % 2 ^ (b + 1) = 0) : a ||| 2 ^ b = a + 2 ^ b := nat_join (b + 1) a (2 ^ b) h (Nat.pow_lt_pow_right (by omega) (by omega))
theorem and_bit {a b : Nat} (h : a % 2 ^ (b + 1) = 0) (ha : a + 2 ^ b < 18446744073709551616) : (a + 2 ^ b) &&& (18446744073709551615 - 2 ^ b) = a := by
  have hb : 2 ^ b < 18446744073709551616 := by omega
  have hb64 : b < 64 := by
    rcases Nat.lt_or_ge b 64 with h | h
    · exact h
    · have := Nat.pow_le_pow_right (n := 2) (by omega) h
      omega
  have hab : ∀ i, (a + 2 ^ b).testBit i = (a.testBit i || decide (b = i)) := fun i => by
    rw [← or_bit h, Nat.testBit_or, Nat.testBit_two_pow]
  have hlow : a.testBit b = false := by
    rw [Nat.testBit_eq_decide_div_mod_eq]
    have e : a = 2 ^ (b + 1) * (a / 2 ^ (b + 1)) := by have := Nat.div_add_mod a (2 ^ (b + 1)); omega
    have : a / 2 ^ b % 2 = 0 := by
      rw [e, Nat.pow_succ, Nat.mul_assoc, Nat.mul_div_cancel_left _ (Nat.two_pow_pos b)]
      omega
    simp [this]
  apply Nat.eq_of_testBit_eq
  intro i
  have h1 := Nat.testBit_two_pow_sub_succ (n := 64) hb i
  rw [show (2 : Nat) ^ 64 - (2 ^ b + 1) = 18446744073709551615 - 2 ^ b from by rw [show (2 : Nat) ^ 64 = 18446744073709551616 from rfl]; omega] at h1
  rw [Nat.testBit_and, hab, h1, Nat.testBit_two_pow]
  by_cases hi : b = i
  · subst hi; simp [hlow]
  · by_cases hi64 : i < 64
    · simp [hi, hi64]
    · have : a.testBit i = false := Nat.testBit_lt_two_pow (Nat.lt_of_lt_of_le (show a < 2 ^ 64 from by rw [show (2 : Nat) ^ 64 = 18446744073709551616 from rfl]; omega) (Nat.pow_le_pow_right (n := 2) (by omega) (by omega : 64 ≤ i)))
      simp [this, hi, hi64]
/-- Two words of a number below 2^84, a bit more. -/
theorem put_low {x i : Nat} (h : x % 2 ^ (i + 1) = 0) (hi : i < 64) : x % 18446744073709551616 % 2 ^ (i + 1) = 0 ∧ (x + 2 ^ i) % 18446744073709551616 = x % 18446744073709551616 + 2 ^ i ∧ (x + 2 ^ i) / 18446744073709551616 = x / 18446744073709551616 := by
  have hd : (2 : Nat) ^ (i + 1) ∣ 18446744073709551616 := by
    rw [show (18446744073709551616 : Nat) = 2 ^ 64 from rfl]; exact Nat.pow_dvd_pow 2 (by omega)
  have h1 : x % 18446744073709551616 % 2 ^ (i + 1) = 0 := by rw [Nat.mod_mod_of_dvd _ hd]; exact h
  have h2 : x % 18446744073709551616 + 2 ^ (i + 1) ≤ 18446744073709551616 := by
    obtain ⟨q, hq⟩ := hd
    obtain ⟨r, hr⟩ := Nat.dvd_of_mod_eq_zero h1
    have hlt := Nat.mod_lt x (show 0 < 18446744073709551616 by omega)
    rw [hr]
    rw [hr, hq] at hlt
    have hrq : r < q := Nat.lt_of_mul_lt_mul_left hlt
    rw [hq, ← Nat.mul_succ]
    exact Nat.mul_le_mul_left _ hrq
  have h3 : (2 : Nat) ^ i < 2 ^ (i + 1) := Nat.pow_lt_pow_right (by omega) (by omega)
  refine ⟨h1, ?_, ?_⟩ <;> omega
theorem put_high {x i : Nat} (h : x % 2 ^ (i + 1) = 0) (hi : 64 ≤ i) : x / 18446744073709551616 % 2 ^ (i - 64 + 1) = 0 ∧ (x + 2 ^ i) % 18446744073709551616 = x % 18446744073709551616 ∧ (x + 2 ^ i) / 18446744073709551616 = x / 18446744073709551616 + 2 ^ (i - 64) := by
  have e : (2 : Nat) ^ i = 18446744073709551616 * 2 ^ (i - 64) := by
    rw [show (18446744073709551616 : Nat) = 2 ^ 64 from rfl, ← Nat.pow_add]; congr 1; omega
  have e1 : (2 : Nat) ^ (i + 1) = 18446744073709551616 * 2 ^ (i - 64 + 1) := by rw [Nat.pow_succ, e, Nat.pow_succ, Nat.mul_assoc]
  refine ⟨?_, ?_, ?_⟩
  · obtain ⟨r, hr⟩ := Nat.dvd_of_mod_eq_zero h
    rw [hr, e1, Nat.mul_assoc, Nat.mul_div_cancel_left _ (by omega), Nat.mul_mod_right]
  · rw [e, Nat.add_mul_mod_self_left]
  · rw [e, Nat.add_mul_div_left _ _ (by omega)]
theorem any_pos : ∀ l : List Nat, (l.any (fun x => decide (x > 0)) = true) ↔ 0 < Wd.val l
  | [] => by simp [Wd.val]
  | x :: l => by
    rw [List.any_cons, Bool.or_eq_true, any_pos l, Wd.val]
    simp only [decide_eq_true_eq]
    omega
end Lng
end
end Go.Proofs.Ytopimmomkapdoaa
