/- Primes and roots, plain: what the reference's Primes and Root compute; sha's constants by the kernel. No program in sight. -/
import Derived.Test.YtopimmomkapdoaaBigS
import Derived.Test.YtopimmomkapdoaaSha
namespace Go.Proofs.Ytopimmomkapdoaa
namespace Big
def pstep (s : Nat × List Nat) : Nat × List Nat := (s.1 + 1, if s.2.all (fun x => s.1 % x != 0) then s.2 ++ [s.1] else s.2)
def pit : Nat → Nat × List Nat
  | 0 => (2, [])
  | t + 1 => pstep (pit t)
theorem pit_fst (t : Nat) : (pit t).1 = t + 2 := by
  induction t with
  | zero => rfl
  | succ t ih => show (pit t).1 + 1 = _; rw [ih]
theorem pit_yes (t : Nat) (h : (pit t).2.all (fun x => (t + 2) % x != 0) = true) : (pit (t + 1)).2 = (pit t).2 ++ [t + 2] := by
  show (if (pit t).2.all (fun x => (pit t).1 % x != 0) then (pit t).2 ++ [(pit t).1] else (pit t).2) = _
  rw [pit_fst, if_pos h]
theorem pit_no (t : Nat) (h : (pit t).2.all (fun x => (t + 2) % x != 0) = false) : (pit (t + 1)).2 = (pit t).2 := by
  show (if (pit t).2.all (fun x => (pit t).1 % x != 0) then (pit t).2 ++ [(pit t).1] else (pit t).2) = _
  rw [pit_fst, if_neg (by rw [h]; decide)]
theorem pit_pre (t s : Nat) : ∃ r, (pit (t + s)).2 = (pit t).2 ++ r := by
  induction s with
  | zero => exact ⟨[], by simp⟩
  | succ s ih =>
    obtain ⟨r, hr⟩ := ih
    cases h : (pit (t + s)).2.all (fun x => (t + s + 2) % x != 0) with
    | true => exact ⟨r ++ [t + s + 2], by rw [← Nat.add_assoc, pit_yes _ h, hr, List.append_assoc]⟩
    | false => exact ⟨r, by rw [← Nat.add_assoc, pit_no _ h, hr]⟩
theorem pit_ge (t : Nat) : ∀ x ∈ (pit t).2, 2 ≤ x := by
  induction t with
  | zero => intro x hx; cases hx
  | succ t ih =>
    intro x hx
    cases h : (pit t).2.all (fun x => (t + 2) % x != 0) with
    | true =>
      rw [pit_yes _ h] at hx
      rcases List.mem_append.1 hx with h1 | h1
      · exact ih x h1
      · simp at h1; omega
    | false => rw [pit_no _ h] at hx; exact ih x hx
theorem pit_le (t : Nat) : ∀ x ∈ (pit t).2, x < t + 2 := by
  induction t with
  | zero => intro x hx; cases hx
  | succ t ih =>
    intro x hx
    cases h : (pit t).2.all (fun x => (t + 2) % x != 0) with
    | true =>
      rw [pit_yes _ h] at hx
      rcases List.mem_append.1 hx with h1 | h1
      · have := ih x h1; omega
      · simp at h1; omega
    | false => rw [pit_no _ h] at hx; have := ih x hx; omega
set_option maxRecDepth 100000 in
theorem pit_len : (pit 408).2.length = 80 := by decide +kernel
def primes (n : Nat) : List Nat := (pit 408).2.take n
theorem primes_length (n : Nat) (h : n ≤ 80) : (primes n).length = n := by
  unfold primes; rw [List.length_take, pit_len]; omega
theorem primes_of {t n : Nat} (ht : t ≤ 408) (hn : (pit t).2.length = n) : (pit t).2 = primes n := by
  obtain ⟨r, hr⟩ := pit_pre t (408 - t)
  rw [show t + (408 - t) = 408 from by omega] at hr
  unfold primes
  rw [hr, List.take_append_of_le_length (by omega), List.take_of_length_le (by omega)]
theorem pit_more {t n : Nat} (ht : t ≤ 408) (h : (pit t).2.length < n) (hn : n ≤ 80) : t < 408 := by
  rcases Nat.lt_or_ge t 408 with h1 | h1
  · exact h1
  · obtain rfl : t = 408 := by omega
    rw [pit_len] at h; omega
theorem prime_lt (n i : Nat) (hi : i < (primes n).length) : 2 ≤ (primes n).getD i 0 ∧ (primes n).getD i 0 < 410 := by
  rw [List.getD_eq_getElem?_getD, List.getElem?_eq_getElem hi]
  have hm : (primes n)[i] ∈ (pit 408).2 := List.mem_of_mem_take (List.getElem_mem hi)
  exact ⟨pit_ge 408 _ hm, pit_le 408 _ hm⟩
theorem all_take {l : List Nat} {f : Nat → Bool} {i : Nat} (h : i < l.length) : (l.take (i + 1)).all f = ((l.take i).all f && f (l.getD i 0)) := by
  rw [List.take_succ_eq_append_getElem h, List.all_append, List.getD_eq_getElem?_getD, List.getElem?_eq_getElem h]
  simp
def rootF (T k : Nat) : Nat → Nat → Nat
  | 0, x => x
  | j + 1, x => rootF T k j (if (x + 2 ^ j) ^ k ≤ T then x + 2 ^ j else x)
/-- The first 64 bits behind the point of the k-th root. -/
def root (n k : Nat) : Nat := rootF (n * 2 ^ (64 * k)) k 70 0 % 18446744073709551616
theorem root_lt (n k : Nat) : root n k < 18446744073709551616 := Nat.mod_lt _ (by omega)
theorem rootF_yes {T k j x : Nat} (h : (x + 2 ^ j) ^ k ≤ T) : rootF T k (j + 1) x = rootF T k j (x + 2 ^ j) := by rw [rootF, if_pos h]
theorem rootF_no {T k j x : Nat} (h : ¬ (x + 2 ^ j) ^ k ≤ T) : rootF T k (j + 1) x = rootF T k j x := by rw [rootF, if_neg h]
set_option maxRecDepth 100000 in
theorem sha_H0 : ((primes 64).take 8).map (fun p => root p 2 / 4294967296) = Sha.H0 := by decide +kernel
set_option maxRecDepth 100000 in
theorem sha_K : (primes 64).map (fun p => root p 3 / 4294967296) = Sha.K := by decide +kernel
theorem drop_set {l : List Nat} {j : Nat} (h : j < l.length) (x : Nat) : (l.set j x).drop j = x :: l.drop (j + 1) := by
  rw [List.drop_eq_getElem_cons (by rw [List.length_set]; exact h), List.getElem_set_self, List.drop_set_of_lt (by omega)]
theorem div_step {V b r x lo R W : Nat} (h : V * b + r = W) (hR : R = x + 32768 * r) (hlo : b * lo ≤ R) : (lo + 32768 * V) * b + (R - b * lo) = x + 32768 * W := by
  rw [Nat.add_mul, Nat.mul_assoc, Nat.mul_comm b lo] at *
  omega
end Big
end Go.Proofs.Ytopimmomkapdoaa
