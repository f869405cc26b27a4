/- Numbers of bytes, the lowest first: plain. No program in sight. -/
import Derived.Test.YtopimmomkapdoaaFieldS
namespace Go.Proofs.Ytopimmomkapdoaa
namespace Fp
def num : List UInt8 → Nat
  | [] => 0
  | b :: bs => b.toNat + 256 * num bs
theorem num_lt : ∀ (l : List UInt8), num l < 256 ^ l.length
  | [] => by simp [num]
  | b :: l => by
    have := num_lt l
    have := b.toNat_lt
    simp only [num, List.length_cons, Nat.pow_succ]
    omega
theorem num_append : ∀ (a b : List UInt8), num (a ++ b) = num a + 256 ^ a.length * num b
  | [], b => by simp [num]
  | d :: a, b => by
    simp only [List.cons_append, num, num_append a b, List.length_cons, Nat.pow_succ]
    rw [Nat.mul_add, Nat.mul_comm (256 ^ a.length) 256, Nat.mul_assoc]
    omega
theorem num_zeros (n : Nat) : num (List.replicate n 0) = 0 := by
  induction n with
  | zero => rfl
  | succ n ih => rw [List.replicate_succ, num, ih]; rfl
theorem num_drop (l : List UInt8) (k : Nat) (hk : k ≤ l.length) : num (l.drop k) = num l / 256 ^ k := by
  have h := num_append (l.take k) (l.drop k)
  rw [List.take_append_drop, List.length_take, Nat.min_eq_left hk] at h
  have hl := num_lt (l.take k)
  rw [List.length_take, Nat.min_eq_left hk] at hl
  rw [h, Nat.add_mul_div_left _ _ (Nat.pow_pos (by omega)), Nat.div_eq_of_lt hl, Nat.zero_add]
theorem num_take (l : List UInt8) (k : Nat) (hk : k ≤ l.length) : num (l.take k) = num l % 256 ^ k := by
  have h := num_append (l.take k) (l.drop k)
  rw [List.take_append_drop, List.length_take, Nat.min_eq_left hk] at h
  have hl := num_lt (l.take k)
  rw [List.length_take, Nat.min_eq_left hk] at hl
  rw [h, Nat.add_mul_mod_self_left, Nat.mod_eq_of_lt hl]
/-- Eight bytes from a place. -/
def word (X : List UInt8) (o : Nat) : Nat := num ((X.drop o).take 8)
theorem word_eq (X : List UInt8) (o : Nat) (h : o + 8 ≤ X.length) : word X o = num X / 256 ^ o % 18446744073709551616 := by
  unfold word
  rw [num_take _ _ (by simp; omega), num_drop _ _ (by omega)]
theorem word_lt (X : List UInt8) (o : Nat) (h : o + 8 ≤ X.length) : word X o < 18446744073709551616 := by
  rw [word_eq X o h]; exact Nat.mod_lt _ (by omega)
/-- The way there: from the last byte. -/
theorem word_step (X : List UInt8) (o j : Nat) (hj : j < 8) (h : o + 8 ≤ X.length) : num ((X.drop (o + j)).take (8 - j)) = (X.getD (o + j) 0).toNat + 256 * num ((X.drop (o + (j + 1))).take (8 - (j + 1))) := by
  have hl : o + j < X.length := by omega
  rw [List.drop_eq_getElem_cons hl, show 8 - j = (8 - (j + 1)) + 1 by omega, List.take_succ_cons, num]
  congr 2
  rw [List.getD_eq_getElem?_getD, List.getElem?_eq_getElem hl]; rfl
theorem part_lt (X : List UInt8) (o j : Nat) (hj : j ≤ 8) : num ((X.drop (o + j)).take (8 - j)) < 256 ^ (8 - j) := by
  have h := num_lt ((X.drop (o + j)).take (8 - j))
  have h2 : ((X.drop (o + j)).take (8 - j)).length ≤ 8 - j := by simp; omega
  exact Nat.lt_of_lt_of_le h (Nat.pow_le_pow_right (by omega) h2)
/-- The first 32 bytes. -/
def pad (b : List UInt8) : List UInt8 := b.take 32 ++ List.replicate (32 - (b.take 32).length) 0
theorem pad_length (b : List UInt8) : (pad b).length = 32 := by
  unfold pad; simp; omega
theorem num_pad (b : List UInt8) : num (pad b) = num (b.take 32) := by
  unfold pad; rw [num_append, num_zeros, Nat.mul_zero, Nat.add_zero]
/-- The field's number of bytes. -/
def ofB (b : List UInt8) : Nat := num (b.take 32) % 57896044618658097711785492504343953926634992332820282019728792003956564819968 % p
def ofL (X : List UInt8) (j : Nat) : Nat := if j = 0 then word X 0 % 2251799813685248 else if j = 1 then word X 6 / 8 % 2251799813685248 else if j = 2 then word X 12 / 64 % 2251799813685248 else if j = 3 then word X 19 / 2 % 2251799813685248 else word X 24 / 4096 % 2251799813685248
theorem ofL_lt (X : List UInt8) (j : Nat) : ofL X j < 2251799813685248 := by
  unfold ofL
  split
  · exact Nat.mod_lt _ (by omega)
  split
  · exact Nat.mod_lt _ (by omega)
  split
  · exact Nat.mod_lt _ (by omega)
  split
  · exact Nat.mod_lt _ (by omega)
  · exact Nat.mod_lt _ (by omega)
theorem ofL_val (X : List UInt8) (h : X.length = 32) : val (ofL X) = num X % 57896044618658097711785492504343953926634992332820282019728792003956564819968 := by
  have h0 := word_eq X 0 (by omega); have h1 := word_eq X 6 (by omega); have h2 := word_eq X 12 (by omega); have h3 := word_eq X 19 (by omega); have h4 := word_eq X 24 (by omega)
  rw [show (256 : Nat) ^ 0 = 1 from rfl] at h0
  rw [show (256 : Nat) ^ 6 = 281474976710656 from rfl] at h1
  rw [show (256 : Nat) ^ 12 = 79228162514264337593543950336 from rfl] at h2
  rw [show (256 : Nat) ^ 19 = 5708990770823839524233143877797980545530986496 from rfl] at h3
  rw [show (256 : Nat) ^ 24 = 6277101735386680763835789423207666416102355444464034512896 from rfl] at h4
  have e0 : ofL X 0 = num X % 2251799813685248 := by unfold ofL; rw [if_pos rfl, h0]; omega
  have e1 : ofL X 1 = num X / 2251799813685248 % 2251799813685248 := by unfold ofL; rw [if_neg (by omega), if_pos rfl, h1]; omega
  have e2 : ofL X 2 = num X / 5070602400912917605986812821504 % 2251799813685248 := by unfold ofL; rw [if_neg (by omega), if_neg (by omega), if_pos rfl, h2]; omega
  have e3 : ofL X 3 = num X / 11417981541647679048466287755595961091061972992 % 2251799813685248 := by unfold ofL; rw [if_neg (by omega), if_neg (by omega), if_neg (by omega), if_pos rfl, h3]; omega
  have e4 : ofL X 4 = num X / 25711008708143844408671393477458601640355247900524685364822016 % 2251799813685248 := by unfold ofL; rw [if_neg (by omega), if_neg (by omega), if_neg (by omega), if_neg (by omega), h4]; omega
  unfold val
  rw [e0, e1, e2, e3, e4]
  omega
/-- A number's bytes, the lowest first. -/
def le (n x : Nat) : List UInt8 := (List.range n).map fun j => UInt8.ofNat (x / 256 ^ j % 256)
theorem le_length (n x : Nat) : (le n x).length = n := by simp [le]
theorem pow_split (T : Nat) : 2 ^ T = 2 ^ (T % 8) * 256 ^ (T / 8) := by
  rw [show (256 : Nat) = 2 ^ 8 from rfl, ← Nat.pow_mul, ← Nat.pow_add]
  congr 1
  omega
theorem byte_lt {x T : Nat} (hx : x < 2 ^ T) : x / 256 ^ (T / 8) < 2 ^ (T % 8) := by
  rw [pow_split] at hx
  exact Nat.div_lt_of_lt_mul (by rw [Nat.mul_comm]; exact hx)
theorem pow8_le (T : Nat) : 2 ^ (T % 8) ≤ 128 := by
  have h := Nat.pow_le_pow_right (n := 2) (by omega) (show T % 8 ≤ 7 by omega)
  exact h
theorem bit_step {x T b : Nat} (j : Nat) (hx : x < 2 ^ T) (hb : b ≤ 1) : (if j = T / 8 then x / 256 ^ (T / 8) + b * 2 ^ (T % 8) else x / 256 ^ j % 256) = (x + b * 2 ^ T) / 256 ^ j % 256 := by
  have h1 := byte_lt hx
  have h2 := pow8_le T
  by_cases h : j = T / 8
  · subst h
    rw [if_pos rfl]
    have e : x + b * 2 ^ T = x + 256 ^ (T / 8) * (b * 2 ^ (T % 8)) := by
      rw [pow_split T, ← Nat.mul_assoc, Nat.mul_comm (256 ^ (T / 8))]
    rw [e, Nat.add_mul_div_left _ _ (Nat.pow_pos (by omega))]
    have h3 : b * 2 ^ (T % 8) ≤ 1 * 2 ^ (T % 8) := Nat.mul_le_mul_right _ hb
    exact (Nat.mod_eq_of_lt (by omega)).symm
  · rw [if_neg h]
    rcases Nat.lt_or_ge j (T / 8) with h3 | h3
    · obtain ⟨d, hd⟩ : ∃ d, T / 8 = j + 1 + d := ⟨T / 8 - (j + 1), by omega⟩
      have e : 2 ^ T = 256 ^ j * (256 * (2 ^ (T % 8) * 256 ^ d)) := by
        rw [pow_split T, hd, Nat.pow_add, Nat.pow_succ]
        simp only [Nat.mul_assoc, Nat.mul_comm, Nat.mul_left_comm]
      rw [e, ← Nat.mul_assoc b, Nat.mul_comm b, Nat.mul_assoc, Nat.add_mul_div_left _ _ (Nat.pow_pos (by omega)), ← Nat.mul_assoc b, Nat.mul_comm b, Nat.mul_assoc, Nat.add_mul_mod_self_left]
    · have h4 : 2 ^ (T + 1) ≤ 256 ^ j := by
        rw [show (256 : Nat) = 2 ^ 8 from rfl, ← Nat.pow_mul]
        exact Nat.pow_le_pow_right (by omega) (by omega)
      have h5 : x + b * 2 ^ T < 256 ^ j := by
        have : b * 2 ^ T ≤ 1 * 2 ^ T := Nat.mul_le_mul_right _ hb
        rw [Nat.pow_succ] at h4
        omega
      rw [Nat.div_eq_of_lt (by omega), Nat.div_eq_of_lt h5]
theorem limb_bit (a i k : Nat) (hk : k < 51) : limb a i / 2 ^ k % 2 = a / 2 ^ (51 * i + k) % 2 := by
  unfold limb
  rw [show (2251799813685248 : Nat) = 2 ^ 51 from rfl, show (2 : Nat) ^ 51 = 2 ^ k * 2 ^ (51 - k) from by rw [← Nat.pow_add]; congr 1; omega, Nat.mod_mul_right_div_self, ← Nat.pow_add, show k + (51 - k) = 51 by omega, ← Nat.pow_mul, Nat.div_div_eq_div_mul, ← Nat.pow_add]
  exact Nat.mod_mod_of_dvd _ ⟨2 ^ (51 - k - 1), by rw [← Nat.pow_succ']; congr 1; omega⟩
theorem le_num (n x : Nat) (h : x < 256 ^ n) : num (le n x) = x := by
  induction n generalizing x with
  | zero => simp at h; subst h; rfl
  | succ n ih =>
    have e : le (n + 1) x = UInt8.ofNat (x % 256) :: le n (x / 256) := by
      unfold le
      rw [List.range_succ_eq_map, List.map_cons, List.map_map]
      congr 1
      · simp
      · apply List.map_congr_left
        intro j _
        simp only [Function.comp_apply]
        rw [Nat.div_div_eq_div_mul, Nat.pow_succ, Nat.mul_comm]
    rw [e, num, ih _ (by rw [Nat.pow_succ] at h; exact Nat.div_lt_of_lt_mul (by omega)), UInt8.toNat_ofNat']
    omega
theorem num_top (l : List UInt8) (hl : l.length = 32) : num (l.set 31 (UInt8.ofNat ((l.getD 31 0).toNat % 128))) = num l % 57896044618658097711785492504343953926634992332820282019728792003956564819968 := by
  have hx : l.getD 31 0 = l[31]'(by omega) := by rw [List.getD_eq_getElem?_getD, List.getElem?_eq_getElem (by omega)]; rfl
  have e : l = l.take 31 ++ [l.getD 31 0] := by
    have h := List.take_append_drop 31 l
    rw [List.drop_eq_getElem_cons (by omega), List.drop_of_length_le (by omega), ← hx] at h
    exact h.symm
  have hlen : (l.take 31).length = 31 := by simp; omega
  have hs : ∀ y, l.set 31 y = l.take 31 ++ [y] := fun y => by
    apply List.ext_getElem
    · simp; omega
    · intro i h1 h2
      rw [List.getElem_set]
      by_cases h : 31 = i
      · subst h; rw [if_pos rfl, List.getElem_append_right (by omega)]; simp [hlen]
      · rw [if_neg h, List.getElem_append_left (by simp at h1; omega), List.getElem_take]
  have hn : num l = num (l.take 31) + 256 ^ 31 * (l.getD 31 0).toNat := by
    have h := congrArg num e
    rw [num_append, hlen] at h
    simpa [num] using h
  have hb := num_lt (l.take 31)
  rw [hlen] at hb
  rw [hs, num_append, hlen, hn, num, num, UInt8.toNat_ofNat', show (256 : Nat) ^ 31 = 452312848583266388373324160190187140051835877600158453279131187530910662656 from rfl] at *
  omega
theorem num_low (l : List UInt8) (hl : l.length ≤ 31) : num l % 57896044618658097711785492504343953926634992332820282019728792003956564819968 = num l := by
  have h := num_lt l
  have h2 := Nat.pow_le_pow_right (n := 256) (by omega) hl
  rw [show (256 : Nat) ^ 31 = 452312848583266388373324160190187140051835877600158453279131187530910662656 from rfl] at h2
  exact Nat.mod_eq_of_lt (by omega)
end Fp
end Go.Proofs.Ytopimmomkapdoaa
