/- The references' turn and shift of 32 bits. Numbers below 2^32, by at most 32 bits. -/
import Derived.Test.YtopbahbhldgbbaaMem
import Derived.Test.YtopbahbhldgbbaaSha
namespace Go.Proofs.Ytopbahbhldgbbaa
open Go.RowKit

theorem rotr_zero (x : Nat) : Sha.rotr x 0 = x := by simp [Sha.rotr, Nat.mod_one]
theorem rotr_succ (x i : Nat) (hi : i < 32) : Sha.rotr x (i + 1) = Sha.rotr x i / 2 + Sha.rotr x i % 2 * 2147483648 := by
  unfold Sha.rotr
  obtain ⟨p, hp⟩ : ∃ p, p = 2 ^ i := ⟨_, rfl⟩
  obtain ⟨q, hq⟩ : ∃ q, q = 2 ^ (31 - i) := ⟨_, rfl⟩
  have hpq : p * q = 2147483648 := by rw [hp, hq, ← Nat.pow_add, show i + (31 - i) = 31 from by omega]
  have e1 : 2 ^ (i + 1) = 2 * p := by rw [Nat.pow_succ, hp]; omega
  have e2 : 2 ^ (32 - i) = 2 * q := by rw [show 32 - i = (31 - i) + 1 from by omega, Nat.pow_succ, hq]; omega
  have e3 : 2 ^ (32 - (i + 1)) = q := by rw [show 32 - (i + 1) = 31 - i from by omega, hq]
  rw [e1, e2, e3, ← hp]
  have h1 : x / (2 * p) = x / p / 2 := by rw [Nat.mul_comm, Nat.div_div_eq_div_mul]
  have h2 : x % (2 * p) = x % p + p * (x / p % 2) := by rw [Nat.mul_comm 2 p, Nat.mod_mul]
  rw [h1, h2, Nat.add_mul, Nat.mul_assoc, Nat.mul_comm (x / p % 2) q, ← Nat.mul_assoc, hpq]
  generalize x / p = a
  generalize x % p = b
  have h3 : b * (2 * q) = 2 * (b * q) := by rw [← Nat.mul_assoc, Nat.mul_comm b 2, Nat.mul_assoc]
  rw [h3]
  generalize b * q = t
  omega

set_option maxHeartbeats 400000 in
theorem turn_any (x n : Nat) (w : World) (hx : x < 4294967296) (hn : n ≤ 32) :
    Calls Try.prog 87 #[.int .u64 x, .int .i64 n] w fun e w' => e = .returned (.int .u64 (Sha.rotr x n : Nat)) ∧ w = w' := by
  go_enter Try.func87, Try.ntmps87
  go_wp2
  go_loop [0, 5] (fun v i => ∃ k y : Nat, k ≤ n ∧ i = .int .i64 k ∧ v = .int .u64 y ∧ y = Sha.rotr x k) (fun _ i => n - (intOf i).toNat)
  case atStart => exact ⟨0, x, by omega, rfl, rfl, (rotr_zero x).symm⟩
  case round =>
    obtain ⟨k, y, hk, rfl, rfl, hy⟩ := hrel
    have hyl : y < 4294967296 := by rw [hy]; exact Sha.rotr_lt hx (by omega)
    have HY := Lib.hid hy
    clear hy
    by_cases hlt : k < n
    · go_wp2
      go_round
      case rel => exact ⟨k + 1, y / 2 + y % 2 * 2147483648, by omega, by go_num, int_val (by omega), by rw [HY.out, rotr_succ x k (by omega)]⟩
      case measure => simp [intOf]; omega
    · go_wp2
      go_ret
      exact ⟨by rw [show n = k from by omega, ← HY.out]; rfl, rfl⟩
set_option maxHeartbeats 400000 in
theorem shift_any (x n : Nat) (w : World) (hx : x < 4294967296) (hn : n ≤ 32) :
    Calls Try.prog 88 #[.int .u64 x, .int .i64 n] w fun e w' => e = .returned (.int .u64 (x / 2 ^ n : Nat)) ∧ w = w' := by
  go_enter Try.func88, Try.ntmps88
  go_wp2
  go_loop [0, 5] (fun v i => ∃ k y : Nat, k ≤ n ∧ i = .int .i64 k ∧ v = .int .u64 y ∧ y = x / 2 ^ k) (fun _ i => n - (intOf i).toNat)
  case atStart => exact ⟨0, x, by omega, rfl, rfl, by simp⟩
  case round =>
    obtain ⟨k, y, hk, rfl, rfl, hy⟩ := hrel
    have hyl : y < 4294967296 := by rw [hy]; exact Nat.lt_of_le_of_lt (Nat.div_le_self _ _) hx
    have HY := Lib.hid hy
    clear hy
    by_cases hlt : k < n
    · go_wp2
      go_round
      case rel => exact ⟨k + 1, y / 2, by omega, by go_num, int_val (by omega), by rw [HY.out, Nat.pow_succ, Nat.div_div_eq_div_mul]⟩
      case measure => simp [intOf]; omega
    · go_wp2
      go_ret
      exact ⟨by show Ending.returned (.int .u64 (y : Int)) = _; rw [HY.out, show n = k from by omega]; simp, rfl⟩
theorem turn_lit (x : Nat) (n : Int) (w : World) (hx : x < 4294967296) (h0 : 0 ≤ n) (hn : n ≤ 32) :
    Calls Try.prog 87 #[.int .u64 x, .int .i64 n] w fun e w' => e = .returned (.int .u64 (Sha.rotr x n.toNat : Nat)) ∧ w = w' := by
  obtain ⟨m, rfl⟩ := Int.eq_ofNat_of_zero_le h0
  rw [Int.toNat_natCast]
  exact turn_any x m w hx (by omega)
theorem shift_lit (x : Nat) (n : Int) (w : World) (hx : x < 4294967296) (h0 : 0 ≤ n) (hn : n ≤ 32) :
    Calls Try.prog 88 #[.int .u64 x, .int .i64 n] w fun e w' => e = .returned (.int .u64 (x / 2 ^ n.toNat : Nat)) ∧ w = w' := by
  obtain ⟨m, rfl⟩ := Int.eq_ofNat_of_zero_le h0
  rw [Int.toNat_natCast]
  exact shift_any x m w hx (by omega)
end Go.Proofs.Ytopbahbhldgbbaa
