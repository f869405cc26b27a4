/- The reference's digest, its bits and words: plain laws. No program in sight. -/
import Derived.Test.YtpgalbgonmclaaaMem
import Derived.Test.YtpgalbgonmclaaaSha
/- The references' turn and shift of 32 bits. Numbers below 2^32, by at most 32 bits. -/
namespace Go.Proofs.Ytpgalbgonmclaaa
open Go.RowKit

theorem rotr_zero (x : Nat) : Sha.rotr x 0 = x := by simp [Sha.rotr, Nat.mod_one]
theorem rotr_succ (x i : Nat) (hi : i < 32) : Sha.rotr x (i + 1) = Sha.rotr x i / 2 + Sha.rotr x i % 2 * 2147483648 := by
  unfold Sha.rotr
  obtain ⟨p, hp⟩ : ∃ p, p = 2 ^ i := ⟨_, rfl⟩
  obtain ⟨q, hq⟩ : ∃ q, q = 2 ^ (31 - i) := ⟨_, rfl⟩
  have hpq : p * q = 2147483648 := by rw [hp, hq, ← Nat.pow_add, show i + (31 - i) = 31 from by omega]
  have e1 : 2 ^ (i + 1) = 2 * p := by rw [Nat.pow_succ, hp]; omega
  have e2 : 2 ^ (32 - i) = 2 * q := by rw [show 32 - i = (31 - i) + 1 from by omega, Nat.pow_succ, hq]; omega
  have e3 : 2 ^ (32 - (i + 1)) = q := by rw [show 32 - (i + 1) = 31 - i from by omega, hq]
  rw [e1, e2, e3, ← hp]
  have h1 : x / (2 * p) = x / p / 2 := by rw [Nat.mul_comm, Nat.div_div_eq_div_mul]
  have h2 : x % (2 * p) = x % p + p * (x / p % 2) := by rw [Nat.mul_comm 2 p, Nat.mod_mul]
  rw [h1, h2, Nat.add_mul, Nat.mul_assoc, Nat.mul_comm (x / p % 2) q, ← Nat.mul_assoc, hpq]
  generalize x / p = a
  generalize x % p = b
  have h3 : b * (2 * q) = 2 * (b * q) := by rw [← Nat.mul_assoc, Nat.mul_comm b 2, Nat.mul_assoc]
  rw [h3]
  generalize b * q = t
  omega

set_option maxHeartbeats 400000 in
theorem turn_any (x n : Nat) (w : World) (hx : x < 4294967296) (hn : n ≤ 32) :
    Calls Try.prog 210 #[.int .u64 x, .int .i64 n] w fun e w' => e = .returned (.int .u64 (Sha.rotr x n : Nat)) ∧ w = w' := by
  go_enter Try.func210, Try.ntmps210
  go_wp2
  go_loop [0, 5] (fun v i => ∃ k y : Nat, k ≤ n ∧ i = .int .i64 k ∧ v = .int .u64 y ∧ y = Sha.rotr x k) (fun _ i => n - (intOf i).toNat)
  case atStart => exact ⟨0, x, by omega, rfl, rfl, (rotr_zero x).symm⟩
  case round =>
    obtain ⟨k, y, hk, rfl, rfl, hy⟩ := hrel
    have hyl : y < 4294967296 := by rw [hy]; exact Sha.rotr_lt hx (by omega)
    have HY := Lib.hid hy
    clear hy
    by_cases hlt : k < n
    · go_wp2
      go_round
      case rel => exact ⟨k + 1, y / 2 + y % 2 * 2147483648, by omega, by go_num, int_val (by omega), by rw [HY.out, rotr_succ x k (by omega)]⟩
      case measure => simp [intOf]; omega
    · go_wp2
      go_ret
      exact ⟨by rw [show n = k from by omega, ← HY.out]; rfl, rfl⟩
set_option maxHeartbeats 400000 in
theorem shift_any (x n : Nat) (w : World) (hx : x < 4294967296) (hn : n ≤ 32) :
    Calls Try.prog 211 #[.int .u64 x, .int .i64 n] w fun e w' => e = .returned (.int .u64 (x / 2 ^ n : Nat)) ∧ w = w' := by
  go_enter Try.func211, Try.ntmps211
  go_wp2
  go_loop [0, 5] (fun v i => ∃ k y : Nat, k ≤ n ∧ i = .int .i64 k ∧ v = .int .u64 y ∧ y = x / 2 ^ k) (fun _ i => n - (intOf i).toNat)
  case atStart => exact ⟨0, x, by omega, rfl, rfl, by simp⟩
  case round =>
    obtain ⟨k, y, hk, rfl, rfl, hy⟩ := hrel
    have hyl : y < 4294967296 := by rw [hy]; exact Nat.lt_of_le_of_lt (Nat.div_le_self _ _) hx
    have HY := Lib.hid hy
    clear hy
    by_cases hlt : k < n
    · go_wp2
      go_round
      case rel => exact ⟨k + 1, y / 2, by omega, by go_num, int_val (by omega), by rw [HY.out, Nat.pow_succ, Nat.div_div_eq_div_mul]⟩
      case measure => simp [intOf]; omega
    · go_wp2
      go_ret
      exact ⟨by show Ending.returned (.int .u64 (y : Int)) = _; rw [HY.out, show n = k from by omega]; simp, rfl⟩
theorem turn_lit (x : Nat) (n : Int) (w : World) (hx : x < 4294967296) (h0 : 0 ≤ n) (hn : n ≤ 32) :
    Calls Try.prog 210 #[.int .u64 x, .int .i64 n] w fun e w' => e = .returned (.int .u64 (Sha.rotr x n.toNat : Nat)) ∧ w = w' := by
  obtain ⟨m, rfl⟩ := Int.eq_ofNat_of_zero_le h0
  rw [Int.toNat_natCast]
  exact turn_any x m w hx (by omega)
theorem shift_lit (x : Nat) (n : Int) (w : World) (hx : x < 4294967296) (h0 : 0 ≤ n) (hn : n ≤ 32) :
    Calls Try.prog 211 #[.int .u64 x, .int .i64 n] w fun e w' => e = .returned (.int .u64 (x / 2 ^ n.toNat : Nat)) ∧ w = w' := by
  obtain ⟨m, rfl⟩ := Int.eq_ofNat_of_zero_le h0
  rw [Int.toNat_natCast]
  exact shift_any x m w hx (by omega)
end Go.Proofs.Ytpgalbgonmclaaa

namespace Go.Proofs.Ytpgalbgonmclaaa
namespace Sha
theorem low_succ (c k : Nat) : c % 2 ^ (k + 1) = c % 2 ^ k + c / 2 ^ k % 2 * 2 ^ k := by
  rw [Nat.pow_succ, Nat.mod_mul, Nat.mul_comm (2 ^ k)]
theorem compl_bit {e k : Nat} (he : e < 4294967296) (hk : k < 32) : (4294967295 - e).testBit k = !e.testBit k := by
  have h1 := Nat.testBit_two_pow_sub_succ (n := 32) he k
  rw [show (2 : Nat) ^ 32 - (e + 1) = 4294967295 - e from by omega] at h1
  simp [h1, hk]
theorem ch_bit {e f g k : Nat} (he : e < 4294967296) (hk : k < 32) : ch e f g / 2 ^ k % 2 = if e / 2 ^ k % 2 = 1 then f / 2 ^ k % 2 else g / 2 ^ k % 2 := by
  rw [← Nat.toNat_testBit, ← Nat.toNat_testBit, ← Nat.toNat_testBit, ← Nat.toNat_testBit]
  unfold ch
  rw [Nat.testBit_xor, Nat.testBit_and, Nat.testBit_and, compl_bit he hk]
  cases e.testBit k <;> cases f.testBit k <;> cases g.testBit k <;> rfl
theorem maj_bit (a b c k : Nat) : maj a b c / 2 ^ k % 2 = if 2 ≤ a / 2 ^ k % 2 + b / 2 ^ k % 2 + c / 2 ^ k % 2 then 1 else 0 := by
  rw [← Nat.toNat_testBit, ← Nat.toNat_testBit, ← Nat.toNat_testBit, ← Nat.toNat_testBit]
  unfold maj
  rw [Nat.testBit_xor, Nat.testBit_xor, Nat.testBit_and, Nat.testBit_and, Nat.testBit_and]
  cases a.testBit k <;> cases b.testBit k <;> cases c.testBit k <;> rfl
theorem ch_step1 {e f g k : Nat} (he : e < 4294967296) (hk : k < 32) (h : e / 2 ^ k % 2 = 1) : ch e f g % 2 ^ (k + 1) = ch e f g % 2 ^ k + f / 2 ^ k % 2 * 2 ^ k := by
  rw [low_succ, ch_bit he hk, if_pos h]
theorem ch_step0 {e f g k : Nat} (he : e < 4294967296) (hk : k < 32) (h : ¬ e / 2 ^ k % 2 = 1) : ch e f g % 2 ^ (k + 1) = ch e f g % 2 ^ k + g / 2 ^ k % 2 * 2 ^ k := by
  rw [low_succ, ch_bit he hk, if_neg h]
theorem maj_step1 {a b c k : Nat} (h : 2 ≤ a / 2 ^ k % 2 + b / 2 ^ k % 2 + c / 2 ^ k % 2) : maj a b c % 2 ^ (k + 1) = maj a b c % 2 ^ k + 2 ^ k := by
  rw [low_succ, maj_bit, if_pos h, Nat.one_mul]
theorem maj_step0 {a b c k : Nat} (h : ¬ 2 ≤ a / 2 ^ k % 2 + b / 2 ^ k % 2 + c / 2 ^ k % 2) : maj a b c % 2 ^ (k + 1) = maj a b c % 2 ^ k := by
  rw [low_succ, maj_bit, if_neg h, Nat.zero_mul, Nat.add_zero]
end Sha
end Go.Proofs.Ytpgalbgonmclaaa
