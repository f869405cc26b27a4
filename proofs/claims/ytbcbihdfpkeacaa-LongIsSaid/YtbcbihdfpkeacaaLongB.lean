/- The reference's long digest, its bits and words: plain laws. No program in sight. -/
import Derived.Test.YtbcbihdfpkeacaaLongS
namespace Go.Proofs.Ytbcbihdfpkeacaa
namespace Lng
theorem bit_lt (x k : Nat) : x / 2 ^ k % 2 < 2 := Nat.mod_lt _ (by omega)
theorem low_succ (c k : Nat) : c % 2 ^ (k + 1) = c % 2 ^ k + c / 2 ^ k % 2 * 2 ^ k := by
  rw [Nat.pow_succ, Nat.mod_mul, Nat.mul_comm (2 ^ k)]
theorem compl_bit {e k : Nat} (he : e < 18446744073709551616) (hk : k < 64) : (18446744073709551615 - e).testBit k = !e.testBit k := by
  have h1 := Nat.testBit_two_pow_sub_succ (n := 64) he k
  rw [show (2 : Nat) ^ 64 - (e + 1) = 18446744073709551615 - e from by omega] at h1
  simp [h1, hk]
theorem ch_bit {e f g k : Nat} (he : e < 18446744073709551616) (hk : k < 64) : ch e f g / 2 ^ k % 2 = if e / 2 ^ k % 2 = 1 then f / 2 ^ k % 2 else g / 2 ^ k % 2 := by
  rw [← Nat.toNat_testBit, ← Nat.toNat_testBit, ← Nat.toNat_testBit, ← Nat.toNat_testBit]
  unfold ch
  rw [Nat.testBit_xor, Nat.testBit_and, Nat.testBit_and, compl_bit he hk]
  cases e.testBit k <;> cases f.testBit k <;> cases g.testBit k <;> rfl
theorem maj_bit (a b c k : Nat) : maj a b c / 2 ^ k % 2 = if 2 ≤ a / 2 ^ k % 2 + b / 2 ^ k % 2 + c / 2 ^ k % 2 then 1 else 0 := by
  rw [← Nat.toNat_testBit, ← Nat.toNat_testBit, ← Nat.toNat_testBit, ← Nat.toNat_testBit]
  unfold maj
  rw [Nat.testBit_xor, Nat.testBit_xor, Nat.testBit_and, Nat.testBit_and, Nat.testBit_and]
  cases a.testBit k <;> cases b.testBit k <;> cases c.testBit k <;> rfl
theorem ch_step1 {e f g k : Nat} (he : e < 18446744073709551616) (hk : k < 64) (h : e / 2 ^ k % 2 = 1) : ch e f g % 2 ^ (k + 1) = ch e f g % 2 ^ k + f / 2 ^ k % 2 * 2 ^ k := by
  rw [low_succ, ch_bit he hk, if_pos h]
theorem ch_step0 {e f g k : Nat} (he : e < 18446744073709551616) (hk : k < 64) (h : ¬ e / 2 ^ k % 2 = 1) : ch e f g % 2 ^ (k + 1) = ch e f g % 2 ^ k + g / 2 ^ k % 2 * 2 ^ k := by
  rw [low_succ, ch_bit he hk, if_neg h]
theorem maj_step1 {a b c k : Nat} (h : 2 ≤ a / 2 ^ k % 2 + b / 2 ^ k % 2 + c / 2 ^ k % 2) : maj a b c % 2 ^ (k + 1) = maj a b c % 2 ^ k + 2 ^ k := by
  rw [low_succ, maj_bit, if_pos h, Nat.one_mul]
theorem maj_step0 {a b c k : Nat} (h : ¬ 2 ≤ a / 2 ^ k % 2 + b / 2 ^ k % 2 + c / 2 ^ k % 2) : maj a b c % 2 ^ (k + 1) = maj a b c % 2 ^ k := by
  rw [low_succ, maj_bit, if_neg h, Nat.zero_mul, Nat.add_zero]
end Lng
end Go.Proofs.Ytbcbihdfpkeacaa
