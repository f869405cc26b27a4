/- The reference's long digest: turn, shift; plain laws for its loops. -/
import Derived.Test.YtbcbihdfpkeacaaLongH
import Derived.Test.YtbcbihdfpkeacaaBigC
namespace Go.Proofs.Ytbcbihdfpkeacaa
open Go.RowKit
theorem lrotr_zero (x : Nat) : Lng.rotr x 0 = x := by simp [Lng.rotr, Nat.mod_one]
theorem lrotr_succ (x i : Nat) (hi : i < 64) : Lng.rotr x (i + 1) = Lng.rotr x i / 2 + Lng.rotr x i % 2 * 9223372036854775808 := by
  unfold Lng.rotr
  obtain ⟨p, hp⟩ : ∃ p, p = 2 ^ i := ⟨_, rfl⟩
  obtain ⟨q, hq⟩ : ∃ q, q = 2 ^ (63 - i) := ⟨_, rfl⟩
  have hpq : p * q = 9223372036854775808 := by rw [hp, hq, ← Nat.pow_add, show i + (63 - i) = 63 from by omega]
  have e1 : 2 ^ (i + 1) = 2 * p := by rw [Nat.pow_succ, hp]; omega
  have e2 : 2 ^ (64 - i) = 2 * q := by rw [show 64 - i = (63 - i) + 1 from by omega, Nat.pow_succ, hq]; omega
  have e3 : 2 ^ (64 - (i + 1)) = q := by rw [show 64 - (i + 1) = 63 - i from by omega, hq]
  rw [e1, e2, e3, ← hp]
  have h1 : x / (2 * p) = x / p / 2 := by rw [Nat.mul_comm, Nat.div_div_eq_div_mul]
  have h2 : x % (2 * p) = x % p + p * (x / p % 2) := by rw [Nat.mul_comm 2 p, Nat.mod_mul]
  rw [h1, h2, Nat.add_mul, Nat.mul_assoc, Nat.mul_comm (x / p % 2) q, ← Nat.mul_assoc, hpq]
  generalize x / p = a
  generalize x % p = b
  have h3 : b * (2 * q) = 2 * (b * q) := by rw [← Nat.mul_assoc, Nat.mul_comm b 2, Nat.mul_assoc]
  rw [h3]
  generalize b * q = t
  omega
attribute [local irreducible] Y Ef WL WC WK WQ WM OpM WN WF OpN
theorem lturn_any (x n : Nat) (w : World) (hx : x < 18446744073709551616) (hn : n ≤ 64) :
    Calls Try.prog 117 #[.int .u64 (x : Int), .int .i64 (n : Int)] w fun e w' => e = .returned (.int .u64 ((Lng.rotr x n : Nat) : Int)) ∧ Ext w w' := by
  refine vc_enter1 18 Try.func117 rfl rfl rfl rfl ?_
  intro Q hret
  refine wc_seq ?_; intro K1 hK1
  refine wc_region ?_
  refine wl_y (y_assign rfl) rfl ?_
  refine wl_nil ?_
  refine wq_then_norm (hK1 ?_)
  refine wc_seq ?_; intro K2 hK2
  refine wc_seq ?_; intro K3 hK3
  refine wc_region ?_
  refine wl_y (y_assign rfl) rfl ?_
  refine wl_nil ?_
  refine wq_then_norm (hK3 ?_)
  refine wc_block ?_
  refine wc_loop (fun n' L wr => ∃ (i y : Nat), L = [(0, .int .u64 (y : Int)), (1, .int .i64 (n : Int)), (5, .int .i64 (i : Int))] ∧ n' = n - i ∧ (i ≤ n ∧ wr = w ∧ y = Lng.rotr x i)) _ _ ⟨0, x, rfl, rfl, by omega, rfl, (lrotr_zero x).symm⟩ ⟨(by first | rfl | exact congrArg some (int_val (by omega))), (by first | rfl | exact congrArg some (int_val (by omega))), (by first | rfl | exact congrArg some (int_val (by omega))), trivial⟩ ?_
  rintro KL1 n' L wr ⟨i, y, rfl, rfl, hi, hw, hy⟩ hL1
  refine wc_seq ?_; intro K4 hK4
  refine wc_seq ?_; intro K5 hK5
  refine wc_region ?_
  refine wl_y (y_move rfl) rfl ?_
  refine wl_y (y_move rfl) rfl ?_
  refine wl_y (y_lss rfl rfl) rfl ?_
  refine wl_nil ?_
  refine wq_then_norm (hK5 ?_)
  refine wc_dec rfl (fun hc1 => ?_) (fun hc1 => ?_)
  · skip
    refine wc_skip ?_
    refine wq_then_norm (hK4 ?_)
    refine wc_seq ?_; intro K6 hK6
    refine wc_block ?_
    have hyl : y < 18446744073709551616 := by rw [hy]; exact Lng.rotr_lt hx (by omega)
    refine wc_region ?_
    refine wl_y (y_move rfl) rfl ?_
    refine wl_y (y_quo rfl rfl (by omega) (show IntKind.u64.wrap ((y : Int).tdiv 2) = ((y / 2 : Nat) : Int) from u64_nat rfl (by omega))) rfl ?_
    refine wl_y (y_move rfl) rfl ?_
    refine wl_y (y_rem rfl rfl (by omega) (show ((y : Int).tmod 2) = ((y % 2 : Nat) : Int) from rfl)) rfl ?_
    refine wl_y (y_mul rfl rfl (u64_nat (n := y % 2 * 9223372036854775808) (by omega) (by omega))) rfl ?_
    refine wl_y (y_add rfl rfl (u64_nat (n := y / 2 + y % 2 * 9223372036854775808) (by omega) (by omega))) rfl ?_
    refine wl_y (y_assign rfl) rfl ?_
    refine wl_nil ?_
    refine wq_blk_norm ?_
    refine wq_then_norm (hK6 ?_)
    refine wc_region ?_
    refine wl_y (y_move rfl) rfl ?_
    refine wl_y (y_add rfl rfl (i64_ok (by omega) (by omega))) rfl ?_
    refine wl_y (y_assign rfl) rfl ?_
    refine wl_nil ?_
    refine wq_then_norm ?_
    refine hL1 _ _ ⟨i + 1, y / 2 + y % 2 * 9223372036854775808, rfl, rfl, by omega, hw, (by rw [lrotr_succ x i (by omega), ← hy])⟩ (by omega) ⟨(by first | rfl | exact congrArg some (int_val (by omega))), (by first | rfl | exact congrArg some (int_val (by omega))), (by first | rfl | exact congrArg some (int_val (by omega))), trivial⟩
  · skip
    refine wc_exit ?_
    refine wq_then_exit ?_
    refine wq_then_exit ?_
    refine wq_blk_hit ?_
    refine wq_then_norm (hK2 ?_)
    refine wc_seq ?_; intro K7 hK7
    refine wc_region ?_
    refine wl_y (y_move rfl) rfl ?_
    refine wl_y (y_assign rfl) rfl ?_
    refine wl_nil ?_
    refine wq_then_norm (hK7 ?_)
    refine wc_ret ?_
    refine hret rfl ?_
    obtain rfl : i = n := by omega
    exact ⟨by rw [hy], hw ▸ Ext.refl _⟩
theorem lshift_any (x n : Nat) (w : World) (hx : x < 18446744073709551616) (hn : n ≤ 64) :
    Calls Try.prog 118 #[.int .u64 (x : Int), .int .i64 (n : Int)] w fun e w' => e = .returned (.int .u64 ((x / 2 ^ n : Nat) : Int)) ∧ Ext w w' := by
  refine vc_enter1 14 Try.func118 rfl rfl rfl rfl ?_
  intro Q hret
  refine wc_seq ?_; intro K1 hK1
  refine wc_region ?_
  refine wl_y (y_assign rfl) rfl ?_
  refine wl_nil ?_
  refine wq_then_norm (hK1 ?_)
  refine wc_seq ?_; intro K2 hK2
  refine wc_seq ?_; intro K3 hK3
  refine wc_region ?_
  refine wl_y (y_assign rfl) rfl ?_
  refine wl_nil ?_
  refine wq_then_norm (hK3 ?_)
  refine wc_block ?_
  refine wc_loop (fun n' L wr => ∃ (i y : Nat), L = [(0, .int .u64 (y : Int)), (1, .int .i64 (n : Int)), (5, .int .i64 (i : Int))] ∧ n' = n - i ∧ (i ≤ n ∧ wr = w ∧ y = x / 2 ^ i)) _ _ ⟨0, x, rfl, rfl, by omega, rfl, (by rw [Nat.pow_zero, Nat.div_one])⟩ ⟨(by first | rfl | exact congrArg some (int_val (by omega))), (by first | rfl | exact congrArg some (int_val (by omega))), (by first | rfl | exact congrArg some (int_val (by omega))), trivial⟩ ?_
  rintro KL1 n' L wr ⟨i, y, rfl, rfl, hi, hw, hy⟩ hL1
  refine wc_seq ?_; intro K4 hK4
  refine wc_seq ?_; intro K5 hK5
  refine wc_region ?_
  refine wl_y (y_move rfl) rfl ?_
  refine wl_y (y_move rfl) rfl ?_
  refine wl_y (y_lss rfl rfl) rfl ?_
  refine wl_nil ?_
  refine wq_then_norm (hK5 ?_)
  refine wc_dec rfl (fun hc1 => ?_) (fun hc1 => ?_)
  · skip
    refine wc_skip ?_
    refine wq_then_norm (hK4 ?_)
    refine wc_seq ?_; intro K6 hK6
    refine wc_block ?_
    have hyl : y < 18446744073709551616 := by rw [hy]; exact Nat.lt_of_le_of_lt (Nat.div_le_self _ _) hx
    refine wc_region ?_
    refine wl_y (y_move rfl) rfl ?_
    refine wl_y (y_quo rfl rfl (by omega) (show IntKind.u64.wrap ((y : Int).tdiv 2) = ((y / 2 : Nat) : Int) from u64_nat rfl (by omega))) rfl ?_
    refine wl_y (y_assign rfl) rfl ?_
    refine wl_nil ?_
    refine wq_blk_norm ?_
    refine wq_then_norm (hK6 ?_)
    refine wc_region ?_
    refine wl_y (y_move rfl) rfl ?_
    refine wl_y (y_add rfl rfl (i64_ok (by omega) (by omega))) rfl ?_
    refine wl_y (y_assign rfl) rfl ?_
    refine wl_nil ?_
    refine wq_then_norm ?_
    refine hL1 _ _ ⟨i + 1, y / 2, rfl, rfl, by omega, hw, (by rw [hy, Nat.pow_succ, Nat.div_div_eq_div_mul])⟩ (by omega) ⟨(by first | rfl | exact congrArg some (int_val (by omega))), (by first | rfl | exact congrArg some (int_val (by omega))), (by first | rfl | exact congrArg some (int_val (by omega))), trivial⟩
  · skip
    refine wc_exit ?_
    refine wq_then_exit ?_
    refine wq_then_exit ?_
    refine wq_blk_hit ?_
    refine wq_then_norm (hK2 ?_)
    refine wc_seq ?_; intro K7 hK7
    refine wc_region ?_
    refine wl_y (y_move rfl) rfl ?_
    refine wl_y (y_assign rfl) rfl ?_
    refine wl_nil ?_
    refine wq_then_norm (hK7 ?_)
    refine wc_ret ?_
    refine hret rfl ?_
    obtain rfl : i = n := by omega
    exact ⟨by rw [hy], hw ▸ Ext.refl _⟩
theorem lbm (x : Nat) : IntKind.u8.wrap ((x % 256 : Nat) : Int) = ((UInt8.ofNat x).toNat : Int) := by
  rw [UInt8.toNat_ofNat']
  show (((x % 256 : Nat) : Int) % 256) = _
  omega
theorem take_snoc {α : Type} (l : List α) (d : α) (i : Nat) (h : i < l.length) : l.take i ++ [l.getD i d] = l.take (i + 1) := by
  rw [List.take_succ_eq_append_getElem h, List.getD_eq_getElem?_getD, List.getElem?_eq_getElem h]; rfl
theorem tail16 (v i : Nat) (hv : v < 18446744073709551616) (h : i < 16) : UInt8.ofNat (v / 256 ^ (15 - i)) = (List.replicate 8 (0 : UInt8) ++ Lng.be64 v).getD i 0 := by
  rcases Nat.lt_or_ge i 8 with h8 | h8
  · have e : v / 256 ^ (15 - i) = 0 := by
      apply Nat.div_eq_of_lt
      have : 256 ^ 8 ≤ 256 ^ (15 - i) := Nat.pow_le_pow_right (by omega) (by omega)
      omega
    rw [e, List.getD_eq_getElem?_getD, List.getElem?_append_left (by simp; omega), List.getElem?_replicate, if_pos h8]; rfl
  · obtain ⟨j, rfl⟩ : ∃ j, i = j + 8 := ⟨i - 8, by omega⟩
    rw [List.getD_eq_getElem?_getD, List.getElem?_append_right (by simp), List.length_replicate, show j + 8 - 8 = j from by omega, ← List.getD_eq_getElem?_getD, ← pows8 v j (by omega), show 15 - (j + 8) = 7 - j from by omega]
    congr 2
    rw [show (256 : Nat) = 2 ^ 8 from rfl, ← Nat.pow_mul]
theorem out_byte (S : Lng.S8) (i : Nat) (h : i < 64) : UInt8.ofNat (S.list.getD (i / 8) 0 / 256 ^ (7 - i % 8)) = S.bytes.getD i 0 := by
  rw [← lstate_byte S i h]
  congr 2
  rw [show (256 : Nat) = 2 ^ 8 from rfl, ← Nat.pow_mul]
  congr 1; omega
theorem lblock_byte (M : List UInt8) (k t i : Nat) (ht : t < 16) (hi : i < 8) : M.getD (128 * k + 8 * t + i) 0 = ((M.drop (128 * k)).take 128).getD (8 * t + i) 0 := by
  rw [Lng.getD_block _ _ _ (by omega), Nat.add_assoc]
end Go.Proofs.Ytbcbihdfpkeacaa
