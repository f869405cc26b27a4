/- The reference's long digest: turn, shift; plain laws for its loops. The reference's long digest: Sum. At most some thousands of bytes. -/
import Derived.Test.YtopimmomkapdoaaLongE
import Derived.Test.YtopimmomkapdoaaLongQ
import Derived.Test.YtopimmomkapdoaaBigC
namespace Go.Proofs.Ytopimmomkapdoaa
section
open Go.RowKit
theorem lrotr_zero (x : Nat) : Lng.rotr x 0 = x := by simp [Lng.rotr, Nat.mod_one]
theorem lrotr_succ (x i : Nat) (hi : i < 64) : Lng.rotr x (i + 1) = Lng.rotr x i / 2 + Lng.rotr x i % 2 * 9223372036854775808 := by
  unfold Lng.rotr
  obtain ⟨p, hp⟩ : ∃ p, p = 2 ^ i := ⟨_, rfl⟩
  obtain ⟨q, hq⟩ : ∃ q, q = 2 ^ (63 - i) := ⟨_, rfl⟩
  have hpq : p * q = 9223372036854775808 := by rw [hp, hq, ← Nat.pow_add, show i + (63 - i) = 63 from by omega]
  have e1 : 2 ^ (i + 1) = 2 * p := by rw [Nat.pow_succ, hp]; omega
  have e2 : 2 ^ (64 - i) = 2 * q := by rw [show 64 - i = (63 - i) + 1 from by omega, Nat.pow_succ, hq]; omega
  have e3 : 2 ^ (64 - (i + 1)) = q := by rw [show 64 - (i + 1) = 63 - i from by omega, hq]
  rw [e1, e2, e3, ← hp]
  have h1 : x / (2 * p) = x / p / 2 := by rw [Nat.mul_comm, Nat.div_div_eq_div_mul]
  have h2 : x % (2 * p) = x % p + p * (x / p % 2) := by rw [Nat.mul_comm 2 p, Nat.mod_mul]
  rw [h1, h2, Nat.add_mul, Nat.mul_assoc, Nat.mul_comm (x / p % 2) q, ← Nat.mul_assoc, hpq]
  generalize x / p = a
  generalize x % p = b
  have h3 : b * (2 * q) = 2 * (b * q) := by rw [← Nat.mul_assoc, Nat.mul_comm b 2, Nat.mul_assoc]
  rw [h3]
  generalize b * q = t
  omega
attribute [local irreducible] Y Ef WL WC WK WQ WM OpM WN WF OpN
theorem lturn_any (x n : Nat) (w : World) (hx : x < 18446744073709551616) (hn : n ≤ 64) :
    Calls Try.prog 136 #[.int .u64 (x : Int), .int .i64 (n : Int)] w fun e w' => e = .returned (.int .u64 ((Lng.rotr x n : Nat) : Int)) ∧ Ext w w' := by
  refine vc_enter1 18 Try.func136 rfl rfl rfl rfl ?_
  intro Q hret
  refine wc_seq ?_; intro K1 hK1
  refine wc_region ?_
  refine wl_y (y_assign rfl) rfl ?_
  refine wl_nil ?_
  refine wq_then_norm (hK1 ?_)
  refine wc_seq ?_; intro K2 hK2
  refine wc_seq ?_; intro K3 hK3
  refine wc_region ?_
  refine wl_y (y_assign rfl) rfl ?_
  refine wl_nil ?_
  refine wq_then_norm (hK3 ?_)
  refine wc_block ?_
  refine wc_loop (fun n' L wr => ∃ (i y : Nat), L = [(0, .int .u64 (y : Int)), (1, .int .i64 (n : Int)), (5, .int .i64 (i : Int))] ∧ n' = n - i ∧ (i ≤ n ∧ wr = w ∧ y = Lng.rotr x i)) _ _ ⟨0, x, rfl, rfl, by omega, rfl, (lrotr_zero x).symm⟩ ⟨(by first | rfl | exact congrArg some (int_val (by omega))), (by first | rfl | exact congrArg some (int_val (by omega))), (by first | rfl | exact congrArg some (int_val (by omega))), trivial⟩ ?_
  rintro KL1 n' L wr ⟨i, y, rfl, rfl, hi, hw, hy⟩ hL1
  refine wc_seq ?_; intro K4 hK4
  refine wc_seq ?_; intro K5 hK5
  refine wc_region ?_
  refine wl_y (y_move rfl) rfl ?_
  refine wl_y (y_move rfl) rfl ?_
  refine wl_y (y_lss rfl rfl) rfl ?_
  refine wl_nil ?_
  refine wq_then_norm (hK5 ?_)
  refine wc_dec rfl (fun hc1 => ?_) (fun hc1 => ?_)
  · skip
    refine wc_skip ?_
    refine wq_then_norm (hK4 ?_)
    refine wc_seq ?_; intro K6 hK6
    refine wc_block ?_
    have hyl : y < 18446744073709551616 := by rw [hy]; exact Lng.rotr_lt hx (by omega)
    refine wc_region ?_
    refine wl_y (y_move rfl) rfl ?_
    refine wl_y (y_quo rfl rfl (by omega) (show IntKind.u64.wrap ((y : Int).tdiv 2) = ((y / 2 : Nat) : Int) from u64_nat rfl (by omega))) rfl ?_
    refine wl_y (y_move rfl) rfl ?_
    refine wl_y (y_rem rfl rfl (by omega) (show ((y : Int).tmod 2) = ((y % 2 : Nat) : Int) from rfl)) rfl ?_
    refine wl_y (y_mul rfl rfl (u64_nat (n := y % 2 * 9223372036854775808) (by omega) (by omega))) rfl ?_
    refine wl_y (y_add rfl rfl (u64_nat (n := y / 2 + y % 2 * 9223372036854775808) (by omega) (by omega))) rfl ?_
    refine wl_y (y_assign rfl) rfl ?_
    refine wl_nil ?_
    refine wq_blk_norm ?_
    refine wq_then_norm (hK6 ?_)
    refine wc_region ?_
    refine wl_y (y_move rfl) rfl ?_
    refine wl_y (y_add rfl rfl (i64_ok (by omega) (by omega))) rfl ?_
    refine wl_y (y_assign rfl) rfl ?_
    refine wl_nil ?_
    refine wq_then_norm ?_
    refine hL1 _ _ ⟨i + 1, y / 2 + y % 2 * 9223372036854775808, rfl, rfl, by omega, hw, (by rw [lrotr_succ x i (by omega), ← hy])⟩ (by omega) ⟨(by first | rfl | exact congrArg some (int_val (by omega))), (by first | rfl | exact congrArg some (int_val (by omega))), (by first | rfl | exact congrArg some (int_val (by omega))), trivial⟩
  · skip
    refine wc_exit ?_
    refine wq_then_exit ?_
    refine wq_then_exit ?_
    refine wq_blk_hit ?_
    refine wq_then_norm (hK2 ?_)
    refine wc_seq ?_; intro K7 hK7
    refine wc_region ?_
    refine wl_y (y_move rfl) rfl ?_
    refine wl_y (y_assign rfl) rfl ?_
    refine wl_nil ?_
    refine wq_then_norm (hK7 ?_)
    refine wc_ret ?_
    refine hret rfl ?_
    obtain rfl : i = n := by omega
    exact ⟨by rw [hy], hw ▸ Ext.refl _⟩
theorem lshift_any (x n : Nat) (w : World) (hx : x < 18446744073709551616) (hn : n ≤ 64) :
    Calls Try.prog 137 #[.int .u64 (x : Int), .int .i64 (n : Int)] w fun e w' => e = .returned (.int .u64 ((x / 2 ^ n : Nat) : Int)) ∧ Ext w w' := by
  refine vc_enter1 14 Try.func137 rfl rfl rfl rfl ?_
  intro Q hret
  refine wc_seq ?_; intro K1 hK1
  refine wc_region ?_
  refine wl_y (y_assign rfl) rfl ?_
  refine wl_nil ?_
  refine wq_then_norm (hK1 ?_)
  refine wc_seq ?_; intro K2 hK2
  refine wc_seq ?_; intro K3 hK3
  refine wc_region ?_
  refine wl_y (y_assign rfl) rfl ?_
  refine wl_nil ?_
  refine wq_then_norm (hK3 ?_)
  refine wc_block ?_
  refine wc_loop (fun n' L wr => ∃ (i y : Nat), L = [(0, .int .u64 (y : Int)), (1, .int .i64 (n : Int)), (5, .int .i64 (i : Int))] ∧ n' = n - i ∧ (i ≤ n ∧ wr = w ∧ y = x / 2 ^ i)) _ _ ⟨0, x, rfl, rfl, by omega, rfl, (by rw [Nat.pow_zero, Nat.div_one])⟩ ⟨(by first | rfl | exact congrArg some (int_val (by omega))), (by first | rfl | exact congrArg some (int_val (by omega))), (by first | rfl | exact congrArg some (int_val (by omega))), trivial⟩ ?_
  rintro KL1 n' L wr ⟨i, y, rfl, rfl, hi, hw, hy⟩ hL1
  refine wc_seq ?_; intro K4 hK4
  refine wc_seq ?_; intro K5 hK5
  refine wc_region ?_
  refine wl_y (y_move rfl) rfl ?_
  refine wl_y (y_move rfl) rfl ?_
  refine wl_y (y_lss rfl rfl) rfl ?_
  refine wl_nil ?_
  refine wq_then_norm (hK5 ?_)
  refine wc_dec rfl (fun hc1 => ?_) (fun hc1 => ?_)
  · skip
    refine wc_skip ?_
    refine wq_then_norm (hK4 ?_)
    refine wc_seq ?_; intro K6 hK6
    refine wc_block ?_
    have hyl : y < 18446744073709551616 := by rw [hy]; exact Nat.lt_of_le_of_lt (Nat.div_le_self _ _) hx
    refine wc_region ?_
    refine wl_y (y_move rfl) rfl ?_
    refine wl_y (y_quo rfl rfl (by omega) (show IntKind.u64.wrap ((y : Int).tdiv 2) = ((y / 2 : Nat) : Int) from u64_nat rfl (by omega))) rfl ?_
    refine wl_y (y_assign rfl) rfl ?_
    refine wl_nil ?_
    refine wq_blk_norm ?_
    refine wq_then_norm (hK6 ?_)
    refine wc_region ?_
    refine wl_y (y_move rfl) rfl ?_
    refine wl_y (y_add rfl rfl (i64_ok (by omega) (by omega))) rfl ?_
    refine wl_y (y_assign rfl) rfl ?_
    refine wl_nil ?_
    refine wq_then_norm ?_
    refine hL1 _ _ ⟨i + 1, y / 2, rfl, rfl, by omega, hw, (by rw [hy, Nat.pow_succ, Nat.div_div_eq_div_mul])⟩ (by omega) ⟨(by first | rfl | exact congrArg some (int_val (by omega))), (by first | rfl | exact congrArg some (int_val (by omega))), (by first | rfl | exact congrArg some (int_val (by omega))), trivial⟩
  · skip
    refine wc_exit ?_
    refine wq_then_exit ?_
    refine wq_then_exit ?_
    refine wq_blk_hit ?_
    refine wq_then_norm (hK2 ?_)
    refine wc_seq ?_; intro K7 hK7
    refine wc_region ?_
    refine wl_y (y_move rfl) rfl ?_
    refine wl_y (y_assign rfl) rfl ?_
    refine wl_nil ?_
    refine wq_then_norm (hK7 ?_)
    refine wc_ret ?_
    refine hret rfl ?_
    obtain rfl : i = n := by omega
    exact ⟨by rw [hy], hw ▸ Ext.refl _⟩
theorem lbm (x : Nat) : IntKind.u8.wrap ((x % 256 : Nat) : Int) = ((UInt8.ofNat x).toNat : Int) := by
  rw [UInt8.toNat_ofNat']
  show (((x % 256 : Nat) : Int) % 256) = _
  omega
theorem take_snoc {α : Type} (l : List α) (d : α) (i : Nat) (h : i < l.length) : l.take i ++ [l.getD i d] = l.take (i + 1) := by
  rw [List.take_succ_eq_append_getElem h, List.getD_eq_getElem?_getD, List.getElem?_eq_getElem h]; rfl
theorem tail16 (v i : Nat) (hv : v < 18446744073709551616) (h : i < 16) : UInt8.ofNat (v / 256 ^ (15 - i)) = (List.replicate 8 (0 : UInt8) ++ Lng.be64 v).getD i 0 := by
  rcases Nat.lt_or_ge i 8 with h8 | h8
  · have e : v / 256 ^ (15 - i) = 0 := by
      apply Nat.div_eq_of_lt
      have : 256 ^ 8 ≤ 256 ^ (15 - i) := Nat.pow_le_pow_right (by omega) (by omega)
      omega
    rw [e, List.getD_eq_getElem?_getD, List.getElem?_append_left (by simp; omega), List.getElem?_replicate, if_pos h8]; rfl
  · obtain ⟨j, rfl⟩ : ∃ j, i = j + 8 := ⟨i - 8, by omega⟩
    rw [List.getD_eq_getElem?_getD, List.getElem?_append_right (by simp), List.length_replicate, show j + 8 - 8 = j from by omega, ← List.getD_eq_getElem?_getD, ← pows8 v j (by omega), show 15 - (j + 8) = 7 - j from by omega]
    congr 2
    rw [show (256 : Nat) = 2 ^ 8 from rfl, ← Nat.pow_mul]
theorem out_byte (S : Lng.S8) (i : Nat) (h : i < 64) : UInt8.ofNat (S.list.getD (i / 8) 0 / 256 ^ (7 - i % 8)) = S.bytes.getD i 0 := by
  rw [← lstate_byte S i h]
  congr 2
  rw [show (256 : Nat) = 2 ^ 8 from rfl, ← Nat.pow_mul]
  congr 1; omega
theorem lblock_byte (M : List UInt8) (k t i : Nat) (ht : t < 16) (hi : i < 8) : M.getD (128 * k + 8 * t + i) 0 = ((M.drop (128 * k)).take 128).getD (8 * t + i) 0 := by
  rw [Lng.getD_block _ _ _ (by omega), Nat.add_assoc]
end
section
open Go.RowKit
attribute [local irreducible] Y Ef WL WC WK WQ WM OpM WN WF OpN
theorem Bs.cellAt {w : World} {b off n k : Nat} {xs : List UInt8} (h : Bs w (some ⟨b, off, none⟩) n xs) (hk : k < n) : w.cell? ⟨b, off + k, none⟩ = some (.int .u8 ((xs.getD k 0).toNat : Int)) := by
  obtain ⟨b', off', e, _, hc⟩ := h.get hk
  injection e with e
  injection e with e1 e2 _
  subst e1; subst e2
  exact hc
theorem bit_mul (p u : Nat) : p % 2 * u ≤ u := by
  rcases Nat.mod_two_eq_zero_or_one p with h | h <;> rw [h] <;> omega
theorem mod_top {C i : Nat} (hC : C < 18446744073709551616) (hi : i ≤ 64) : C % (2 ^ i % 18446744073709551616) = C % 2 ^ i := by
  rcases Nat.lt_or_ge i 64 with h | h
  · rw [Nat.mod_eq_of_lt (a := 2 ^ i)]
    exact Nat.lt_of_lt_of_le (Nat.pow_lt_pow_right (by omega) h) (Nat.le_refl _)
  · obtain rfl : i = 64 := by omega
    rw [show (2 : Nat) ^ 64 = 18446744073709551616 from rfl, Nat.mod_self, Nat.mod_zero, Nat.mod_eq_of_lt hC]
theorem pow_below {i : Nat} (h : i < 64) : 2 ^ i ≤ 9223372036854775808 := Nat.le_trans (Nat.pow_le_pow_right (by omega) (show i ≤ 63 by omega)) (Nat.le_refl _)
theorem Ns.chgFar {w w' : World} {k : IntKind} {A : Option Addr} {n g : Nat} {xs : List Nat} (h : Ns k w A n xs) (cg : w.grownBy w' (some g)) (hA : ∀ o, A ≠ some ⟨g, o, none⟩) : Ns k w' A n xs := h.grown cg (fun b o e e2 => hA o (e2 ▸ e))
theorem row_ge {w : World} {base n c : Nat} {e : TypeId} {A : Option Addr} {xs : List Value} (h : Row w base e A n c xs) (b o : Nat) (hA : A = some ⟨b, o, none⟩) : base ≤ b := by subst hA; exact (Row.lt h).1
set_option maxHeartbeats 4000000 in
theorem rlsumR_any (A : Option Addr) (n c : Nat) (xs : List UInt8) (w : World) (HA : Bs w A n xs) (hn : n ≤ 100000) :
    Calls Try.prog 91 #[.slice A n c] w fun e w' => ∃ A' c', e = .returned (.slice A' 64 c') ∧ Row w' w.heap.size 5 A' 64 c' ((Lng.sum xs).map bv) ∧ Ext w w' := by
  have hxl := HA.1
  have hzl : Lng.zeros n < 128 := Nat.mod_lt _ (by omega)
  have hz : Lng.zeros n = (239 - n % 128) % 128 := rfl
  obtain ⟨PS, hPS⟩ : ∃ l, l = Big.primes 80 := ⟨_, rfl⟩
  have hlen : PS.length = 80 := by rw [hPS]; exact Big.primes_length 80 (by omega)
  have hpl : ∀ i, i < 80 → 2 ≤ PS.getD i 0 ∧ PS.getD i 0 < 410 := fun i hi => by rw [hPS]; exact Big.prime_lt 80 i (by rw [← hPS, hlen]; exact hi)
  refine vc_enter1 354 Try.func91 rfl rfl rfl rfl ?_
  intro Q hret
  refine wc_seq ?_; intro K1 hK1
  refine wc_region ?_
  refine wl_y (y_assign rfl) rfl ?_
  refine wl_nil ?_
  refine wq_then_norm (hK1 ?_)
  refine wc_seq ?_; intro K2 hK2
  refine wc_region ?_
  refine wl_ef (ef_lit (z := .int .u8 0) Try.underlying22 (by kernel_rfl) rfl rfl rfl rfl rfl) rfl ?_
  rintro _ w1 ⟨g1, rfl, B1, hg1, ex⟩
  have E1 := ex; have R1 : Row w1 w.heap.size 5 (some ⟨g1, 0, none⟩) 0 0 (([] : List UInt8).map bv) := Row.new B1 hg1 rfl (by unfold maxLen; omega)
  refine wl_y (y_move rfl) rfl ?_
  refine wl_ef (ef_app0 rfl rfl eltB R1 (HA.wk E1).2 (by rw [List.length_map, HA.1]) (by intro u hu; exact bv_one u hu) (by omega) (by omega) E1.size) rfl ?_
  rintro _ w2 ⟨A2, c2, rfl, R2, be, gr, hl⟩
  have E2 := E1.trans be
  refine wl_ef (ef_lit (z := .int .u8 0) Try.underlying22 (by kernel_rfl) rfl rfl rfl rfl rfl) rfl ?_
  rintro _ w3 ⟨g3, rfl, B3, hg3, ex⟩
  have E3 := E2.ext ex; have R3 := R2.ext ex
  refine wl_ef (ef_app rfl rfl eltB R3 (At.blk (vs := [(128 : UInt8)].map bv) (B3.congr rfl)) rfl (by intro u hu; exact bv_one u hu) (by omega) (by omega) E3.size) rfl ?_
  rintro _ w4 ⟨A4, c4, rfl, R4, be, gr, hl⟩
  have E4 := E3.trans be; replace R4 := R4.cat
  refine wl_y (y_assign rfl) rfl ?_
  refine wl_nil ?_
  refine wq_then_norm (hK2 ?_)
  refine wc_seq ?_; intro K3 hK3
  refine wc_block ?_
  refine wc_loop (fun n' L wr => ∃ (k c5 : Nat) (A5 : Option Addr), L = [(0, .slice A n c), (3, .slice A5 (n + 1 + k) c5)] ∧ n' = Lng.zeros n - k ∧ (k ≤ Lng.zeros n ∧ Ext w wr ∧ Row wr w.heap.size 5 A5 (n + 1 + k) c5 ((xs ++ 128 :: List.replicate k 0).map bv))) _ _ ⟨0, c4, A4, rfl, rfl, by omega, E4, R4⟩ ⟨rfl, rfl, trivial⟩ ?_
  rintro KL1 n' L wr ⟨k, c5, A5, rfl, rfl, hk, E, R⟩ hL1
  refine wc_seq ?_; intro K4 hK4
  refine wc_seq ?_; intro K5 hK5
  refine wc_region ?_
  refine wl_y (y_move rfl) rfl ?_
  refine wl_y (y_len_slice rfl Try.underlying22) rfl ?_
  refine wl_y (y_rem rfl rfl (by omega) (show (((n + 1 + k : Nat) : Int).tmod 128) = (((n + 1 + k) % 128 : Nat) : Int) from rfl)) rfl ?_
  refine wl_y (y_neq rfl rfl) rfl ?_
  refine wl_nil ?_
  refine wq_then_norm (hK5 ?_)
  refine wc_dec rfl (fun hc1 => ?_) (fun hc1 => ?_)
  · skip
    have hkz : k < Lng.zeros n := by omega
    refine wc_skip ?_
    refine wq_then_norm (hK4 ?_)
    refine wc_block ?_
    refine wc_region ?_
    refine wl_y (y_move rfl) rfl ?_
    refine wl_ef (ef_lit (z := .int .u8 0) Try.underlying22 (by kernel_rfl) rfl rfl rfl rfl rfl) rfl ?_
    rintro _ w5 ⟨g5, rfl, B5, hg5, ex⟩
    have E5 := E.ext ex; have R5 := R.ext ex
    refine wl_ef (ef_app rfl rfl eltB R5 (At.blk (vs := [(0 : UInt8)].map bv) (B5.congr rfl)) rfl (by intro u hu; exact bv_one u hu) (by omega) (by omega) E5.size) rfl ?_
    rintro _ w6 ⟨A6, c6, rfl, R6, be, gr, hl⟩
    have E6 := E5.trans be; replace R6 := R6.cat
    refine wl_y (y_assign rfl) rfl ?_
    refine wl_nil ?_
    refine wq_blk_norm ?_
    refine wq_then_norm ?_
    refine hL1 _ _ ⟨k + 1, c6, A6, rfl, rfl, by omega, E6, (by rw [List.append_assoc, List.cons_append, ← List.replicate_succ'] at R6; exact R6)⟩ (by omega) ⟨rfl, rfl, trivial⟩
  · skip
    refine wc_exit ?_
    refine wq_then_exit ?_
    refine wq_then_exit ?_
    refine wq_blk_hit ?_
    refine wq_then_norm (hK3 ?_)
    refine wc_seq ?_; intro K6 hK6
    obtain rfl : k = Lng.zeros n := by omega
    obtain ⟨tl, htl⟩ : ∃ l, l = List.replicate 8 (0 : UInt8) ++ Lng.be64 (n * 8) := ⟨_, rfl⟩
    have htll : tl.length = 16 := by rw [htl]; rfl
    refine wc_region ?_
    refine wl_y (y_move rfl) rfl ?_
    refine wl_y (y_len_slice rfl Try.underlying22) rfl ?_
    refine wl_y (y_conv rfl Try.underlying3 Try.underlying59 (c := (n : Int)) (show IntKind.u64.wrap (n : Int) = (n : Int) from u64_nat rfl (by omega))) rfl ?_
    refine wl_y (y_mul rfl rfl (u64_nat (n := n * 8) (by omega) (by omega))) rfl ?_
    refine wl_y (y_assign rfl) rfl ?_
    refine wl_nil ?_
    refine wq_then_norm (hK6 ?_)
    refine wc_seq ?_; intro K7 hK7
    refine wc_seq ?_; intro K8 hK8
    refine wc_region ?_
    refine wl_y (y_assign rfl) rfl ?_
    refine wl_nil ?_
    refine wq_then_norm (hK8 ?_)
    refine wc_block ?_
    refine wc_loop (fun n' L wr => ∃ (i c6 : Nat) (A6 : Option Addr), L = [(3, .slice A6 (n + 1 + Lng.zeros n + i) c6), (4, .int .u64 ((n * 8 : Nat) : Int)), (5, .int .i64 (i : Int))] ∧ n' = 16 - i ∧ (i ≤ 16 ∧ Ext w wr ∧ Row wr w.heap.size 5 A6 (n + 1 + Lng.zeros n + i) c6 ((xs ++ 128 :: List.replicate (Lng.zeros n) 0 ++ tl.take i).map bv))) _ _ ⟨0, c5, A5, rfl, rfl, by omega, E, (by rw [List.take_zero, List.append_nil]; exact R)⟩ ⟨rfl, (by first | rfl | exact congrArg some (int_val (by omega))), (by first | rfl | exact congrArg some (int_val (by omega))), trivial⟩ ?_
    rintro KL2 n' L wr ⟨i, c6, A6, rfl, rfl, hi, E, R⟩ hL2
    refine wc_seq ?_; intro K9 hK9
    refine wc_seq ?_; intro K10 hK10
    refine wc_region ?_
    refine wl_y (y_move rfl) rfl ?_
    refine wl_y (y_lss rfl rfl) rfl ?_
    refine wl_nil ?_
    refine wq_then_norm (hK10 ?_)
    refine wc_dec rfl (fun hc2 => ?_) (fun hc2 => ?_)
    · skip
      refine wc_skip ?_
      refine wq_then_norm (hK9 ?_)
      refine wc_seq ?_; intro K11 hK11
      refine wc_block ?_
      refine wc_seq ?_; intro K12 hK12
      refine wc_region ?_
      refine wl_y (y_move rfl) rfl ?_
      refine wl_y (y_assign rfl) rfl ?_
      refine wl_nil ?_
      refine wq_then_norm (hK12 ?_)
      refine wc_seq ?_; intro K13 hK13
      refine wc_seq ?_; intro K14 hK14
      refine wc_region ?_
      refine wl_y (y_assign rfl) rfl ?_
      refine wl_nil ?_
      refine wq_then_norm (hK14 ?_)
      refine wc_block ?_
      refine wc_loop (fun n' L wq => ∃ k : Nat, L = [(3, .slice A6 (n + 1 + Lng.zeros n + i) c6), (4, .int .u64 ((n * 8 : Nat) : Int)), (5, .int .i64 (i : Int)), (6, .int .u64 ((n * 8 / 256 ^ k : Nat) : Int)), (7, .int .i64 (k : Int))] ∧ n' = 15 - i - k ∧ (k ≤ 15 - i ∧ wq = wr)) _ _ ⟨0, rfl, rfl, by omega, rfl⟩ ⟨rfl, (by first | rfl | exact congrArg some (int_val (by omega))), (by first | rfl | exact congrArg some (int_val (by omega))), (by first | rfl | exact congrArg some (int_val (by omega))), (by first | rfl | exact congrArg some (int_val (by omega))), trivial⟩ ?_
      rintro KL3 n' L wq ⟨k, rfl, rfl, hk, hwq⟩ hL3
      refine wc_seq ?_; intro K15 hK15
      refine wc_seq ?_; intro K16 hK16
      refine wc_region ?_
      refine wl_y (y_move rfl) rfl ?_
      refine wl_y (y_move rfl) rfl ?_
      refine wl_y (y_sub rfl rfl (i64_nat (n := 15 - i) (by omega) (by omega))) rfl ?_
      refine wl_y (y_lss rfl rfl) rfl ?_
      refine wl_nil ?_
      refine wq_then_norm (hK16 ?_)
      refine wc_dec rfl (fun hc3 => ?_) (fun hc3 => ?_)
      · skip
        refine wc_skip ?_
        refine wq_then_norm (hK15 ?_)
        refine wc_seq ?_; intro K17 hK17
        refine wc_block ?_
        refine wc_region ?_
        refine wl_y (y_move rfl) rfl ?_
        refine wl_y (y_quo rfl rfl (by omega) (show IntKind.u64.wrap (((n * 8 / 256 ^ k : Nat) : Int).tdiv 256) = ((n * 8 / 256 ^ (k + 1) : Nat) : Int) from u64_nat (by rw [Nat.pow_succ, ← Nat.div_div_eq_div_mul]; rfl) (Nat.lt_of_le_of_lt (Nat.div_le_self _ _) (by omega)))) rfl ?_
        refine wl_y (y_assign rfl) rfl ?_
        refine wl_nil ?_
        refine wq_blk_norm ?_
        refine wq_then_norm (hK17 ?_)
        refine wc_region ?_
        refine wl_y (y_move rfl) rfl ?_
        refine wl_y (y_add rfl rfl (i64_ok (by omega) (by omega))) rfl ?_
        refine wl_y (y_assign rfl) rfl ?_
        refine wl_nil ?_
        refine wq_then_norm ?_
        refine hL3 _ _ ⟨k + 1, rfl, rfl, by omega, hwq⟩ (by omega) ⟨rfl, (by first | rfl | exact congrArg some (int_val (by omega))), (by first | rfl | exact congrArg some (int_val (by omega))), (by first | rfl | exact congrArg some (int_val (by omega))), (by first | rfl | exact congrArg some (int_val (by omega))), trivial⟩
      · skip
        refine wc_exit ?_
        refine wq_then_exit ?_
        refine wq_then_exit ?_
        refine wq_blk_hit ?_
        refine wq_then_norm (hK13 ?_)
        obtain rfl : k = 15 - i := by omega
        subst hwq
        refine wc_region ?_
        refine wl_y (y_move rfl) rfl ?_
        refine wl_y (y_move rfl) rfl ?_
        refine wl_y (y_rem rfl rfl (by omega) (show (((n * 8 / 256 ^ (15 - i) : Nat) : Int).tmod 256) = ((n * 8 / 256 ^ (15 - i) % 256 : Nat) : Int) from rfl)) rfl ?_
        refine wl_y (y_conv rfl Try.underlying59 Try.underlying5 (lbm _)) rfl ?_
        refine wl_ef (ef_lit (z := .int .u8 0) Try.underlying22 (by kernel_rfl) rfl rfl rfl rfl rfl) rfl ?_
        rintro _ w5 ⟨g5, rfl, B5, hg5, ex⟩
        have E5 := E.ext ex; have R5 := R.ext ex
        refine wl_ef (ef_app rfl rfl eltB R5 (At.blk (vs := [UInt8.ofNat (n * 8 / 256 ^ (15 - i))].map bv) (B5.congr rfl)) rfl (by intro u hu; exact bv_one u hu) (by omega) (by omega) E5.size) rfl ?_
        rintro _ w6 ⟨A7, c7, rfl, R6, be, gr, hl⟩
        have E6 := E5.trans be; replace R6 := R6.cat; rw [tail16 _ _ (by omega) (by omega), ← htl, List.append_assoc _ (List.take i _), take_snoc _ _ _ (by omega)] at R6
        refine wl_y (y_assign rfl) rfl ?_
        refine wl_nil ?_
        refine wq_blk_norm ?_
        refine wq_then_norm (hK11 ?_)
        refine wc_region ?_
        refine wl_y (y_move rfl) rfl ?_
        refine wl_y (y_add rfl rfl (i64_ok (by omega) (by omega))) rfl ?_
        refine wl_y (y_assign rfl) rfl ?_
        refine wl_nil ?_
        refine wq_then_norm ?_
        refine hL2 _ _ ⟨i + 1, c7, A7, rfl, rfl, by omega, E6, R6⟩ (by omega) ⟨rfl, (by first | rfl | exact congrArg some (int_val (by omega))), (by first | rfl | exact congrArg some (int_val (by omega))), trivial⟩
    · skip
      refine wc_exit ?_
      refine wq_then_exit ?_
      refine wq_then_exit ?_
      refine wq_blk_hit ?_
      refine wq_then_norm (hK7 ?_)
      refine wc_seq ?_; intro K18 hK18
      obtain rfl : i = 16 := by omega
      obtain ⟨M, hM⟩ : ∃ M, M = xs ++ Lng.pad n := ⟨_, rfl⟩
      have hMr : xs ++ 128 :: List.replicate (Lng.zeros n) 0 ++ tl.take 16 = M := by rw [List.take_of_length_le (by omega), hM, htl]; simp [Lng.pad]
      rw [hMr] at R
      obtain ⟨nM, hnM⟩ : ∃ q, q = n + 1 + Lng.zeros n + 16 := ⟨_, rfl⟩
      rw [← hnM] at R ⊢
      have hMl : M.length = nM := by have := R.len; simpa using this
      obtain ⟨gM, _, rfl, _, _, _, hgMl, _⟩ := R.get (i := 0) (by omega)
      have HM := R.bs
      refine wc_region ?_
      refine wl_call Try.func134 rfl rfl rfl (primes_any 80 _ (by omega)) rfl ?_
      rintro e w8 ⟨A8, c8, rfl, H8, ex⟩
      refine ⟨_, rfl, ?_⟩
      rw [← hPS] at H8; have E8 := E.ext ex; have HM8 := HM.ext ex; have hz8 := ex.size
      refine wl_y (y_assign rfl) rfl ?_
      refine wl_nil ?_
      refine wq_then_norm (hK18 ?_)
      refine wc_seq ?_; intro K19 hK19
      refine wc_region ?_
      refine wl_y (y_assign rfl) rfl ?_
      refine wl_y (y_assign rfl) rfl ?_
      refine wl_nil ?_
      refine wq_then_norm (hK19 ?_)
      refine wc_seq ?_; intro K20 hK20
      refine wc_seq ?_; intro K21 hK21
      refine wc_region ?_
      refine wl_y (y_assign rfl) rfl ?_
      refine wl_nil ?_
      refine wq_then_norm (hK21 ?_)
      refine wc_block ?_
      refine wc_loop (fun n' L wr => ∃ (i c9 : Nat) (A9 : Option Addr), L = [(3, .slice (some ⟨gM, 0, none⟩) nM c6), (8, .slice A8 80 c8), (9, .slice A9 i c9), (10, .slice none 0 0), (11, .int .i64 (i : Int))] ∧ n' = 8 - i ∧ (i ≤ 8 ∧ Ext w8 wr ∧ Row wr w8.heap.size 59 A9 i c9 (((PS.take i).map (fun p => Big.root p 2)).map (iv .u64)))) _ _ ⟨0, 0, none, rfl, rfl, by omega, Ext.refl _, Row.empty _ _ _⟩ ⟨rfl, rfl, rfl, rfl, (by first | rfl | exact congrArg some (int_val (by omega))), trivial⟩ ?_
      rintro KL4 n' L wr ⟨i, c9, A9, rfl, rfl, hi, E, R⟩ hL4
      refine wc_seq ?_; intro K22 hK22
      refine wc_seq ?_; intro K23 hK23
      refine wc_region ?_
      refine wl_y (y_move rfl) rfl ?_
      refine wl_y (y_lss rfl rfl) rfl ?_
      refine wl_nil ?_
      refine wq_then_norm (hK23 ?_)
      refine wc_dec rfl (fun hc4 => ?_) (fun hc4 => ?_)
      · skip
        refine wc_skip ?_
        refine wq_then_norm (hK22 ?_)
        refine wc_seq ?_; intro K24 hK24
        refine wc_block ?_
        obtain ⟨b1, off1, x, rfl, hx, hcx⟩ := (H8.wk E).cell (i := i) (by omega)
        have hxl2 := hpl i (by omega); rw [← hx.out] at hxl2
        refine wc_region ?_
        refine wl_y (y_move rfl) rfl ?_
        refine wl_y (y_move rfl) rfl ?_
        refine wl_y (y_move rfl) rfl ?_
        refine wl_y (y_ixs1 rfl rfl Try.underlying123 (by kernel_rfl) rfl (by omega)) rfl ?_
        refine wl_y (y_load1 rfl Try.underlying59 rfl hcx) rfl ?_
        refine wl_call Try.func135 rfl rfl rfl (root_any x 2 _ (by omega) (.inl rfl)) rfl ?_
        rintro e w2 ⟨rfl, ex⟩
        refine ⟨_, rfl, ?_⟩
        have E2 := E.ext ex; have R2 := R.ext ex
        refine wl_ef (ef_lit (z := .int .u64 0) Try.underlying123 (by kernel_rfl) rfl rfl rfl rfl rfl) rfl ?_
        rintro _ w5 ⟨g5, rfl, B5, hg5, ex⟩
        have R5 := R2.ext ex; have F5 := E2.ext ex; have hs5 := F5.size
        refine wl_ef (ef_app rfl rfl eltU R5 (At.blk (vs := [Big.root x 2].map (iv .u64)) (B5.congr rfl)) rfl (by intro u hu; exact iv_one u hu) (by omega) (by omega) hs5) rfl ?_
        rintro _ w6 ⟨A6, c7, rfl, R6, be, gr, hl⟩
        have F6 := F5.trans be; have R7 := R6.ivs
        refine wl_y (y_assign rfl) rfl ?_
        refine wl_nil ?_
        refine wq_blk_norm ?_
        refine wq_then_norm (hK24 ?_)
        refine wc_region ?_
        refine wl_y (y_move rfl) rfl ?_
        refine wl_y (y_add rfl rfl (i64_ok (by omega) (by omega))) rfl ?_
        refine wl_y (y_assign rfl) rfl ?_
        refine wl_nil ?_
        refine wq_then_norm ?_
        refine hL4 _ _ ⟨i + 1, c7, A6, rfl, rfl, by omega, F6, by rw [List.take_succ_eq_append_getElem (by omega), List.map_append, List.map_cons, List.map_nil]; rw [hx.out, List.getD_eq_getElem?_getD, List.getElem?_eq_getElem (by omega)] at R7; exact R7⟩ (by omega) ⟨rfl, rfl, rfl, rfl, (by first | rfl | exact congrArg some (int_val (by omega))), trivial⟩
      · skip
        refine wc_exit ?_
        refine wq_then_exit ?_
        refine wq_then_exit ?_
        refine wq_blk_hit ?_
        refine wq_then_norm (hK20 ?_)
        refine wc_seq ?_; intro K25 hK25
        refine wc_seq ?_; intro K26 hK26
        obtain rfl : i = 8 := by omega
        rw [hPS, Lng.roots_H0] at R
        have hz9 := E.size
        obtain ⟨gh, _, rfl, _, _, hgh1, hghl, _⟩ := R.get (i := 0) (by omega)
        refine wc_region ?_
        refine wl_y (y_assign rfl) rfl ?_
        refine wl_nil ?_
        refine wq_then_norm (hK26 ?_)
        refine wc_block ?_
        refine wc_loop (fun n' L wq => ∃ (k c10 : Nat) (A10 : Option Addr), L = [(3, .slice (some ⟨gM, 0, none⟩) nM c6), (8, .slice A8 80 c8), (9, .slice (some ⟨gh, 0, none⟩) 8 c9), (10, .slice A10 k c10), (12, .int .i64 (k : Int))] ∧ n' = 80 - k ∧ (k ≤ 80 ∧ Ext wr wq ∧ Row wq wr.heap.size 59 A10 k c10 (((PS.take k).map (fun p => Big.root p 3)).map (iv .u64)))) _ _ ⟨0, 0, none, rfl, rfl, by omega, Ext.refl _, Row.empty _ _ _⟩ ⟨rfl, rfl, rfl, rfl, (by first | rfl | exact congrArg some (int_val (by omega))), trivial⟩ ?_
        rintro KL5 n' L wq ⟨k, c10, A10, rfl, rfl, hk, F, R'⟩ hL5
        refine wc_seq ?_; intro K27 hK27
        refine wc_seq ?_; intro K28 hK28
        refine wc_region ?_
        refine wl_y (y_move rfl) rfl ?_
        refine wl_y (y_lss rfl rfl) rfl ?_
        refine wl_nil ?_
        refine wq_then_norm (hK28 ?_)
        refine wc_dec rfl (fun hc5 => ?_) (fun hc5 => ?_)
        · skip
          refine wc_skip ?_
          refine wq_then_norm (hK27 ?_)
          refine wc_seq ?_; intro K29 hK29
          refine wc_block ?_
          obtain ⟨b1, off1, x, rfl, hx, hcx⟩ := (H8.wk (E.tr F)).cell (i := k) (by omega)
          have hxl2 := hpl k (by omega); rw [← hx.out] at hxl2
          refine wc_region ?_
          refine wl_y (y_move rfl) rfl ?_
          refine wl_y (y_move rfl) rfl ?_
          refine wl_y (y_move rfl) rfl ?_
          refine wl_y (y_ixs1 rfl rfl Try.underlying123 (by kernel_rfl) rfl (by omega)) rfl ?_
          refine wl_y (y_load1 rfl Try.underlying59 rfl hcx) rfl ?_
          refine wl_call Try.func135 rfl rfl rfl (root_any x 3 _ (by omega) (.inr rfl)) rfl ?_
          rintro e w2 ⟨rfl, ex⟩
          refine ⟨_, rfl, ?_⟩
          have E2 := F.ext ex; have R2 := R'.ext ex
          refine wl_ef (ef_lit (z := .int .u64 0) Try.underlying123 (by kernel_rfl) rfl rfl rfl rfl rfl) rfl ?_
          rintro _ w5 ⟨g5, rfl, B5, hg5, ex⟩
          have R5 := R2.ext ex; have F5 := E2.ext ex; have hs5 := F5.size
          refine wl_ef (ef_app rfl rfl eltU R5 (At.blk (vs := [Big.root x 3].map (iv .u64)) (B5.congr rfl)) rfl (by intro u hu; exact iv_one u hu) (by omega) (by omega) hs5) rfl ?_
          rintro _ w6 ⟨A6, c7, rfl, R6, be, gr, hl⟩
          have F6 := F5.trans be; have R7 := R6.ivs
          refine wl_y (y_assign rfl) rfl ?_
          refine wl_nil ?_
          refine wq_blk_norm ?_
          refine wq_then_norm (hK29 ?_)
          refine wc_region ?_
          refine wl_y (y_move rfl) rfl ?_
          refine wl_y (y_add rfl rfl (i64_ok (by omega) (by omega))) rfl ?_
          refine wl_y (y_assign rfl) rfl ?_
          refine wl_nil ?_
          refine wq_then_norm ?_
          refine hL5 _ _ ⟨k + 1, c7, A6, rfl, rfl, by omega, F6, by rw [List.take_succ_eq_append_getElem (by omega), List.map_append, List.map_cons, List.map_nil]; rw [hx.out, List.getD_eq_getElem?_getD, List.getElem?_eq_getElem (by omega)] at R7; exact R7⟩ (by omega) ⟨rfl, rfl, rfl, rfl, (by first | rfl | exact congrArg some (int_val (by omega))), trivial⟩
        · skip
          refine wc_exit ?_
          refine wq_then_exit ?_
          refine wq_then_exit ?_
          refine wq_blk_hit ?_
          refine wq_then_norm (hK25 ?_)
          refine wc_seq ?_; intro K30 hK30
          refine wc_seq ?_; intro K31 hK31
          obtain rfl : k = 80 := by omega
          rw [List.take_of_length_le (by omega), hPS, Lng.roots_K] at R'
          have hz10 := F.size
          obtain ⟨gk, _, rfl, _, _, hgk1, hgkl, _⟩ := R'.get (i := 0) (by omega)
          have HK := Ns.of_row R'
          have HM0 := HM8.ext (E.tr F)
          have RH := R.ext F
          have E0 := E8.ext (E.tr F)
          refine wc_region ?_
          refine wl_y (y_assign rfl) rfl ?_
          refine wl_nil ?_
          refine wq_then_norm (hK31 ?_)
          refine wc_block ?_
          refine wc_loop (fun n' L wa => ∃ k : Nat, L = [(3, .slice (some ⟨gM, 0, none⟩) nM c6), (9, .slice (some ⟨gh, 0, none⟩) 8 c9), (10, .slice (some ⟨gk, 0, none⟩) 80 c10), (13, .int .i64 ((128 * k : Nat) : Int))] ∧ n' = nM + 128 - 128 * k ∧ (128 * k ≤ nM ∧ wq.grownBy wa (some gh) ∧ Row wa w8.heap.size 59 (some ⟨gh, 0, none⟩) 8 c9 ((Lng.blocks Lng.IV M k).list.map (iv .u64)))) _ _ ⟨0, rfl, rfl, by omega, World.grownBy.refl _ _, RH⟩ ⟨rfl, rfl, rfl, (by first | rfl | exact congrArg some (int_val (by omega))), trivial⟩ ?_
          rintro KL6 n' L wa ⟨k, rfl, rfl, hk, G, RH2⟩ hL6
          refine wc_seq ?_; intro K32 hK32
          refine wc_seq ?_; intro K33 hK33
          refine wc_region ?_
          refine wl_y (y_move rfl) rfl ?_
          refine wl_y (y_move rfl) rfl ?_
          refine wl_y (y_len_slice rfl Try.underlying22) rfl ?_
          refine wl_y (y_lss rfl rfl) rfl ?_
          refine wl_nil ?_
          refine wq_then_norm (hK33 ?_)
          refine wc_dec rfl (fun hc6 => ?_) (fun hc6 => ?_)
          · skip
            refine wc_skip ?_
            refine wq_then_norm (hK32 ?_)
            refine wc_seq ?_; intro K34 hK34
            refine wc_block ?_
            refine wc_seq ?_; intro K35 hK35
            have hMm : nM % 128 = 0 := by rw [← hMl, hM, List.length_append, hxl]; exact Lng.padded_mod n
            have HMa : Bs wa (some ⟨gM, 0, none⟩) nM M := HM0.grown G (by intro b o e; injection e with e; injection e; omega)
            have HKa : Ns .u64 wa (some ⟨gk, 0, none⟩) 80 Lng.K := HK.chgFar G (by intro o e; injection e with e; injection e; omega)
            obtain ⟨bl, hbl⟩ : ∃ l, l = (M.drop (128 * k)).take 128 := ⟨_, rfl⟩
            obtain ⟨S, hS⟩ : ∃ s, s = Lng.blocks Lng.IV M k := ⟨_, rfl⟩
            have hSok : S.ok := by rw [hS]; exact Lng.blocks_ok Lng.IV_ok _ _
            rw [← hS] at RH2
            have hgha := (Row.lt RH2).2
            refine wc_region ?_
            refine wl_y (y_assign rfl) rfl ?_
            refine wl_nil ?_
            refine wq_then_norm (hK35 ?_)
            refine wc_seq ?_; intro K36 hK36
            refine wc_seq ?_; intro K37 hK37
            refine wc_region ?_
            refine wl_y (y_assign rfl) rfl ?_
            refine wl_nil ?_
            refine wq_then_norm (hK37 ?_)
            refine wc_block ?_
            refine wc_loop (fun n' L wb => ∃ (t c14 : Nat) (A14 : Option Addr), L = [(3, .slice (some ⟨gM, 0, none⟩) nM c6), (9, .slice (some ⟨gh, 0, none⟩) 8 c9), (10, .slice (some ⟨gk, 0, none⟩) 80 c10), (13, .int .i64 ((128 * k : Nat) : Int)), (14, .slice A14 t c14), (15, .int .i64 (t : Int))] ∧ n' = 80 - t ∧ (t ≤ 80 ∧ Ext wa wb ∧ Row wb wa.heap.size 59 A14 t c14 ((Lng.wt bl t).map (iv .u64)))) _ _ ⟨0, 0, none, rfl, rfl, by omega, Ext.refl _, Row.empty _ _ _⟩ ⟨rfl, rfl, rfl, (by first | rfl | exact congrArg some (int_val (by omega))), rfl, (by first | rfl | exact congrArg some (int_val (by omega))), trivial⟩ ?_
            rintro KL7 n' L wb ⟨t, c14, A14, rfl, rfl, ht, F, R⟩ hL7
            refine wc_seq ?_; intro K38 hK38
            refine wc_seq ?_; intro K39 hK39
            refine wc_region ?_
            refine wl_y (y_move rfl) rfl ?_
            refine wl_y (y_lss rfl rfl) rfl ?_
            refine wl_nil ?_
            refine wq_then_norm (hK39 ?_)
            refine wc_dec rfl (fun hc7 => ?_) (fun hc7 => ?_)
            · skip
              refine wc_skip ?_
              refine wq_then_norm (hK38 ?_)
              refine wc_seq ?_; intro K40 hK40
              refine wc_block ?_
              refine wc_seq ?_; intro K41 hK41
              refine wc_region ?_
              refine wl_y (y_assign rfl) rfl ?_
              refine wl_nil ?_
              refine wq_then_norm (hK41 ?_)
              refine wc_seq ?_; intro K42 hK42
              refine wc_seq ?_; intro K43 hK43
              refine wc_region ?_
              refine wl_y (y_move rfl) rfl ?_
              refine wl_y (y_lss rfl rfl) rfl ?_
              refine wl_nil ?_
              refine wq_then_norm (hK43 ?_)
              refine wc_dec rfl (fun hc8 => ?_) (fun hc8 => ?_)
              · skip
                refine wc_seq ?_; intro K44 hK44
                refine wc_region ?_
                refine wl_y (y_assign rfl) rfl ?_
                refine wl_nil ?_
                refine wq_then_norm (hK44 ?_)
                refine wc_block ?_
                refine wc_loop (fun n' L wc => ∃ i : Nat, L = [(3, .slice (some ⟨gM, 0, none⟩) nM c6), (9, .slice (some ⟨gh, 0, none⟩) 8 c9), (10, .slice (some ⟨gk, 0, none⟩) 80 c10), (13, .int .i64 ((128 * k : Nat) : Int)), (14, .slice A14 t c14), (15, .int .i64 (t : Int)), (16, .int .u64 ((Lng.pre bl t i : Nat) : Int)), (17, .int .i64 (i : Int))] ∧ n' = 8 - i ∧ (i ≤ 8 ∧ wc = wb)) _ _ ⟨0, rfl, rfl, by omega, rfl⟩ ⟨rfl, rfl, rfl, (by first | rfl | exact congrArg some (int_val (by omega))), rfl, (by first | rfl | exact congrArg some (int_val (by omega))), (by first | rfl | exact congrArg some (int_val (by omega))), (by first | rfl | exact congrArg some (int_val (by omega))), trivial⟩ ?_
                rintro KL8 n' L wc ⟨i, rfl, rfl, hi, hwc⟩ hL8
                refine wc_seq ?_; intro K45 hK45
                refine wc_seq ?_; intro K46 hK46
                refine wc_region ?_
                refine wl_y (y_move rfl) rfl ?_
                refine wl_y (y_lss rfl rfl) rfl ?_
                refine wl_nil ?_
                refine wq_then_norm (hK46 ?_)
                refine wc_dec rfl (fun hc9 => ?_) (fun hc9 => ?_)
                · skip
                  refine wc_skip ?_
                  refine wq_then_norm (hK45 ?_)
                  refine wc_seq ?_; intro K47 hK47
                  refine wc_block ?_
                  subst hwc
                  have hpl := Lng.pre_lt bl t i
                  have hpp : 256 ^ i ≤ 72057594037927936 := Nat.pow_le_pow_right (n := 256) (by omega) (show i ≤ 7 by omega)
                  have hbyte := (bl.getD (8 * t + i) 0).toNat_lt
                  refine wc_region ?_
                  refine wl_y (y_move rfl) rfl ?_
                  refine wl_y (y_mul rfl rfl (u64_nat (n := 256 * Lng.pre bl t i) (by omega) (by omega))) rfl ?_
                  refine wl_y (y_move rfl) rfl ?_
                  refine wl_y (y_move rfl) rfl ?_
                  refine wl_y (y_move rfl) rfl ?_
                  refine wl_y (y_mul rfl rfl (i64_nat (n := 8 * t) (by omega) (by omega))) rfl ?_
                  refine wl_y (y_add rfl rfl (i64_nat (n := 128 * k + 8 * t) (by omega) (by omega))) rfl ?_
                  refine wl_y (y_move rfl) rfl ?_
                  refine wl_y (y_add rfl rfl (i64_nat (n := 128 * k + 8 * t + i) (by omega) (by omega))) rfl ?_
                  refine wl_y (y_ixs1 rfl rfl Try.underlying22 (by kernel_rfl) (j := 128 * k + 8 * t + i) rfl (by omega)) rfl ?_
                  refine wl_y (y_load1 rfl Try.underlying5 rfl (show _ = some (.int .u8 ((bl.getD (8 * t + i) 0).toNat : Int)) from by rw [hbl, ← lblock_byte _ _ _ _ (by omega) (by omega)]; exact (HMa.wk F).cellAt (by omega))) rfl ?_
                  refine wl_y (y_conv rfl Try.underlying5 Try.underlying59 (u64_nat rfl (by omega))) rfl ?_
                  refine wl_y (y_add rfl rfl (u64_nat (n := 256 * Lng.pre bl t i + (bl.getD (8 * t + i) 0).toNat) (by omega) (by omega))) rfl ?_
                  refine wl_y (y_assign rfl) rfl ?_
                  refine wl_nil ?_
                  refine wq_blk_norm ?_
                  refine wq_then_norm (hK47 ?_)
                  refine wc_region ?_
                  refine wl_y (y_move rfl) rfl ?_
                  refine wl_y (y_add rfl rfl (i64_ok (by omega) (by omega))) rfl ?_
                  refine wl_y (y_assign rfl) rfl ?_
                  refine wl_nil ?_
                  refine wq_then_norm ?_
                  refine hL8 _ _ ⟨i + 1, rfl, rfl, by omega, rfl⟩ (by omega) ⟨rfl, rfl, rfl, (by first | rfl | exact congrArg some (int_val (by omega))), rfl, (by first | rfl | exact congrArg some (int_val (by omega))), (by first | rfl | exact congrArg some (int_val (by omega))), (by first | rfl | exact congrArg some (int_val (by omega))), trivial⟩
                · skip
                  refine wc_exit ?_
                  refine wq_then_exit ?_
                  refine wq_then_exit ?_
                  refine wq_blk_hit ?_
                  refine wq_then_norm (hK42 ?_)
                  obtain rfl : i = 8 := by omega
                  subst hwc
                  have hwt : Lng.wt bl t ++ [Lng.pre bl t 8] = Lng.wt bl (t + 1) := (Lng.wt_low (by omega)).symm
                  have Rt := R; have Ft := F
                  refine wc_region ?_
                  refine wl_y (y_move rfl) rfl ?_
                  refine wl_y (y_move rfl) rfl ?_
                  refine wl_ef (ef_lit (z := .int .u64 0) Try.underlying123 (by kernel_rfl) rfl rfl rfl rfl rfl) rfl ?_
                  rintro _ w5 ⟨g5, rfl, B5, hg5, ex⟩
                  have R5 := Rt.ext ex; have F5 := Ft.ext ex; have hs5 := F5.size
                  refine wl_ef (ef_app rfl rfl eltU R5 (At.blk (vs := [Lng.pre bl t 8].map (iv .u64)) (B5.congr rfl)) rfl (by intro u hu; exact iv_one u hu) (by omega) (by omega) hs5) rfl ?_
                  rintro _ w6 ⟨A6, c7, rfl, R6, be, gr, hl⟩
                  have F6 := F5.trans be; have R7 := R6.ivs; rw [hwt] at R7
                  refine wl_y (y_assign rfl) rfl ?_
                  refine wl_nil ?_
                  refine wq_blk_norm ?_
                  refine wq_then_norm (hK40 ?_)
                  refine wc_region ?_
                  refine wl_y (y_move rfl) rfl ?_
                  refine wl_y (y_add rfl rfl (i64_ok (by omega) (by omega))) rfl ?_
                  refine wl_y (y_assign rfl) rfl ?_
                  refine wl_nil ?_
                  refine wq_then_norm ?_
                  refine hL7 _ _ ⟨t + 1, c7, A6, rfl, rfl, by omega, F6, R7⟩ (by omega) ⟨rfl, rfl, rfl, (by first | rfl | exact congrArg some (int_val (by omega))), rfl, (by first | rfl | exact congrArg some (int_val (by omega))), trivial⟩
              · skip
                refine wc_seq ?_; intro K48 hK48
                obtain ⟨g14, _, rfl, _, _, _, _, _⟩ := R.get (i := 0) (by omega)
                have Hw := Ns.of_row R
                have hlt : ∀ j, (Lng.wt bl t).getD j 0 < 18446744073709551616 := Lng.getD_lt (Lng.wt_lt bl t)
                obtain ⟨v15, e15⟩ : ∃ v, v = (Lng.wt bl t).getD (t - 15) 0 := ⟨_, rfl⟩
                obtain ⟨v2, e2⟩ : ∃ v, v = (Lng.wt bl t).getD (t - 2) 0 := ⟨_, rfl⟩
                obtain ⟨v7, e7⟩ : ∃ v, v = (Lng.wt bl t).getD (t - 7) 0 := ⟨_, rfl⟩
                obtain ⟨v16, e16⟩ : ∃ v, v = (Lng.wt bl t).getD (t - 16) 0 := ⟨_, rfl⟩
                have l15 := hlt (t - 15); have l2 := hlt (t - 2); have l7 := hlt (t - 7); have l16 := hlt (t - 16)
                rw [← e15] at l15; rw [← e2] at l2; rw [← e7] at l7; rw [← e16] at l16
                refine wc_draw (by kernel_rfl) 21 rfl ?_; intro wd37 ex hd37
                replace F := F.ext ex
                replace R := R.ext ex
                replace Hw := Hw.ext ex
                refine wm_y 0 rfl (by kernel_rfl) (y_move rfl) rfl ?_
                refine wm_y 1 rfl (by kernel_rfl) (y_move rfl) rfl ?_
                refine wm_y 2 rfl (by kernel_rfl) (y_sub rfl rfl (i64_ok (by omega) (by omega))) rfl ?_
                refine wm_y 3 rfl (by kernel_rfl) (y_ixs1 rfl rfl Try.underlying123 (by kernel_rfl) (j := t - 15) (by omega) (by omega)) rfl ?_
                refine wm_y 4 rfl (by kernel_rfl) (y_load1 rfl Try.underlying59 rfl (show _ = some (.int .u64 ((v15 : Nat) : Int)) from by rw [e15]; exact Hw.cellAt (by omega))) rfl ?_
                refine wm_y 6 rfl (by kernel_rfl) (y_move rfl) rfl ?_
                refine wm_y 7 rfl (by kernel_rfl) (y_move rfl) rfl ?_
                refine wm_y 8 rfl (by kernel_rfl) (y_sub rfl rfl (i64_ok (by omega) (by omega))) rfl ?_
                refine wm_y 9 rfl (by kernel_rfl) (y_ixs1 rfl rfl Try.underlying123 (by kernel_rfl) (j := t - 15) (by omega) (by omega)) rfl ?_
                refine wm_y 10 rfl (by kernel_rfl) (y_load1 rfl Try.underlying59 rfl (show _ = some (.int .u64 ((v15 : Nat) : Int)) from by rw [e15]; exact Hw.cellAt (by omega))) rfl ?_
                refine wm_y 13 rfl (by kernel_rfl) (y_move rfl) rfl ?_
                refine wm_y 14 rfl (by kernel_rfl) (y_move rfl) rfl ?_
                refine wm_y 15 rfl (by kernel_rfl) (y_sub rfl rfl (i64_ok (by omega) (by omega))) rfl ?_
                refine wm_y 16 rfl (by kernel_rfl) (y_ixs1 rfl rfl Try.underlying123 (by kernel_rfl) (j := t - 15) (by omega) (by omega)) rfl ?_
                refine wm_y 17 rfl (by kernel_rfl) (y_load1 rfl Try.underlying59 rfl (show _ = some (.int .u64 ((v15 : Nat) : Int)) from by rw [e15]; exact Hw.cellAt (by omega))) rfl ?_
                refine wm_one 5 (by kernel_rfl) ?_; refine om_call rfl Try.func136 rfl rfl rfl (lturn_any v15 1 _ l15 (by omega)) rfl ?_
                rintro e w9 ⟨rfl, ex⟩
                refine ⟨_, rfl, .inr ex, ?_⟩
                replace F := F.ext ex
                replace R := R.ext ex
                replace Hw := Hw.ext ex
                refine wm_one 11 (by kernel_rfl) ?_; refine om_call rfl Try.func136 rfl rfl rfl (lturn_any v15 8 _ l15 (by omega)) rfl ?_
                rintro e w9 ⟨rfl, ex⟩
                refine ⟨_, rfl, .inr ex, ?_⟩
                replace F := F.ext ex
                replace R := R.ext ex
                replace Hw := Hw.ext ex
                refine wm_y 12 rfl (by kernel_rfl) (y_xor rfl rfl rfl) rfl ?_
                refine wm_one 18 (by kernel_rfl) ?_; refine om_call rfl Try.func137 rfl rfl rfl (lshift_any v15 7 _ l15 (by omega)) rfl ?_
                rintro e w9 ⟨rfl, ex⟩
                refine ⟨_, rfl, .inr ex, ?_⟩
                replace F := F.ext ex
                replace R := R.ext ex
                replace Hw := Hw.ext ex
                refine wm_y 19 rfl (by kernel_rfl) (y_xor rfl rfl (lxor3 _ _ _ (Lng.rotr_lt l15 (by omega)) (Lng.rotr_lt l15 (by omega)) (Nat.lt_of_le_of_lt (Nat.div_le_self _ _) l15))) rfl ?_
                refine wm_y 20 rfl (by kernel_rfl) (y_assign rfl) rfl ?_
                refine wm_done (by kernel_rfl) ?_
                refine wq_nop ?_
                refine wq_then_norm (hK48 ?_)
                refine wc_seq ?_; intro K49 hK49
                refine wc_draw (by kernel_rfl) 21 rfl ?_; intro wd38 ex hd38
                replace F := F.ext ex
                replace R := R.ext ex
                replace Hw := Hw.ext ex
                refine wm_y 0 rfl (by kernel_rfl) (y_move rfl) rfl ?_
                refine wm_y 1 rfl (by kernel_rfl) (y_move rfl) rfl ?_
                refine wm_y 2 rfl (by kernel_rfl) (y_sub rfl rfl (i64_ok (by omega) (by omega))) rfl ?_
                refine wm_y 3 rfl (by kernel_rfl) (y_ixs1 rfl rfl Try.underlying123 (by kernel_rfl) (j := t - 2) (by omega) (by omega)) rfl ?_
                refine wm_y 4 rfl (by kernel_rfl) (y_load1 rfl Try.underlying59 rfl (show _ = some (.int .u64 ((v2 : Nat) : Int)) from by rw [e2]; exact Hw.cellAt (by omega))) rfl ?_
                refine wm_y 6 rfl (by kernel_rfl) (y_move rfl) rfl ?_
                refine wm_y 7 rfl (by kernel_rfl) (y_move rfl) rfl ?_
                refine wm_y 8 rfl (by kernel_rfl) (y_sub rfl rfl (i64_ok (by omega) (by omega))) rfl ?_
                refine wm_y 9 rfl (by kernel_rfl) (y_ixs1 rfl rfl Try.underlying123 (by kernel_rfl) (j := t - 2) (by omega) (by omega)) rfl ?_
                refine wm_y 10 rfl (by kernel_rfl) (y_load1 rfl Try.underlying59 rfl (show _ = some (.int .u64 ((v2 : Nat) : Int)) from by rw [e2]; exact Hw.cellAt (by omega))) rfl ?_
                refine wm_y 13 rfl (by kernel_rfl) (y_move rfl) rfl ?_
                refine wm_y 14 rfl (by kernel_rfl) (y_move rfl) rfl ?_
                refine wm_y 15 rfl (by kernel_rfl) (y_sub rfl rfl (i64_ok (by omega) (by omega))) rfl ?_
                refine wm_y 16 rfl (by kernel_rfl) (y_ixs1 rfl rfl Try.underlying123 (by kernel_rfl) (j := t - 2) (by omega) (by omega)) rfl ?_
                refine wm_y 17 rfl (by kernel_rfl) (y_load1 rfl Try.underlying59 rfl (show _ = some (.int .u64 ((v2 : Nat) : Int)) from by rw [e2]; exact Hw.cellAt (by omega))) rfl ?_
                refine wm_one 5 (by kernel_rfl) ?_; refine om_call rfl Try.func136 rfl rfl rfl (lturn_any v2 19 _ l2 (by omega)) rfl ?_
                rintro e w9 ⟨rfl, ex⟩
                refine ⟨_, rfl, .inr ex, ?_⟩
                replace F := F.ext ex
                replace R := R.ext ex
                replace Hw := Hw.ext ex
                refine wm_one 11 (by kernel_rfl) ?_; refine om_call rfl Try.func136 rfl rfl rfl (lturn_any v2 61 _ l2 (by omega)) rfl ?_
                rintro e w9 ⟨rfl, ex⟩
                refine ⟨_, rfl, .inr ex, ?_⟩
                replace F := F.ext ex
                replace R := R.ext ex
                replace Hw := Hw.ext ex
                refine wm_y 12 rfl (by kernel_rfl) (y_xor rfl rfl rfl) rfl ?_
                refine wm_one 18 (by kernel_rfl) ?_; refine om_call rfl Try.func137 rfl rfl rfl (lshift_any v2 6 _ l2 (by omega)) rfl ?_
                rintro e w9 ⟨rfl, ex⟩
                refine ⟨_, rfl, .inr ex, ?_⟩
                replace F := F.ext ex
                replace R := R.ext ex
                replace Hw := Hw.ext ex
                refine wm_y 19 rfl (by kernel_rfl) (y_xor rfl rfl (lxor3 _ _ _ (Lng.rotr_lt l2 (by omega)) (Lng.rotr_lt l2 (by omega)) (Nat.lt_of_le_of_lt (Nat.div_le_self _ _) l2))) rfl ?_
                refine wm_y 20 rfl (by kernel_rfl) (y_assign rfl) rfl ?_
                refine wm_done (by kernel_rfl) ?_
                refine wq_nop ?_
                refine wq_then_norm (hK49 ?_)
                refine wc_draw (by kernel_rfl) 16 rfl ?_; intro wd39 ex hd39
                replace F := F.ext ex
                replace R := R.ext ex
                replace Hw := Hw.ext ex
                refine wm_y 0 rfl (by kernel_rfl) (y_move rfl) rfl ?_
                refine wm_y 1 rfl (by kernel_rfl) (y_move rfl) rfl ?_
                refine wm_y 2 rfl (by kernel_rfl) (y_move rfl) rfl ?_
                refine wm_y 3 rfl (by kernel_rfl) (y_sub rfl rfl (i64_ok (by omega) (by omega))) rfl ?_
                refine wm_y 4 rfl (by kernel_rfl) (y_ixs1 rfl rfl Try.underlying123 (by kernel_rfl) (j := t - 7) (by omega) (by omega)) rfl ?_
                refine wm_y 5 rfl (by kernel_rfl) (y_load1 rfl Try.underlying59 rfl (show _ = some (.int .u64 ((v7 : Nat) : Int)) from by rw [e7]; exact Hw.cellAt (by omega))) rfl ?_
                refine wm_y 6 rfl (by kernel_rfl) (y_add rfl rfl rfl) rfl ?_
                refine wm_y 7 rfl (by kernel_rfl) (y_move rfl) rfl ?_
                refine wm_y 8 rfl (by kernel_rfl) (y_add rfl rfl rfl) rfl ?_
                refine wm_y 9 rfl (by kernel_rfl) (y_move rfl) rfl ?_
                refine wm_y 10 rfl (by kernel_rfl) (y_move rfl) rfl ?_
                refine wm_y 11 rfl (by kernel_rfl) (y_sub rfl rfl (i64_ok (by omega) (by omega))) rfl ?_
                refine wm_y 12 rfl (by kernel_rfl) (y_ixs1 rfl rfl Try.underlying123 (by kernel_rfl) (j := t - 16) (by omega) (by omega)) rfl ?_
                refine wm_y 13 rfl (by kernel_rfl) (y_load1 rfl Try.underlying59 rfl (show _ = some (.int .u64 ((v16 : Nat) : Int)) from by rw [e16]; exact Hw.cellAt (by omega))) rfl ?_
                refine wm_y 14 rfl (by kernel_rfl) (Y.as (y_add rfl rfl rfl) (congrArg (Value.int .u64) (show _ = ((Lng.nextW (Lng.wt bl t) (t - 16) : Nat) : Int) from by
                  rw [u64w, u64w, u64w]
                  unfold Lng.nextW
                  rw [show t - 16 + 14 = t - 2 from by omega, show t - 16 + 9 = t - 7 from by omega, show t - 16 + 1 = t - 15 from by omega, ← e2, ← e7, ← e15, ← e16]
                  simp only [Lng.s1, Lng.s0, Nat.reducePow]
                  omega))) rfl ?_
                refine wm_y 15 rfl (by kernel_rfl) (y_assign rfl) rfl ?_
                refine wm_done (by kernel_rfl) ?_
                refine wq_nop ?_
                refine wq_then_norm (hK42 ?_)
                have hwt : Lng.wt bl t ++ [Lng.nextW (Lng.wt bl t) (t - 16)] = Lng.wt bl (t + 1) := (Lng.wt_high (by omega)).symm
                have Rt := R; have Ft := F
                refine wc_region ?_
                refine wl_y (y_move rfl) rfl ?_
                refine wl_y (y_move rfl) rfl ?_
                refine wl_ef (ef_lit (z := .int .u64 0) Try.underlying123 (by kernel_rfl) rfl rfl rfl rfl rfl) rfl ?_
                rintro _ w5 ⟨g5, rfl, B5, hg5, ex⟩
                have R5 := Rt.ext ex; have F5 := Ft.ext ex; have hs5 := F5.size
                refine wl_ef (ef_app rfl rfl eltU R5 (At.blk (vs := [Lng.nextW (Lng.wt bl t) (t - 16)].map (iv .u64)) (B5.congr rfl)) rfl (by intro u hu; exact iv_one u hu) (by omega) (by omega) hs5) rfl ?_
                rintro _ w6 ⟨A6, c7, rfl, R6, be, gr, hl⟩
                have F6 := F5.trans be; have R7 := R6.ivs; rw [hwt] at R7
                refine wl_y (y_assign rfl) rfl ?_
                refine wl_nil ?_
                refine wq_blk_norm ?_
                refine wq_then_norm (hK40 ?_)
                refine wc_region ?_
                refine wl_y (y_move rfl) rfl ?_
                refine wl_y (y_add rfl rfl (i64_ok (by omega) (by omega))) rfl ?_
                refine wl_y (y_assign rfl) rfl ?_
                refine wl_nil ?_
                refine wq_then_norm ?_
                refine hL7 _ _ ⟨t + 1, c7, A6, rfl, rfl, by omega, F6, R7⟩ (by omega) ⟨rfl, rfl, rfl, (by first | rfl | exact congrArg some (int_val (by omega))), rfl, (by first | rfl | exact congrArg some (int_val (by omega))), trivial⟩
            · skip
              refine wc_exit ?_
              refine wq_then_exit ?_
              refine wq_then_exit ?_
              refine wq_blk_hit ?_
              refine wq_then_norm (hK36 ?_)
              refine wc_seq ?_; intro K50 hK50
              obtain rfl : t = 80 := by omega
              rw [Lng.wt_words] at R
              obtain ⟨g14, _, rfl, _, _, _, _, _⟩ := R.get (i := 0) (by omega)
              have Hw := Ns.of_row R
              have Hh := (Ns.of_row RH2).ext F
              refine wc_region ?_
              refine wl_ef (ef_lit (z := .int .u64 0) Try.underlying123 (by kernel_rfl) rfl rfl rfl rfl rfl) rfl ?_
              rintro _ w5 ⟨g5, rfl, B5, hg5, ex⟩
              have x5 := ex; have R5 : Row w5 wb.heap.size 59 (some ⟨g5, 0, none⟩) 0 0 (([] : List Nat).map (iv .u64)) := Row.new B5 hg5 rfl (by unfold maxLen; omega)
              refine wl_y (y_move rfl) rfl ?_
              refine wl_ef (ef_app0 rfl rfl eltU R5 (Hh.ext x5).2 (by rw [List.length_map, ls8_len]) (by intro u hu; exact iv_one u hu) (by omega) (by omega) x5.size) rfl ?_
              rintro _ w6 ⟨A20, c20, rfl, R20, be, gr, hl⟩
              have x6 : Ext wb w6 := x5.trans be
              refine wl_y (y_assign rfl) rfl ?_
              refine wl_nil ?_
              refine wq_then_norm (hK50 ?_)
              refine wc_seq ?_; intro K51 hK51
              refine wc_seq ?_; intro K52 hK52
              refine wc_region ?_
              refine wl_y (y_assign rfl) rfl ?_
              refine wl_nil ?_
              refine wq_then_norm (hK52 ?_)
              refine wc_block ?_
              have hF6 := F.size
              refine wc_loop (fun n' L wd => ∃ (t c20 : Nat) (A20 : Option Addr), L = [(3, .slice (some ⟨gM, 0, none⟩) nM c6), (9, .slice (some ⟨gh, 0, none⟩) 8 c9), (10, .slice (some ⟨gk, 0, none⟩) 80 c10), (13, .int .i64 ((128 * k : Nat) : Int)), (14, .slice (some ⟨g14, 0, none⟩) 80 c14), (20, .slice A20 8 c20), (21, .int .i64 (t : Int))] ∧ n' = 80 - t ∧ (t ≤ 80 ∧ Ext wb wd ∧ Ns .u64 wd A20 8 (Lng.rounds (Lng.words bl) S t).list ∧ (∀ o, A20 ≠ some ⟨gh, o, none⟩))) _ _ ⟨0, c20, A20, rfl, rfl, by omega, x6, Ns.of_row R20, (fun o e => by have := row_ge R20 gh o e; omega)⟩ ⟨rfl, rfl, rfl, (by first | rfl | exact congrArg some (int_val (by omega))), rfl, rfl, (by first | rfl | exact congrArg some (int_val (by omega))), trivial⟩ ?_
              rintro KL9 n' L wd ⟨t, c20, A20, rfl, rfl, ht, X, HV, hfar⟩ hL9
              refine wc_seq ?_; intro K53 hK53
              refine wc_seq ?_; intro K54 hK54
              refine wc_region ?_
              refine wl_y (y_move rfl) rfl ?_
              refine wl_y (y_lss rfl rfl) rfl ?_
              refine wl_nil ?_
              refine wq_then_norm (hK54 ?_)
              refine wc_dec rfl (fun hc10 => ?_) (fun hc10 => ?_)
              · skip
                refine wc_skip ?_
                refine wq_then_norm (hK53 ?_)
                refine wc_seq ?_; intro K55 hK55
                refine wc_block ?_
                refine wc_seq ?_; intro K56 hK56
                obtain ⟨g20, o20, _, rfl, _⟩ := HV.cell (i := 0) (by omega)
                obtain ⟨Q, hQ⟩ : ∃ Q, Q = Lng.rounds (Lng.words bl) S t := ⟨_, rfl⟩
                have hok : Q.ok := by rw [hQ]; exact Lng.rounds_ok _ hSok _
                rw [← hQ] at HV
                obtain ⟨a, b, cc, d, e, f, gg, hh⟩ := Q
                obtain ⟨la, lb, lc, ld, le, lf, lg, lh⟩ := hok
                obtain ⟨C, hC⟩ : ∃ C, C = Lng.ch e f gg := ⟨_, rfl⟩
                obtain ⟨J, hJ⟩ : ∃ C, C = Lng.maj a b cc := ⟨_, rfl⟩
                have hCl : C < 18446744073709551616 := by rw [hC]; exact Lng.ch_lt le
                have hJl : J < 18446744073709551616 := by rw [hJ]; exact Lng.maj_lt la lb
                refine wc_region ?_
                refine wl_y (y_assign rfl) rfl ?_
                refine wl_y (y_assign rfl) rfl ?_
                refine wl_nil ?_
                refine wq_then_norm (hK56 ?_)
                refine wc_seq ?_; intro K57 hK57
                refine wc_region ?_
                refine wl_y (y_assign rfl) rfl ?_
                refine wl_nil ?_
                refine wq_then_norm (hK57 ?_)
                refine wc_seq ?_; intro K58 hK58
                refine wc_seq ?_; intro K59 hK59
                refine wc_region ?_
                refine wl_y (y_assign rfl) rfl ?_
                refine wl_nil ?_
                refine wq_then_norm (hK59 ?_)
                refine wc_block ?_
                refine wc_loop (fun n' L we => ∃ (i u : Nat), L = [(3, .slice (some ⟨gM, 0, none⟩) nM c6), (9, .slice (some ⟨gh, 0, none⟩) 8 c9), (10, .slice (some ⟨gk, 0, none⟩) 80 c10), (13, .int .i64 ((128 * k : Nat) : Int)), (14, .slice (some ⟨g14, 0, none⟩) 80 c14), (20, .slice (some ⟨g20, o20, none⟩) 8 c20), (21, .int .i64 (t : Int)), (22, .int .u64 ((C % u : Nat) : Int)), (23, .int .u64 ((J % u : Nat) : Int)), (24, .int .u64 (u : Int)), (25, .int .i64 (i : Int))] ∧ n' = 64 - i ∧ (i ≤ 64 ∧ u = 2 ^ i % 18446744073709551616 ∧ Ext wb we ∧ Ns .u64 we (some ⟨g20, o20, none⟩) 8 [a, b, cc, d, e, f, gg, hh])) _ _ ⟨0, 1, rfl, rfl, by omega, rfl, X, HV⟩ ⟨rfl, rfl, rfl, (by first | rfl | exact congrArg some (int_val (by omega))), rfl, rfl, (by first | rfl | exact congrArg some (int_val (by omega))), (by first | rfl | exact congrArg some (int_val (by omega))), (by first | rfl | exact congrArg some (int_val (by omega))), (by first | rfl | exact congrArg some (int_val (by omega))), (by first | rfl | exact congrArg some (int_val (by omega))), trivial⟩ ?_
                rintro KL10 n' L we ⟨i, u, rfl, rfl, hi, hu, X, HV⟩ hL10
                refine wc_seq ?_; intro K60 hK60
                refine wc_seq ?_; intro K61 hK61
                refine wc_region ?_
                refine wl_y (y_move rfl) rfl ?_
                refine wl_y (y_lss rfl rfl) rfl ?_
                refine wl_nil ?_
                refine wq_then_norm (hK61 ?_)
                refine wc_dec rfl (fun hc11 => ?_) (fun hc11 => ?_)
                · skip
                  refine wc_skip ?_
                  refine wq_then_norm (hK60 ?_)
                  refine wc_seq ?_; intro K62 hK62
                  refine wc_block ?_
                  refine wc_seq ?_; intro K63 hK63
                  have hu2 : u = 2 ^ i := by rw [hu, Nat.mod_eq_of_lt]; have := pow_below (i := i) (by omega); omega
                  have hul : u ≤ 9223372036854775808 := by rw [hu2]; exact pow_below (by omega)
                  have hu0 : 0 < u := by rw [hu2]; exact Nat.two_pow_pos i
                  have hun : 2 * u % 18446744073709551616 = 2 ^ (i + 1) % 18446744073709551616 := by rw [Nat.pow_succ, ← hu2, Nat.mul_comm]
                  have hCm := Nat.mod_lt C hu0
                  have hJm := Nat.mod_lt J hu0
                  refine wc_region ?_
                  refine wl_y (y_move rfl) rfl ?_
                  refine wl_y (y_ixs1 rfl rfl Try.underlying123 (by kernel_rfl) (j := 6) rfl (by omega)) rfl ?_
                  refine wl_y (y_load1 rfl Try.underlying59 rfl (HV.cellAt (i := 6) (by omega))) rfl ?_
                  refine wl_y (y_assign rfl) rfl ?_
                  refine wl_nil ?_
                  refine wq_then_norm (hK63 ?_)
                  refine wc_seq ?_; intro K64 hK64
                  refine wc_seq ?_; intro K65 hK65
                  refine wc_region ?_
                  refine wl_y (y_move rfl) rfl ?_
                  refine wl_y (y_ixs1 rfl rfl Try.underlying123 (by kernel_rfl) (j := 4) rfl (by omega)) rfl ?_
                  refine wl_y (y_load1 rfl Try.underlying59 rfl (HV.cellAt (i := 4) (by omega))) rfl ?_
                  refine wl_y (y_move rfl) rfl ?_
                  refine wl_y (y_quo rfl rfl (by omega) (show IntKind.u64.wrap ((e : Int).tdiv u) = ((e / u : Nat) : Int) from u64_nat rfl (Nat.lt_of_le_of_lt (Nat.div_le_self _ _) le))) rfl ?_
                  refine wl_y (y_rem rfl rfl (by omega) (show (((e / u : Nat) : Int).tmod 2) = ((e / u % 2 : Nat) : Int) from rfl)) rfl ?_
                  refine wl_y (y_eql rfl rfl) rfl ?_
                  refine wl_nil ?_
                  refine wq_then_norm (hK65 ?_)
                  refine wc_dec rfl (fun hc12 => ?_) (fun hc12 => ?_)
                  · skip
                    refine wc_region ?_
                    refine wl_y (y_move rfl) rfl ?_
                    refine wl_y (y_ixs1 rfl rfl Try.underlying123 (by kernel_rfl) (j := 5) rfl (by omega)) rfl ?_
                    refine wl_y (y_load1 rfl Try.underlying59 rfl (HV.cellAt (i := 5) (by omega))) rfl ?_
                    refine wl_y (y_assign rfl) rfl ?_
                    refine wl_nil ?_
                    refine wq_then_norm (hK64 ?_)
                    refine wc_seq ?_; intro K66 hK66
                    have hbm := bit_mul (f / u) u
                    refine wc_region ?_
                    refine wl_y (y_move rfl) rfl ?_
                    refine wl_y (y_move rfl) rfl ?_
                    refine wl_y (y_move rfl) rfl ?_
                    refine wl_y (y_quo rfl rfl (by omega) (show IntKind.u64.wrap ((f : Int).tdiv u) = ((f / u : Nat) : Int) from u64_nat rfl (Nat.lt_of_le_of_lt (Nat.div_le_self _ _) lf))) rfl ?_
                    refine wl_y (y_rem rfl rfl (by omega) (show (((f / u : Nat) : Int).tmod 2) = ((f / u % 2 : Nat) : Int) from rfl)) rfl ?_
                    refine wl_y (y_move rfl) rfl ?_
                    refine wl_y (y_mul rfl rfl (u64_nat (n := f / u % 2 * u) (Int.natCast_mul _ _).symm (by omega))) rfl ?_
                    refine wl_y (y_add rfl rfl (u64_nat (n := C % u + f / u % 2 * u) (by omega) (by omega))) rfl ?_
                    refine wl_y (y_assign rfl) rfl ?_
                    refine wl_nil ?_
                    refine wq_then_norm (hK66 ?_)
                    refine wc_seq ?_; intro K67 hK67
                    refine wc_seq ?_; intro K68 hK68
                    have hb1 : e / u % 2 = 1 := by exact_mod_cast hc12
                    have hCn : C % u + f / u % 2 * u = C % (2 * u % 18446744073709551616) := by
                      rw [hun, mod_top hCl (by omega), hC, Lng.ch_step1 le (by omega) (by rw [← hu2]; exact hb1), hu2]
                    refine wc_draw (by kernel_rfl) 21 rfl ?_; intro wd54 ex hd54
                    replace X := X.ext ex
                    replace HV := HV.ext ex
                    refine wm_y 0 rfl (by kernel_rfl) (y_move rfl) rfl ?_
                    refine wm_y 1 rfl (by kernel_rfl) (y_ixs1 rfl rfl Try.underlying123 (by kernel_rfl) (j := 0) rfl (by omega)) rfl ?_
                    refine wm_y 2 rfl (by kernel_rfl) (y_load1 rfl Try.underlying59 rfl (HV.cellAt (i := 0) (by omega))) rfl ?_
                    refine wm_y 3 rfl (by kernel_rfl) (y_move rfl) rfl ?_
                    refine wm_y 4 rfl (by kernel_rfl) (y_quo rfl rfl (by omega) (show IntKind.u64.wrap ((a : Int).tdiv u) = ((a / u : Nat) : Int) from u64_nat rfl (Nat.lt_of_le_of_lt (Nat.div_le_self _ _) la))) rfl ?_
                    refine wm_y 5 rfl (by kernel_rfl) (y_rem rfl rfl (by omega) (show (((a / u : Nat) : Int).tmod 2) = ((a / u % 2 : Nat) : Int) from rfl)) rfl ?_
                    refine wm_y 6 rfl (by kernel_rfl) (y_move rfl) rfl ?_
                    refine wm_y 7 rfl (by kernel_rfl) (y_ixs1 rfl rfl Try.underlying123 (by kernel_rfl) (j := 1) rfl (by omega)) rfl ?_
                    refine wm_y 8 rfl (by kernel_rfl) (y_load1 rfl Try.underlying59 rfl (HV.cellAt (i := 1) (by omega))) rfl ?_
                    refine wm_y 9 rfl (by kernel_rfl) (y_move rfl) rfl ?_
                    refine wm_y 10 rfl (by kernel_rfl) (y_quo rfl rfl (by omega) (show IntKind.u64.wrap ((b : Int).tdiv u) = ((b / u : Nat) : Int) from u64_nat rfl (Nat.lt_of_le_of_lt (Nat.div_le_self _ _) lb))) rfl ?_
                    refine wm_y 11 rfl (by kernel_rfl) (y_rem rfl rfl (by omega) (show (((b / u : Nat) : Int).tmod 2) = ((b / u % 2 : Nat) : Int) from rfl)) rfl ?_
                    refine wm_y 12 rfl (by kernel_rfl) (y_add rfl rfl (u64_nat (n := a / u % 2 + b / u % 2) (by omega) (by omega))) rfl ?_
                    refine wm_y 13 rfl (by kernel_rfl) (y_move rfl) rfl ?_
                    refine wm_y 14 rfl (by kernel_rfl) (y_ixs1 rfl rfl Try.underlying123 (by kernel_rfl) (j := 2) rfl (by omega)) rfl ?_
                    refine wm_y 15 rfl (by kernel_rfl) (y_load1 rfl Try.underlying59 rfl (HV.cellAt (i := 2) (by omega))) rfl ?_
                    refine wm_y 16 rfl (by kernel_rfl) (y_move rfl) rfl ?_
                    refine wm_y 17 rfl (by kernel_rfl) (y_quo rfl rfl (by omega) (show IntKind.u64.wrap ((cc : Int).tdiv u) = ((cc / u : Nat) : Int) from u64_nat rfl (Nat.lt_of_le_of_lt (Nat.div_le_self _ _) lc))) rfl ?_
                    refine wm_y 18 rfl (by kernel_rfl) (y_rem rfl rfl (by omega) (show (((cc / u : Nat) : Int).tmod 2) = ((cc / u % 2 : Nat) : Int) from rfl)) rfl ?_
                    refine wm_y 19 rfl (by kernel_rfl) (y_add rfl rfl (u64_nat (n := a / u % 2 + b / u % 2 + cc / u % 2) (by omega) (by omega))) rfl ?_
                    refine wm_y 20 rfl (by kernel_rfl) (y_geq rfl rfl) rfl ?_
                    refine wm_done (by kernel_rfl) ?_
                    refine wq_nop ?_
                    refine wq_then_norm (hK68 ?_)
                    refine wc_dec rfl (fun hc13 => ?_) (fun hc13 => ?_)
                    · skip
                      refine wc_region ?_
                      refine wl_y (y_move rfl) rfl ?_
                      refine wl_y (y_move rfl) rfl ?_
                      refine wl_y (y_add rfl rfl (u64_nat (n := J % u + u) (by omega) (by omega))) rfl ?_
                      refine wl_y (y_assign rfl) rfl ?_
                      refine wl_nil ?_
                      refine wq_then_norm (hK67 ?_)
                      have hb2 : 2 ≤ a / u % 2 + b / u % 2 + cc / u % 2 := by exact_mod_cast hc13
                      have hJn : J % u + u = J % (2 * u % 18446744073709551616) := by
                        rw [hun, mod_top hJl (by omega), hJ, Lng.maj_step1 (by rw [← hu2]; exact hb2), hu2]
                      refine wc_region ?_
                      refine wl_y (y_move rfl) rfl ?_
                      refine wl_y (y_mul rfl rfl (show IntKind.u64.wrap (2 * (u : Int)) = ((2 * u % 18446744073709551616 : Nat) : Int) from by rw [u64w]; omega)) rfl ?_
                      refine wl_y (y_assign rfl) rfl ?_
                      refine wl_nil ?_
                      refine wq_blk_norm ?_
                      refine wq_then_norm (hK62 ?_)
                      refine wc_region ?_
                      refine wl_y (y_move rfl) rfl ?_
                      refine wl_y (y_add rfl rfl (i64_ok (by omega) (by omega))) rfl ?_
                      refine wl_y (y_assign rfl) rfl ?_
                      refine wl_nil ?_
                      refine wq_then_norm ?_
                      refine hL10 _ _ ⟨i + 1, 2 * u % 18446744073709551616, rfl, rfl, by omega, hun, X, HV⟩ (by omega) ⟨rfl, rfl, rfl, (by first | rfl | exact congrArg some (int_val (by omega))), rfl, rfl, (by first | rfl | exact congrArg some (int_val (by omega))), (by first | rfl | exact congrArg some (int_val (by omega))), (by first | rfl | exact congrArg some (int_val (by omega))), (by first | rfl | exact congrArg some (int_val (by omega))), (by first | rfl | exact congrArg some (int_val (by omega))), trivial⟩
                    · skip
                      refine wc_skip ?_
                      refine wq_then_norm (hK67 ?_)
                      have hb2 : ¬ 2 ≤ a / u % 2 + b / u % 2 + cc / u % 2 := fun h => hc13 (by exact_mod_cast h)
                      have hJn : J % u = J % (2 * u % 18446744073709551616) := by
                        rw [hun, mod_top hJl (by omega), hJ, Lng.maj_step0 (by rw [← hu2]; exact hb2), hu2]
                      refine wc_region ?_
                      refine wl_y (y_move rfl) rfl ?_
                      refine wl_y (y_mul rfl rfl (show IntKind.u64.wrap (2 * (u : Int)) = ((2 * u % 18446744073709551616 : Nat) : Int) from by rw [u64w]; omega)) rfl ?_
                      refine wl_y (y_assign rfl) rfl ?_
                      refine wl_nil ?_
                      refine wq_blk_norm ?_
                      refine wq_then_norm (hK62 ?_)
                      refine wc_region ?_
                      refine wl_y (y_move rfl) rfl ?_
                      refine wl_y (y_add rfl rfl (i64_ok (by omega) (by omega))) rfl ?_
                      refine wl_y (y_assign rfl) rfl ?_
                      refine wl_nil ?_
                      refine wq_then_norm ?_
                      refine hL10 _ _ ⟨i + 1, 2 * u % 18446744073709551616, rfl, rfl, by omega, hun, X, HV⟩ (by omega) ⟨rfl, rfl, rfl, (by first | rfl | exact congrArg some (int_val (by omega))), rfl, rfl, (by first | rfl | exact congrArg some (int_val (by omega))), (by first | rfl | exact congrArg some (int_val (by omega))), (by first | rfl | exact congrArg some (int_val (by omega))), (by first | rfl | exact congrArg some (int_val (by omega))), (by first | rfl | exact congrArg some (int_val (by omega))), trivial⟩
                  · skip
                    refine wc_skip ?_
                    refine wq_then_norm (hK64 ?_)
                    refine wc_seq ?_; intro K69 hK69
                    have hbm := bit_mul (gg / u) u
                    refine wc_region ?_
                    refine wl_y (y_move rfl) rfl ?_
                    refine wl_y (y_move rfl) rfl ?_
                    refine wl_y (y_move rfl) rfl ?_
                    refine wl_y (y_quo rfl rfl (by omega) (show IntKind.u64.wrap ((gg : Int).tdiv u) = ((gg / u : Nat) : Int) from u64_nat rfl (Nat.lt_of_le_of_lt (Nat.div_le_self _ _) lg))) rfl ?_
                    refine wl_y (y_rem rfl rfl (by omega) (show (((gg / u : Nat) : Int).tmod 2) = ((gg / u % 2 : Nat) : Int) from rfl)) rfl ?_
                    refine wl_y (y_move rfl) rfl ?_
                    refine wl_y (y_mul rfl rfl (u64_nat (n := gg / u % 2 * u) (Int.natCast_mul _ _).symm (by omega))) rfl ?_
                    refine wl_y (y_add rfl rfl (u64_nat (n := C % u + gg / u % 2 * u) (by omega) (by omega))) rfl ?_
                    refine wl_y (y_assign rfl) rfl ?_
                    refine wl_nil ?_
                    refine wq_then_norm (hK69 ?_)
                    refine wc_seq ?_; intro K70 hK70
                    refine wc_seq ?_; intro K71 hK71
                    have hb1 : ¬ e / u % 2 = 1 := fun h => hc12 (by exact_mod_cast h)
                    have hCn : C % u + gg / u % 2 * u = C % (2 * u % 18446744073709551616) := by
                      rw [hun, mod_top hCl (by omega), hC, Lng.ch_step0 le (by omega) (by rw [← hu2]; exact hb1), hu2]
                    refine wc_draw (by kernel_rfl) 21 rfl ?_; intro wd54 ex hd54
                    replace X := X.ext ex
                    replace HV := HV.ext ex
                    refine wm_y 0 rfl (by kernel_rfl) (y_move rfl) rfl ?_
                    refine wm_y 1 rfl (by kernel_rfl) (y_ixs1 rfl rfl Try.underlying123 (by kernel_rfl) (j := 0) rfl (by omega)) rfl ?_
                    refine wm_y 2 rfl (by kernel_rfl) (y_load1 rfl Try.underlying59 rfl (HV.cellAt (i := 0) (by omega))) rfl ?_
                    refine wm_y 3 rfl (by kernel_rfl) (y_move rfl) rfl ?_
                    refine wm_y 4 rfl (by kernel_rfl) (y_quo rfl rfl (by omega) (show IntKind.u64.wrap ((a : Int).tdiv u) = ((a / u : Nat) : Int) from u64_nat rfl (Nat.lt_of_le_of_lt (Nat.div_le_self _ _) la))) rfl ?_
                    refine wm_y 5 rfl (by kernel_rfl) (y_rem rfl rfl (by omega) (show (((a / u : Nat) : Int).tmod 2) = ((a / u % 2 : Nat) : Int) from rfl)) rfl ?_
                    refine wm_y 6 rfl (by kernel_rfl) (y_move rfl) rfl ?_
                    refine wm_y 7 rfl (by kernel_rfl) (y_ixs1 rfl rfl Try.underlying123 (by kernel_rfl) (j := 1) rfl (by omega)) rfl ?_
                    refine wm_y 8 rfl (by kernel_rfl) (y_load1 rfl Try.underlying59 rfl (HV.cellAt (i := 1) (by omega))) rfl ?_
                    refine wm_y 9 rfl (by kernel_rfl) (y_move rfl) rfl ?_
                    refine wm_y 10 rfl (by kernel_rfl) (y_quo rfl rfl (by omega) (show IntKind.u64.wrap ((b : Int).tdiv u) = ((b / u : Nat) : Int) from u64_nat rfl (Nat.lt_of_le_of_lt (Nat.div_le_self _ _) lb))) rfl ?_
                    refine wm_y 11 rfl (by kernel_rfl) (y_rem rfl rfl (by omega) (show (((b / u : Nat) : Int).tmod 2) = ((b / u % 2 : Nat) : Int) from rfl)) rfl ?_
                    refine wm_y 12 rfl (by kernel_rfl) (y_add rfl rfl (u64_nat (n := a / u % 2 + b / u % 2) (by omega) (by omega))) rfl ?_
                    refine wm_y 13 rfl (by kernel_rfl) (y_move rfl) rfl ?_
                    refine wm_y 14 rfl (by kernel_rfl) (y_ixs1 rfl rfl Try.underlying123 (by kernel_rfl) (j := 2) rfl (by omega)) rfl ?_
                    refine wm_y 15 rfl (by kernel_rfl) (y_load1 rfl Try.underlying59 rfl (HV.cellAt (i := 2) (by omega))) rfl ?_
                    refine wm_y 16 rfl (by kernel_rfl) (y_move rfl) rfl ?_
                    refine wm_y 17 rfl (by kernel_rfl) (y_quo rfl rfl (by omega) (show IntKind.u64.wrap ((cc : Int).tdiv u) = ((cc / u : Nat) : Int) from u64_nat rfl (Nat.lt_of_le_of_lt (Nat.div_le_self _ _) lc))) rfl ?_
                    refine wm_y 18 rfl (by kernel_rfl) (y_rem rfl rfl (by omega) (show (((cc / u : Nat) : Int).tmod 2) = ((cc / u % 2 : Nat) : Int) from rfl)) rfl ?_
                    refine wm_y 19 rfl (by kernel_rfl) (y_add rfl rfl (u64_nat (n := a / u % 2 + b / u % 2 + cc / u % 2) (by omega) (by omega))) rfl ?_
                    refine wm_y 20 rfl (by kernel_rfl) (y_geq rfl rfl) rfl ?_
                    refine wm_done (by kernel_rfl) ?_
                    refine wq_nop ?_
                    refine wq_then_norm (hK71 ?_)
                    refine wc_dec rfl (fun hc13 => ?_) (fun hc13 => ?_)
                    · skip
                      refine wc_region ?_
                      refine wl_y (y_move rfl) rfl ?_
                      refine wl_y (y_move rfl) rfl ?_
                      refine wl_y (y_add rfl rfl (u64_nat (n := J % u + u) (by omega) (by omega))) rfl ?_
                      refine wl_y (y_assign rfl) rfl ?_
                      refine wl_nil ?_
                      refine wq_then_norm (hK70 ?_)
                      have hb2 : 2 ≤ a / u % 2 + b / u % 2 + cc / u % 2 := by exact_mod_cast hc13
                      have hJn : J % u + u = J % (2 * u % 18446744073709551616) := by
                        rw [hun, mod_top hJl (by omega), hJ, Lng.maj_step1 (by rw [← hu2]; exact hb2), hu2]
                      refine wc_region ?_
                      refine wl_y (y_move rfl) rfl ?_
                      refine wl_y (y_mul rfl rfl (show IntKind.u64.wrap (2 * (u : Int)) = ((2 * u % 18446744073709551616 : Nat) : Int) from by rw [u64w]; omega)) rfl ?_
                      refine wl_y (y_assign rfl) rfl ?_
                      refine wl_nil ?_
                      refine wq_blk_norm ?_
                      refine wq_then_norm (hK62 ?_)
                      refine wc_region ?_
                      refine wl_y (y_move rfl) rfl ?_
                      refine wl_y (y_add rfl rfl (i64_ok (by omega) (by omega))) rfl ?_
                      refine wl_y (y_assign rfl) rfl ?_
                      refine wl_nil ?_
                      refine wq_then_norm ?_
                      refine hL10 _ _ ⟨i + 1, 2 * u % 18446744073709551616, rfl, rfl, by omega, hun, X, HV⟩ (by omega) ⟨rfl, rfl, rfl, (by first | rfl | exact congrArg some (int_val (by omega))), rfl, rfl, (by first | rfl | exact congrArg some (int_val (by omega))), (by first | rfl | exact congrArg some (int_val (by omega))), (by first | rfl | exact congrArg some (int_val (by omega))), (by first | rfl | exact congrArg some (int_val (by omega))), (by first | rfl | exact congrArg some (int_val (by omega))), trivial⟩
                    · skip
                      refine wc_skip ?_
                      refine wq_then_norm (hK70 ?_)
                      have hb2 : ¬ 2 ≤ a / u % 2 + b / u % 2 + cc / u % 2 := fun h => hc13 (by exact_mod_cast h)
                      have hJn : J % u = J % (2 * u % 18446744073709551616) := by
                        rw [hun, mod_top hJl (by omega), hJ, Lng.maj_step0 (by rw [← hu2]; exact hb2), hu2]
                      refine wc_region ?_
                      refine wl_y (y_move rfl) rfl ?_
                      refine wl_y (y_mul rfl rfl (show IntKind.u64.wrap (2 * (u : Int)) = ((2 * u % 18446744073709551616 : Nat) : Int) from by rw [u64w]; omega)) rfl ?_
                      refine wl_y (y_assign rfl) rfl ?_
                      refine wl_nil ?_
                      refine wq_blk_norm ?_
                      refine wq_then_norm (hK62 ?_)
                      refine wc_region ?_
                      refine wl_y (y_move rfl) rfl ?_
                      refine wl_y (y_add rfl rfl (i64_ok (by omega) (by omega))) rfl ?_
                      refine wl_y (y_assign rfl) rfl ?_
                      refine wl_nil ?_
                      refine wq_then_norm ?_
                      refine hL10 _ _ ⟨i + 1, 2 * u % 18446744073709551616, rfl, rfl, by omega, hun, X, HV⟩ (by omega) ⟨rfl, rfl, rfl, (by first | rfl | exact congrArg some (int_val (by omega))), rfl, rfl, (by first | rfl | exact congrArg some (int_val (by omega))), (by first | rfl | exact congrArg some (int_val (by omega))), (by first | rfl | exact congrArg some (int_val (by omega))), (by first | rfl | exact congrArg some (int_val (by omega))), (by first | rfl | exact congrArg some (int_val (by omega))), trivial⟩
                · skip
                  refine wc_exit ?_
                  refine wq_then_exit ?_
                  refine wq_then_exit ?_
                  refine wq_blk_hit ?_
                  refine wq_then_norm (hK58 ?_)
                  refine wc_seq ?_; intro K72 hK72
                  obtain rfl : i = 64 := by omega
                  obtain rfl : u = 0 := by rw [hu]
                  rw [Nat.mod_zero, Nat.mod_zero]
                  obtain ⟨kt, hkt⟩ : ∃ q, q = Lng.K.getD t 0 := ⟨_, rfl⟩
                  obtain ⟨wt, hwt⟩ : ∃ q, q = (Lng.words bl).getD t 0 := ⟨_, rfl⟩
                  obtain ⟨T, hT⟩ : ∃ T, T = Lng.T1 ⟨a, b, cc, d, e, f, gg, hh⟩ kt wt := ⟨_, rfl⟩
                  obtain ⟨U, hU⟩ : ∃ T, T = Lng.T2 ⟨a, b, cc, d, e, f, gg, hh⟩ := ⟨_, rfl⟩
                  have hT' : T = hh + ((Lng.rotr e 14 ^^^ Lng.rotr e 18) ^^^ Lng.rotr e 41) + C + kt + wt := by rw [hT, hC]; rfl
                  have hU' : U = ((Lng.rotr a 28 ^^^ Lng.rotr a 34) ^^^ Lng.rotr a 39) + J := by rw [hU, hJ]; rfl
                  refine wc_draw (by kernel_rfl) 31 rfl ?_; intro wd57 ex hd57
                  replace X := X.ext ex
                  replace HV := HV.ext ex
                  refine wm_y 0 rfl (by kernel_rfl) (y_move rfl) rfl ?_
                  refine wm_y 1 rfl (by kernel_rfl) (y_ixs1 rfl rfl Try.underlying123 (by kernel_rfl) (j := 7) rfl (by omega)) rfl ?_
                  refine wm_y 2 rfl (by kernel_rfl) (y_load1 rfl Try.underlying59 rfl (HV.cellAt (i := 7) (by omega))) rfl ?_
                  refine wm_y 3 rfl (by kernel_rfl) (y_move rfl) rfl ?_
                  refine wm_y 4 rfl (by kernel_rfl) (y_ixs1 rfl rfl Try.underlying123 (by kernel_rfl) (j := 4) rfl (by omega)) rfl ?_
                  refine wm_y 5 rfl (by kernel_rfl) (y_load1 rfl Try.underlying59 rfl (HV.cellAt (i := 4) (by omega))) rfl ?_
                  refine wm_y 7 rfl (by kernel_rfl) (y_move rfl) rfl ?_
                  refine wm_y 8 rfl (by kernel_rfl) (y_ixs1 rfl rfl Try.underlying123 (by kernel_rfl) (j := 4) rfl (by omega)) rfl ?_
                  refine wm_y 9 rfl (by kernel_rfl) (y_load1 rfl Try.underlying59 rfl (HV.cellAt (i := 4) (by omega))) rfl ?_
                  refine wm_y 12 rfl (by kernel_rfl) (y_move rfl) rfl ?_
                  refine wm_y 13 rfl (by kernel_rfl) (y_ixs1 rfl rfl Try.underlying123 (by kernel_rfl) (j := 4) rfl (by omega)) rfl ?_
                  refine wm_y 14 rfl (by kernel_rfl) (y_load1 rfl Try.underlying59 rfl (HV.cellAt (i := 4) (by omega))) rfl ?_
                  refine wm_y 18 rfl (by kernel_rfl) (y_move rfl) rfl ?_
                  refine wm_y 20 rfl (by kernel_rfl) (y_move rfl) rfl ?_
                  refine wm_y 21 rfl (by kernel_rfl) (y_move rfl) rfl ?_
                  refine wm_y 22 rfl (by kernel_rfl) (y_ixs1 rfl rfl Try.underlying123 (by kernel_rfl) rfl (by omega)) rfl ?_
                  refine wm_y 23 rfl (by kernel_rfl) (y_load1 rfl Try.underlying59 rfl (show _ = some (.int .u64 ((kt : Nat) : Int)) from by rw [hkt]; exact (HKa.wk (F.tr X)).cellAt (by omega))) rfl ?_
                  refine wm_y 25 rfl (by kernel_rfl) (y_move rfl) rfl ?_
                  refine wm_y 26 rfl (by kernel_rfl) (y_move rfl) rfl ?_
                  refine wm_y 27 rfl (by kernel_rfl) (y_ixs1 rfl rfl Try.underlying123 (by kernel_rfl) rfl (by omega)) rfl ?_
                  refine wm_y 28 rfl (by kernel_rfl) (y_load1 rfl Try.underlying59 rfl (show _ = some (.int .u64 ((wt : Nat) : Int)) from by rw [hwt]; exact (Hw.wk X).cellAt (by omega))) rfl ?_
                  refine wm_one 6 (by kernel_rfl) ?_; refine om_call rfl Try.func136 rfl rfl rfl (lturn_any e 14 _ le (by omega)) rfl ?_
                  rintro e w9 ⟨rfl, ex⟩
                  refine ⟨_, rfl, .inr ex, ?_⟩
                  replace X := X.ext ex
                  replace HV := HV.ext ex
                  skip
                  refine wm_one 10 (by kernel_rfl) ?_; refine om_call rfl Try.func136 rfl rfl rfl (lturn_any e 18 _ le (by omega)) rfl ?_
                  rintro e w9 ⟨rfl, ex⟩
                  refine ⟨_, rfl, .inr ex, ?_⟩
                  replace X := X.ext ex
                  replace HV := HV.ext ex
                  skip
                  refine wm_y 11 rfl (by kernel_rfl) (y_xor rfl rfl rfl) rfl ?_
                  refine wm_one 15 (by kernel_rfl) ?_; refine om_call rfl Try.func136 rfl rfl rfl (lturn_any e 41 _ le (by omega)) rfl ?_
                  rintro e w9 ⟨rfl, ex⟩
                  refine ⟨_, rfl, .inr ex, ?_⟩
                  replace X := X.ext ex
                  replace HV := HV.ext ex
                  skip
                  refine wm_y 16 rfl (by kernel_rfl) (y_xor rfl rfl (lxor3 _ _ _ (Lng.rotr_lt le (by omega)) (Lng.rotr_lt le (by omega)) (Lng.rotr_lt le (by omega)))) rfl ?_
                  refine wm_y 17 rfl (by kernel_rfl) (y_add rfl rfl rfl) rfl ?_
                  refine wm_y 19 rfl (by kernel_rfl) (y_add rfl rfl rfl) rfl ?_
                  refine wm_y 24 rfl (by kernel_rfl) (y_add rfl rfl rfl) rfl ?_
                  refine wm_y 29 rfl (by kernel_rfl) (Y.as (y_add rfl rfl rfl) (congrArg (Value.int .u64) (show _ = ((T % 18446744073709551616 : Nat) : Int) from by rw [u64w, u64w, u64w, u64w, hT', show ([a, b, cc, d, e, f, gg, hh].getD 7 0) = hh from rfl]; omega))) rfl ?_
                  refine wm_y 30 rfl (by kernel_rfl) (y_assign rfl) rfl ?_
                  refine wm_done (by kernel_rfl) ?_
                  refine wq_nop ?_
                  refine wq_then_norm (hK72 ?_)
                  refine wc_seq ?_; intro K73 hK73
                  refine wc_draw (by kernel_rfl) 17 rfl ?_; intro wd58 ex hd58
                  replace X := X.ext ex
                  replace HV := HV.ext ex
                  refine wm_y 0 rfl (by kernel_rfl) (y_move rfl) rfl ?_
                  refine wm_y 1 rfl (by kernel_rfl) (y_ixs1 rfl rfl Try.underlying123 (by kernel_rfl) (j := 0) rfl (by omega)) rfl ?_
                  refine wm_y 2 rfl (by kernel_rfl) (y_load1 rfl Try.underlying59 rfl (HV.cellAt (i := 0) (by omega))) rfl ?_
                  refine wm_y 4 rfl (by kernel_rfl) (y_move rfl) rfl ?_
                  refine wm_y 5 rfl (by kernel_rfl) (y_ixs1 rfl rfl Try.underlying123 (by kernel_rfl) (j := 0) rfl (by omega)) rfl ?_
                  refine wm_y 6 rfl (by kernel_rfl) (y_load1 rfl Try.underlying59 rfl (HV.cellAt (i := 0) (by omega))) rfl ?_
                  refine wm_y 9 rfl (by kernel_rfl) (y_move rfl) rfl ?_
                  refine wm_y 10 rfl (by kernel_rfl) (y_ixs1 rfl rfl Try.underlying123 (by kernel_rfl) (j := 0) rfl (by omega)) rfl ?_
                  refine wm_y 11 rfl (by kernel_rfl) (y_load1 rfl Try.underlying59 rfl (HV.cellAt (i := 0) (by omega))) rfl ?_
                  refine wm_y 14 rfl (by kernel_rfl) (y_move rfl) rfl ?_
                  refine wm_one 3 (by kernel_rfl) ?_; refine om_call rfl Try.func136 rfl rfl rfl (lturn_any a 28 _ la (by omega)) rfl ?_
                  rintro e w9 ⟨rfl, ex⟩
                  refine ⟨_, rfl, .inr ex, ?_⟩
                  replace X := X.ext ex
                  replace HV := HV.ext ex
                  skip
                  refine wm_one 7 (by kernel_rfl) ?_; refine om_call rfl Try.func136 rfl rfl rfl (lturn_any a 34 _ la (by omega)) rfl ?_
                  rintro e w9 ⟨rfl, ex⟩
                  refine ⟨_, rfl, .inr ex, ?_⟩
                  replace X := X.ext ex
                  replace HV := HV.ext ex
                  skip
                  refine wm_y 8 rfl (by kernel_rfl) (y_xor rfl rfl rfl) rfl ?_
                  refine wm_one 12 (by kernel_rfl) ?_; refine om_call rfl Try.func136 rfl rfl rfl (lturn_any a 39 _ la (by omega)) rfl ?_
                  rintro e w9 ⟨rfl, ex⟩
                  refine ⟨_, rfl, .inr ex, ?_⟩
                  replace X := X.ext ex
                  replace HV := HV.ext ex
                  skip
                  refine wm_y 13 rfl (by kernel_rfl) (y_xor rfl rfl (lxor3 _ _ _ (Lng.rotr_lt la (by omega)) (Lng.rotr_lt la (by omega)) (Lng.rotr_lt la (by omega)))) rfl ?_
                  refine wm_y 15 rfl (by kernel_rfl) (Y.as (y_add rfl rfl rfl) (congrArg (Value.int .u64) (show _ = ((U % 18446744073709551616 : Nat) : Int) from by rw [u64w, hU']; omega))) rfl ?_
                  refine wm_y 16 rfl (by kernel_rfl) (y_assign rfl) rfl ?_
                  refine wm_done (by kernel_rfl) ?_
                  refine wq_nop ?_
                  refine wq_then_norm (hK73 ?_)
                  refine wc_draw (by kernel_rfl) 28 rfl ?_; intro wd59 ex hd59
                  replace X := X.ext ex
                  replace HV := HV.ext ex
                  refine wm_y 0 rfl (by kernel_rfl) (y_move rfl) rfl ?_
                  refine wm_y 1 rfl (by kernel_rfl) (y_move rfl) rfl ?_
                  refine wm_y 2 rfl (by kernel_rfl) (Y.as (y_add rfl rfl rfl) (congrArg (Value.int .u64) (show _ = (((T + U) % 18446744073709551616 : Nat) : Int) from by rw [u64w]; omega))) rfl ?_
                  refine wm_y 3 rfl (by kernel_rfl) (y_move rfl) rfl ?_
                  refine wm_y 4 rfl (by kernel_rfl) (y_ixs1 rfl rfl Try.underlying123 (by kernel_rfl) (j := 0) rfl (by omega)) rfl ?_
                  refine wm_y 5 rfl (by kernel_rfl) (y_load1 rfl Try.underlying59 rfl (HV.cellAt (i := 0) (by omega))) rfl ?_
                  refine wm_y 6 rfl (by kernel_rfl) (y_move rfl) rfl ?_
                  refine wm_y 7 rfl (by kernel_rfl) (y_ixs1 rfl rfl Try.underlying123 (by kernel_rfl) (j := 1) rfl (by omega)) rfl ?_
                  refine wm_y 8 rfl (by kernel_rfl) (y_load1 rfl Try.underlying59 rfl (HV.cellAt (i := 1) (by omega))) rfl ?_
                  refine wm_y 9 rfl (by kernel_rfl) (y_move rfl) rfl ?_
                  refine wm_y 10 rfl (by kernel_rfl) (y_ixs1 rfl rfl Try.underlying123 (by kernel_rfl) (j := 2) rfl (by omega)) rfl ?_
                  refine wm_y 11 rfl (by kernel_rfl) (y_load1 rfl Try.underlying59 rfl (HV.cellAt (i := 2) (by omega))) rfl ?_
                  refine wm_y 12 rfl (by kernel_rfl) (y_move rfl) rfl ?_
                  refine wm_y 13 rfl (by kernel_rfl) (y_ixs1 rfl rfl Try.underlying123 (by kernel_rfl) (j := 3) rfl (by omega)) rfl ?_
                  refine wm_y 14 rfl (by kernel_rfl) (y_load1 rfl Try.underlying59 rfl (HV.cellAt (i := 3) (by omega))) rfl ?_
                  refine wm_y 15 rfl (by kernel_rfl) (y_move rfl) rfl ?_
                  refine wm_y 16 rfl (by kernel_rfl) (Y.as (y_add rfl rfl rfl) (congrArg (Value.int .u64) (show _ = (((d + T) % 18446744073709551616 : Nat) : Int) from by rw [u64w]; show ((d : Int) + _) % _ = _; omega))) rfl ?_
                  refine wm_y 17 rfl (by kernel_rfl) (y_move rfl) rfl ?_
                  refine wm_y 18 rfl (by kernel_rfl) (y_ixs1 rfl rfl Try.underlying123 (by kernel_rfl) (j := 4) rfl (by omega)) rfl ?_
                  refine wm_y 19 rfl (by kernel_rfl) (y_load1 rfl Try.underlying59 rfl (HV.cellAt (i := 4) (by omega))) rfl ?_
                  refine wm_y 20 rfl (by kernel_rfl) (y_move rfl) rfl ?_
                  refine wm_y 21 rfl (by kernel_rfl) (y_ixs1 rfl rfl Try.underlying123 (by kernel_rfl) (j := 5) rfl (by omega)) rfl ?_
                  refine wm_y 22 rfl (by kernel_rfl) (y_load1 rfl Try.underlying59 rfl (HV.cellAt (i := 5) (by omega))) rfl ?_
                  refine wm_y 23 rfl (by kernel_rfl) (y_move rfl) rfl ?_
                  refine wm_y 24 rfl (by kernel_rfl) (y_ixs1 rfl rfl Try.underlying123 (by kernel_rfl) (j := 6) rfl (by omega)) rfl ?_
                  refine wm_y 25 rfl (by kernel_rfl) (y_load1 rfl Try.underlying59 rfl (HV.cellAt (i := 6) (by omega))) rfl ?_
                  have hzX := X.size
                  refine wm_one 26 (by kernel_rfl) ?_; refine om_ef rfl (ef_lit (z := .int .u64 0) Try.underlying123 (by kernel_rfl) rfl rfl rfl rfl rfl) rfl ?_
                  rintro _ w7 ⟨g7, rfl, B7, hg7, ex⟩
                  refine ⟨.inr ex, ?_⟩
                  replace X := X.ext ex
                  replace HV := HV.ext ex
                  have e2 : (Lng.rounds (Lng.words bl) S (t + 1)).list = [(T + U) % 18446744073709551616, a, b, cc, (d + T) % 18446744073709551616, e, f, gg] := by
                    show (Lng.rnd (Lng.rounds (Lng.words bl) S t) (Lng.K.getD t 0) ((Lng.words bl).getD t 0)).list = _
                    rw [← hQ, ← hkt, ← hwt, hT, hU]; rfl
                  refine wm_y 27 rfl (by kernel_rfl) (y_assign rfl) rfl ?_
                  refine wm_done (by kernel_rfl) ?_
                  refine wq_nop ?_
                  refine wq_blk_norm ?_
                  refine wq_then_norm (hK55 ?_)
                  refine wc_region ?_
                  refine wl_y (y_move rfl) rfl ?_
                  refine wl_y (y_add rfl rfl (i64_ok (by omega) (by omega))) rfl ?_
                  refine wl_y (y_assign rfl) rfl ?_
                  refine wl_nil ?_
                  refine wq_then_norm ?_
                  refine hL9 _ _ ⟨t + 1, 8, some ⟨g7, 0, none⟩, rfl, rfl, by omega, X, (by rw [e2]; exact Ns.blk (B7.congr rfl) rfl), (fun o h => by injection h with h; injection h; omega)⟩ (by omega) ⟨rfl, rfl, rfl, (by first | rfl | exact congrArg some (int_val (by omega))), rfl, rfl, (by first | rfl | exact congrArg some (int_val (by omega))), trivial⟩
              · skip
                refine wc_exit ?_
                refine wq_then_exit ?_
                refine wq_then_exit ?_
                refine wq_blk_hit ?_
                refine wq_then_norm (hK51 ?_)
                refine wc_seq ?_; intro K74 hK74
                obtain rfl : t = 80 := by omega
                obtain ⟨m, hm⟩ : ∃ m, m = (Lng.rounds (Lng.words bl) S 80).list := ⟨_, rfl⟩
                rw [← hm] at HV
                have h8m : S.list.length = m.length := by rw [hm, ls8_len, ls8_len]
                have h8l := ls8_len S
                have okm : ∀ i, m.getD i 0 < 18446744073709551616 := by rw [hm]; exact ls8_lt (Lng.rounds_ok _ hSok _)
                have okl := ls8_lt hSok
                have hfin : (Lng.blocks Lng.IV M (k + 1)).list = Lng.mixl S.list m 8 := by rw [hm, ← lstep_list, hbl, hS]; rfl
                have G9 : wq.grownBy wd (some gh) := Chg.tr G (Chg.ofExt (F.tr X) gh)
                have RH9 := RH2.ext (F.tr X)
                obtain ⟨l, hl⟩ : ∃ l, l = S.list := ⟨_, rfl⟩
                rw [← hl] at RH9 okl h8l h8m hfin
                refine wc_region ?_
                refine wl_y (y_assign rfl) rfl ?_
                refine wl_nil ?_
                refine wq_then_norm (hK74 ?_)
                refine wc_block ?_
                refine wc_loop (fun n' L wg => ∃ i : Nat, L = [(3, .slice (some ⟨gM, 0, none⟩) nM c6), (9, .slice (some ⟨gh, 0, none⟩) 8 c9), (10, .slice (some ⟨gk, 0, none⟩) 80 c10), (13, .int .i64 ((128 * k : Nat) : Int)), (20, .slice A20 8 c20), (29, .int .i64 (i : Int))] ∧ n' = 8 - i ∧ (i ≤ 8 ∧ wd.grownBy wg (some gh) ∧ Row wg w8.heap.size 59 (some ⟨gh, 0, none⟩) 8 c9 ((Lng.mixl l m i).map (iv .u64)))) _ _ ⟨0, rfl, rfl, by omega, World.grownBy.refl _ _, (by rw [Lng.mixl_zero]; exact RH9)⟩ ⟨rfl, rfl, rfl, (by first | rfl | exact congrArg some (int_val (by omega))), rfl, (by first | rfl | exact congrArg some (int_val (by omega))), trivial⟩ ?_
                rintro KL11 n' L wg ⟨i, rfl, rfl, hi, CG, Rg⟩ hL11
                refine wc_seq ?_; intro K75 hK75
                refine wc_seq ?_; intro K76 hK76
                refine wc_region ?_
                refine wl_y (y_move rfl) rfl ?_
                refine wl_y (y_lss rfl rfl) rfl ?_
                refine wl_nil ?_
                refine wq_then_norm (hK76 ?_)
                refine wc_dec rfl (fun hc14 => ?_) (fun hc14 => ?_)
                · skip
                  refine wc_skip ?_
                  refine wq_then_norm (hK75 ?_)
                  refine wc_seq ?_; intro K77 hK77
                  refine wc_block ?_
                  obtain ⟨g20, o20, _, rfl, _⟩ := HV.cell (i := 0) (by omega)
                  have HVg := HV.chgFar CG hfar
                  obtain ⟨p, hp⟩ : ∃ p, p = l.getD i 0 := ⟨_, rfl⟩
                  obtain ⟨q, hq⟩ : ∃ q, q = m.getD i 0 := ⟨_, rfl⟩
                  have lp : p < 18446744073709551616 := by rw [hp]; exact okl _
                  have lq : q < 18446744073709551616 := by rw [hq]; exact okm _
                  have hgp : (Lng.mixl l m i).getD i 0 = p := by rw [Lng.mixl_get h8m (by omega), hp]
                  refine wc_draw (by kernel_rfl) 13 rfl ?_; intro wd63 ex hd63
                  replace HVg := HVg.ext ex; replace Rg := Rg.ext ex; replace CG := Chg.tr CG (Chg.ofExt ex gh)
                  refine wm_z 0 rfl (by kernel_rfl) (fun _ => y_move rfl) rfl ?_
                  refine wm_z 1 rfl (by kernel_rfl) (fun _ => y_move rfl) rfl ?_
                  refine wm_z 2 rfl (by kernel_rfl) (fun _ => y_move rfl) rfl ?_
                  refine wm_z 3 rfl (by kernel_rfl) (fun _ => y_move rfl) rfl ?_
                  refine wm_z 4 rfl (by kernel_rfl) (fun _ => y_ixs1 rfl rfl Try.underlying123 (by kernel_rfl) rfl (by omega)) rfl ?_
                  refine wm_y 5 rfl (by kernel_rfl) (y_load1 rfl Try.underlying59 rfl (show _ = some (.int .u64 ((p : Nat) : Int)) from by rw [← hgp]; exact (Ns.of_row Rg).cellAt (by omega))) rfl ?_
                  refine wm_z 6 rfl (by kernel_rfl) (fun _ => y_move rfl) rfl ?_
                  refine wm_z 7 rfl (by kernel_rfl) (fun _ => y_move rfl) rfl ?_
                  refine wm_z 8 rfl (by kernel_rfl) (fun _ => y_ixs1 rfl rfl Try.underlying123 (by kernel_rfl) rfl (by omega)) rfl ?_
                  refine wm_y 9 rfl (by kernel_rfl) (y_load1 rfl Try.underlying59 rfl (show _ = some (.int .u64 ((q : Nat) : Int)) from by rw [hq]; exact HVg.cellAt (by omega))) rfl ?_
                  refine wm_z 10 rfl (by kernel_rfl) (fun _ => Y.as (y_add rfl rfl rfl) (congrArg (Value.int .u64) (show _ = (((p + q) % 18446744073709551616 : Nat) : Int) from by rw [u64w]; omega))) rfl ?_
                  refine wm_z 11 rfl (by kernel_rfl) (fun _ => y_ixs1 rfl rfl Try.underlying123 (by kernel_rfl) rfl (by omega)) rfl ?_
                  refine wm_one 12 (by kernel_rfl) ?_; refine om_ef rfl (ef_storeR rfl rfl rfl (by kernel_rfl) Rg (by omega)) rfl ?_
                  rintro _ w13 ⟨rfl, Rg2, cg⟩
                  refine ⟨.inl rfl, ?_⟩
                  have CG2 := Chg.tr CG cg; have hset : ((Lng.mixl l m i).map (iv .u64)).set i (.int .u64 (((p + q) % 18446744073709551616 : Nat) : Int)) = (Lng.mixl l m (i + 1)).map (iv .u64) := by rw [← Lng.mixl_set h8m (by omega), ← hp, ← hq, List.map_set]; rfl
                  rw [hset] at Rg2
                  refine wm_done (by kernel_rfl) ?_
                  refine wq_nop ?_
                  refine wq_blk_norm ?_
                  refine wq_then_norm (hK77 ?_)
                  refine wc_region ?_
                  refine wl_y (y_move rfl) rfl ?_
                  refine wl_y (y_add rfl rfl (i64_ok (by omega) (by omega))) rfl ?_
                  refine wl_y (y_assign rfl) rfl ?_
                  refine wl_nil ?_
                  refine wq_then_norm ?_
                  refine hL11 _ _ ⟨i + 1, rfl, rfl, by omega, CG2, Rg2⟩ (by omega) ⟨rfl, rfl, rfl, (by first | rfl | exact congrArg some (int_val (by omega))), rfl, (by first | rfl | exact congrArg some (int_val (by omega))), trivial⟩
                · skip
                  refine wc_exit ?_
                  refine wq_then_exit ?_
                  refine wq_then_exit ?_
                  refine wq_blk_hit ?_
                  refine wq_blk_norm ?_
                  refine wq_then_norm (hK34 ?_)
                  obtain rfl : i = 8 := by omega
                  refine wc_region ?_
                  refine wl_y (y_move rfl) rfl ?_
                  refine wl_y (y_add rfl rfl (i64_nat (n := 128 * (k + 1)) (by omega) (by omega))) rfl ?_
                  refine wl_y (y_assign rfl) rfl ?_
                  refine wl_nil ?_
                  refine wq_then_norm ?_
                  refine hL6 _ _ ⟨k + 1, rfl, rfl, by omega, Chg.tr G9 CG, (by rw [hfin]; exact Rg)⟩ (by omega) ⟨rfl, rfl, rfl, (by first | rfl | exact congrArg some (int_val (by omega))), trivial⟩
          · skip
            refine wc_exit ?_
            refine wq_then_exit ?_
            refine wq_then_exit ?_
            refine wq_blk_hit ?_
            refine wq_then_norm (hK30 ?_)
            refine wc_seq ?_; intro K78 hK78
            have hMm : nM % 128 = 0 := by rw [← hMl, hM, List.length_append, hxl]; exact Lng.padded_mod n
            have hkM : nM = 128 * k := by omega
            obtain ⟨S, hS⟩ : ∃ s, s = Lng.blocks Lng.IV M k := ⟨_, rfl⟩
            rw [← hS] at RH2
            have hsum : Lng.sum xs = S.bytes := by unfold Lng.sum; rw [hxl, ← hM, hMl, hkM, Nat.mul_div_cancel_left _ (by omega), hS]
            have hSl := Lng.bytes_length S
            have hSok : S.ok := by rw [hS]; exact Lng.blocks_ok Lng.IV_ok _ _
            have Ea := E0.chg G (by omega)
            have Hh := Ns.of_row RH2
            refine wc_region ?_
            refine wl_y (y_assign rfl) rfl ?_
            refine wl_nil ?_
            refine wq_then_norm (hK78 ?_)
            refine wc_seq ?_; intro K79 hK79
            refine wc_seq ?_; intro K80 hK80
            refine wc_region ?_
            refine wl_y (y_assign rfl) rfl ?_
            refine wl_nil ?_
            refine wq_then_norm (hK80 ?_)
            refine wc_block ?_
            refine wc_loop (fun n' L wo => ∃ (i c30 : Nat) (A30 : Option Addr), L = [(9, .slice (some ⟨gh, 0, none⟩) 8 c9), (30, .slice A30 i c30), (31, .int .i64 (i : Int))] ∧ n' = 64 - i ∧ (i ≤ 64 ∧ Ext wa wo ∧ Row wo wa.heap.size 5 A30 i c30 ((S.bytes.take i).map bv))) _ _ ⟨0, 0, none, rfl, rfl, by omega, Ext.refl _, Row.empty _ _ _⟩ ⟨rfl, rfl, (by first | rfl | exact congrArg some (int_val (by omega))), trivial⟩ ?_
            rintro KL12 n' L wo ⟨i, c30, A30, rfl, rfl, hi, F, R⟩ hL12
            refine wc_seq ?_; intro K81 hK81
            refine wc_seq ?_; intro K82 hK82
            refine wc_region ?_
            refine wl_y (y_move rfl) rfl ?_
            refine wl_y (y_lss rfl rfl) rfl ?_
            refine wl_nil ?_
            refine wq_then_norm (hK82 ?_)
            refine wc_dec rfl (fun hc15 => ?_) (fun hc15 => ?_)
            · skip
              refine wc_skip ?_
              refine wq_then_norm (hK81 ?_)
              refine wc_seq ?_; intro K83 hK83
              refine wc_block ?_
              refine wc_seq ?_; intro K84 hK84
              refine wc_region ?_
              refine wl_y (y_move rfl) rfl ?_
              refine wl_y (y_move rfl) rfl ?_
              refine wl_y (y_quo rfl rfl (by omega) (show IntKind.i64.wrap (((i : Nat) : Int).tdiv 8) = ((i / 8 : Nat) : Int) from i64_nat rfl (by omega))) rfl ?_
              refine wl_y (y_ixs1 rfl rfl Try.underlying123 (by kernel_rfl) rfl (by omega)) rfl ?_
              refine wl_y (y_load1 rfl Try.underlying59 rfl ((Hh.wk F).cellAt (i := i / 8) (by omega))) rfl ?_
              refine wl_y (y_assign rfl) rfl ?_
              refine wl_nil ?_
              obtain ⟨x, hx⟩ : ∃ x, x = S.list.getD (i / 8) 0 := ⟨_, rfl⟩
              have hxw : x < 18446744073709551616 := by rw [hx]; exact ls8_lt hSok _
              rw [← hx]
              refine wq_then_norm (hK84 ?_)
              refine wc_seq ?_; intro K85 hK85
              refine wc_seq ?_; intro K86 hK86
              refine wc_region ?_
              refine wl_y (y_assign rfl) rfl ?_
              refine wl_nil ?_
              refine wq_then_norm (hK86 ?_)
              refine wc_block ?_
              refine wc_loop (fun n' L wp => ∃ q : Nat, L = [(9, .slice (some ⟨gh, 0, none⟩) 8 c9), (30, .slice A30 i c30), (31, .int .i64 (i : Int)), (32, .int .u64 ((x / 256 ^ q : Nat) : Int)), (33, .int .i64 (q : Int))] ∧ n' = 8 - q ∧ (q ≤ 7 - i % 8 ∧ wp = wo)) _ _ ⟨0, rfl, rfl, by omega, rfl⟩ ⟨rfl, rfl, (by first | rfl | exact congrArg some (int_val (by omega))), (by first | rfl | exact congrArg some (int_val (by omega))), (by first | rfl | exact congrArg some (int_val (by omega))), trivial⟩ ?_
              rintro KL13 n' L wp ⟨q, rfl, rfl, hq, hwp⟩ hL13
              refine wc_seq ?_; intro K87 hK87
              refine wc_seq ?_; intro K88 hK88
              refine wc_region ?_
              refine wl_y (y_move rfl) rfl ?_
              refine wl_y (y_move rfl) rfl ?_
              refine wl_y (y_rem rfl rfl (by omega) (show (((i : Nat) : Int).tmod 8) = ((i % 8 : Nat) : Int) from rfl)) rfl ?_
              refine wl_y (y_sub rfl rfl (i64_nat (n := 7 - i % 8) (by omega) (by omega))) rfl ?_
              refine wl_y (y_lss rfl rfl) rfl ?_
              refine wl_nil ?_
              refine wq_then_norm (hK88 ?_)
              refine wc_dec rfl (fun hc16 => ?_) (fun hc16 => ?_)
              · skip
                refine wc_skip ?_
                refine wq_then_norm (hK87 ?_)
                refine wc_seq ?_; intro K89 hK89
                refine wc_block ?_
                refine wc_region ?_
                refine wl_y (y_move rfl) rfl ?_
                refine wl_y (y_quo rfl rfl (by omega) (show IntKind.u64.wrap (((x / 256 ^ q : Nat) : Int).tdiv 256) = ((x / 256 ^ (q + 1) : Nat) : Int) from u64_nat (by rw [Nat.pow_succ, ← Nat.div_div_eq_div_mul]; rfl) (Nat.lt_of_le_of_lt (Nat.div_le_self _ _) hxw))) rfl ?_
                refine wl_y (y_assign rfl) rfl ?_
                refine wl_nil ?_
                refine wq_blk_norm ?_
                refine wq_then_norm (hK89 ?_)
                refine wc_region ?_
                refine wl_y (y_move rfl) rfl ?_
                refine wl_y (y_add rfl rfl (i64_ok (by omega) (by omega))) rfl ?_
                refine wl_y (y_assign rfl) rfl ?_
                refine wl_nil ?_
                refine wq_then_norm ?_
                refine hL13 _ _ ⟨q + 1, rfl, rfl, by omega, hwp⟩ (by omega) ⟨rfl, rfl, (by first | rfl | exact congrArg some (int_val (by omega))), (by first | rfl | exact congrArg some (int_val (by omega))), (by first | rfl | exact congrArg some (int_val (by omega))), trivial⟩
              · skip
                refine wc_exit ?_
                refine wq_then_exit ?_
                refine wq_then_exit ?_
                refine wq_blk_hit ?_
                refine wq_then_norm (hK85 ?_)
                obtain rfl : q = 7 - i % 8 := by omega
                subst hwp
                refine wc_region ?_
                refine wl_y (y_move rfl) rfl ?_
                refine wl_y (y_move rfl) rfl ?_
                refine wl_y (y_rem rfl rfl (by omega) (show (((x / 256 ^ (7 - i % 8) : Nat) : Int).tmod 256) = ((x / 256 ^ (7 - i % 8) % 256 : Nat) : Int) from rfl)) rfl ?_
                refine wl_y (y_conv rfl Try.underlying59 Try.underlying5 (lbm _)) rfl ?_
                refine wl_ef (ef_lit (z := .int .u8 0) Try.underlying22 (by kernel_rfl) rfl rfl rfl rfl rfl) rfl ?_
                rintro _ w5 ⟨g5, rfl, B5, hg5, ex⟩
                have F5 := F.ext ex; have R5 := R.ext ex
                refine wl_ef (ef_app rfl rfl eltB R5 (At.blk (vs := [UInt8.ofNat (x / 256 ^ (7 - i % 8))].map bv) (B5.congr rfl)) rfl (by intro u hu; exact bv_one u hu) (by omega) (by omega) F5.size) rfl ?_
                rintro _ w6 ⟨A7, c7, rfl, R6, be, gr, hl⟩
                have F6 := F5.trans be; replace R6 := R6.cat; rw [hx, out_byte _ _ (by omega), take_snoc _ _ _ (by omega)] at R6
                refine wl_y (y_assign rfl) rfl ?_
                refine wl_nil ?_
                refine wq_blk_norm ?_
                refine wq_then_norm (hK83 ?_)
                refine wc_region ?_
                refine wl_y (y_move rfl) rfl ?_
                refine wl_y (y_add rfl rfl (i64_ok (by omega) (by omega))) rfl ?_
                refine wl_y (y_assign rfl) rfl ?_
                refine wl_nil ?_
                refine wq_then_norm ?_
                refine hL12 _ _ ⟨i + 1, c7, A7, rfl, rfl, by omega, F6, R6⟩ (by omega) ⟨rfl, rfl, (by first | rfl | exact congrArg some (int_val (by omega))), trivial⟩
            · skip
              refine wc_exit ?_
              refine wq_then_exit ?_
              refine wq_then_exit ?_
              refine wq_blk_hit ?_
              refine wq_then_norm (hK79 ?_)
              refine wc_seq ?_; intro K90 hK90
              refine wc_region ?_
              refine wl_y (y_move rfl) rfl ?_
              refine wl_y (y_assign rfl) rfl ?_
              refine wl_nil ?_
              refine wq_then_norm (hK90 ?_)
              refine wc_ret ?_
              refine hret rfl ?_
              obtain rfl : i = 64 := by omega
              exact ⟨A30, c30, rfl, by rw [hsum]; rw [List.take_of_length_le (by omega)] at R; exact R.lower Ea.size, Ea.tr F⟩
theorem rlsum_any (A : Option Addr) (n c : Nat) (xs : List UInt8) (w : World) (HA : Bs w A n xs) (hn : n ≤ 100000) :
    Calls Try.prog 91 #[.slice A n c] w fun e w' => ∃ A' c', e = .returned (.slice A' 64 c') ∧ Bs w' A' 64 (Lng.sum xs) ∧ Ext w w' :=
  (rlsumR_any A n c xs w HA hn).mono fun _ _ ⟨A', c', h1, R, h3⟩ => ⟨A', c', h1, R.bs, h3⟩
end
end Go.Proofs.Ytopimmomkapdoaa
