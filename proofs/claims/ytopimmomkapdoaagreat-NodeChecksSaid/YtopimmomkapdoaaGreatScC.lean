/- Scalars as the program holds them: of bytes, sums, turned about, products, bits. Scalars as the program holds them: exact ones, bytes of them, two the same. -/
import Derived.Test.YtopimmomkapdoaaGreatScA
import Derived.Test.YtopimmomkapdoaaGreatLongQ
import Derived.Test.YtopimmomkapdoaaGreatFieldB
namespace Go.Proofs.YtopimmomkapdoaaGreat
section
open Go.RowKit
section
attribute [local irreducible] Y Ef WL WC WK WQ WM OpM WN WF OpN
namespace Sc
open Fp
theorem num_dig : ∀ (xs : List UInt8) (j : Nat), (xs.getD j 0).toNat = num xs / 256 ^ j % 256
  | [], j => by simp [num]
  | x :: xs, 0 => by
    have := x.toNat_lt
    show x.toNat = (x.toNat + 256 * num xs) / 256 ^ 0 % 256
    rw [Nat.pow_zero, Nat.div_one]; omega
  | x :: xs, j + 1 => by
    have := x.toNat_lt
    show (xs.getD j 0).toNat = (x.toNat + 256 * num xs) / 256 ^ (j + 1) % 256
    rw [num_dig xs j, Nat.pow_succ, Nat.mul_comm (256 ^ j), ← Nat.div_div_eq_div_mul]
    congr 2; omega
theorem byte_next (N at_ k : Nat) (h : k < 8) : N / 256 ^ (at_ + (k + 1)) % 256 ^ (8 - (k + 1)) * 256 + N / 256 ^ (at_ + k) % 256 = N / 256 ^ (at_ + k) % 256 ^ (8 - k) := by
  rw [show 8 - k = (8 - (k + 1)) + 1 by omega, show at_ + (k + 1) = (at_ + k) + 1 by omega, Nat.pow_succ 256 (at_ + k), ← Nat.div_div_eq_div_mul]
  generalize N / 256 ^ (at_ + k) = x
  rw [Nat.pow_succ' (n := 8 - (k + 1)) (m := 256), Nat.mod_mul]
  omega
theorem word_wd (N q : Nat) : N / 256 ^ (8 * q + 0) % 256 ^ (8 - 0) = wd N q := by
  unfold wd
  rw [Nat.add_zero, Nat.pow_mul]; rfl
theorem or_byte (m b : Nat) (hm : m < 72057594037927936) (hb : b < 256) : bits .or .u64 ((m * 256 : Nat) : Int) ((b : Nat) : Int) = ((m * 256 + b : Nat) : Int) := by
  have h3 := (bits_u64 (p := m * 256) (q := b) (by omega) (by omega)).2.1
  rw [h3]
  congr 1
  rw [Nat.mul_comm m, show (256 : Nat) = 2 ^ 8 from rfl, ← Nat.two_pow_add_eq_or_of_lt hb]
end Sc
theorem sword_any (A : Option Addr) (n c q : Nat) (xs : List UInt8) (w : World) (HA : Bs w A n xs) (hq : q ≤ 1000) (hn : n ≤ 1000000) :
    Calls Tryz.prog 81 #[.slice A n c, .int .i64 ((8 * q : Nat) : Int)] w fun e w' => e = .returned (.int .u64 ((Sc.wd (Fp.num xs) q : Nat) : Int)) ∧ Ext w w' := by
  have hl := HA.1
  refine vc_enter1 29 Tryz.func81 rfl rfl rfl rfl ?_
  intro Q hret
  refine wc_seq ?_; intro K1 hK1
  refine wc_region ?_
  refine wl_y (y_assign rfl) rfl ?_
  refine wl_nil ?_
  refine wq_then_norm (hK1 ?_)
  refine wc_seq ?_; intro K2 hK2
  refine wc_region ?_
  refine wl_y (y_assign rfl) rfl ?_
  refine wl_nil ?_
  refine wq_then_norm (hK2 ?_)
  refine wc_seq ?_; intro K3 hK3
  refine wc_seq ?_; intro K4 hK4
  refine wc_region ?_
  refine wl_y (y_assign rfl) rfl ?_
  refine wl_nil ?_
  refine wq_then_norm (hK4 ?_)
  refine wc_block ?_
  refine wc_loop (fun n' L wr => ∃ (k m : Nat) (z : Int), L = [(0, .slice A n c), (1, .int .i64 ((8 * q : Nat) : Int)), (5, .int .u64 (m : Int)), (6, .int .i64 z)] ∧ n' = 1 + k ∧ (wr = w ∧ k ≤ 8 ∧ z = (k : Int) - 1 ∧ m = Fp.num xs / 256 ^ (8 * q + k) % 256 ^ (8 - k))) _ _ ⟨8, 0, 7, rfl, rfl, rfl, by omega, rfl, by simp [Nat.mod_one]⟩ ⟨rfl, (by first | rfl | exact congrArg some (int_val (by omega))), (by first | rfl | exact congrArg some (int_val (by omega))), (by first | rfl | exact congrArg some (int_val (by omega))), trivial⟩ ?_
  rintro KL1 n' L wr ⟨k, m, z, rfl, rfl, rfl, hk, hz, hm⟩ hL1
  refine wc_seq ?_; intro K5 hK5
  refine wc_seq ?_; intro K6 hK6
  refine wc_region ?_
  refine wl_y (y_move rfl) rfl ?_
  refine wl_y (y_geq rfl rfl) rfl ?_
  refine wl_nil ?_
  refine wq_then_norm (hK6 ?_)
  refine wc_dec rfl (fun hc1 => ?_) (fun hc1 => ?_)
  · skip
    refine wc_skip ?_
    refine wq_then_norm (hK5 ?_)
    refine wc_seq ?_; intro K7 hK7
    refine wc_block ?_
    refine wc_seq ?_; intro K8 hK8
    obtain ⟨j, rfl⟩ : ∃ j, k = j + 1 := ⟨k - 1, by omega⟩
    have hm7 : m < 72057594037927936 := by
      rw [hm]
      refine Nat.lt_of_lt_of_le (Nat.mod_lt _ (Nat.pow_pos (by omega))) ?_
      rw [show (72057594037927936 : Nat) = 256 ^ 7 from rfl]
      exact Nat.pow_le_pow_right (by omega) (by omega)
    have hdig := Sc.num_dig xs (8 * q + j)
    have hnx := Sc.byte_next (Fp.num xs) (8 * q) j (by omega)
    rw [← hm] at hnx
    have hzj : z = (j : Int) := by omega
    subst hzj
    refine wc_region ?_
    refine wl_y (y_move rfl) rfl ?_
    refine wl_y (y_shl rfl rfl (by omega) (show IntKind.u64.wrap ((m : Int) * 2 ^ min (8 : Int).toNat IntKind.u64.bits) = ((m * 256 : Nat) : Int) from u64_nat (by rw [Int.natCast_mul]; rfl) (by omega))) rfl ?_
    refine wl_y (y_assign rfl) rfl ?_
    refine wl_nil ?_
    refine wq_then_norm (hK8 ?_)
    refine wc_seq ?_; intro K9 hK9
    refine wc_region ?_
    refine wl_y (y_move rfl) rfl ?_
    refine wl_y (y_move rfl) rfl ?_
    refine wl_y (y_add rfl rfl (i64_nat (n := 8 * q + j) (by omega) (by omega))) rfl ?_
    refine wl_y (y_move rfl) rfl ?_
    refine wl_y (y_len_slice rfl Tryz.underlying22) rfl ?_
    refine wl_y (y_lss rfl rfl) rfl ?_
    refine wl_nil ?_
    refine wq_then_norm (hK9 ?_)
    refine wc_dec rfl (fun hc2 => ?_) (fun hc2 => ?_)
    · skip
      refine wc_region ?_
      obtain ⟨b1, off1, rfl, _, hcx⟩ := HA.get (k := 8 * q + j) (by omega)
      have hxb := (xs.getD (8 * q + j) 0).toNat_lt
      refine wl_y (y_move rfl) rfl ?_
      refine wl_y (y_move rfl) rfl ?_
      refine wl_y (y_move rfl) rfl ?_
      refine wl_y (y_move rfl) rfl ?_
      refine wl_y (y_add rfl rfl (i64_nat (n := 8 * q + j) (by omega) (by omega))) rfl ?_
      refine wl_y (y_ixs1 rfl rfl Tryz.underlying22 (by kernel_rfl) rfl (by omega)) rfl ?_
      refine wl_y (y_load1 rfl Tryz.underlying5 rfl hcx) rfl ?_
      refine wl_y (y_conv rfl Tryz.underlying5 Tryz.underlying58 (show IntKind.u64.wrap (((xs.getD (8 * q + j) 0).toNat : Nat) : Int) = _ from u64_nat rfl (by omega))) rfl ?_
      refine wl_y (y_or rfl rfl (Sc.or_byte m _ hm7 hxb)) rfl ?_
      refine wl_y (y_assign rfl) rfl ?_
      refine wl_nil ?_
      refine wq_blk_norm ?_
      refine wq_then_norm (hK7 ?_)
      refine wc_region ?_
      refine wl_y (y_move rfl) rfl ?_
      refine wl_y (y_sub rfl rfl (show IntKind.i64.wrap ((j : Int) - 1) = (j : Int) - 1 from i64_ok (by omega) (by omega))) rfl ?_
      refine wl_y (y_assign rfl) rfl ?_
      refine wl_nil ?_
      refine wq_then_norm ?_
      refine hL1 _ _ ⟨j, m * 256 + (xs.getD (8 * q + j) 0).toNat, (j : Int) - 1, rfl, rfl, rfl, by omega, rfl, by rw [hdig, hnx]⟩ (by omega) ⟨rfl, (by first | rfl | exact congrArg some (int_val (by omega))), (by first | rfl | exact congrArg some (int_val (by omega))), (by first | rfl | exact congrArg some (int_val (by omega))), trivial⟩
    · skip
      refine wc_skip ?_
      refine wq_blk_norm ?_
      refine wq_then_norm (hK7 ?_)
      have h0 : xs.getD (8 * q + j) 0 = 0 := by rw [List.getD_eq_getElem?_getD, List.getElem?_eq_none (by omega)]; rfl
      rw [h0] at hdig
      have h1 : Fp.num xs / 256 ^ (8 * q + j) % 256 = 0 := hdig.symm
      rw [h1, Nat.add_zero] at hnx
      refine wc_region ?_
      refine wl_y (y_move rfl) rfl ?_
      refine wl_y (y_sub rfl rfl (show IntKind.i64.wrap ((j : Int) - 1) = (j : Int) - 1 from i64_ok (by omega) (by omega))) rfl ?_
      refine wl_y (y_assign rfl) rfl ?_
      refine wl_nil ?_
      refine wq_then_norm ?_
      refine hL1 _ _ ⟨j, m * 256, (j : Int) - 1, rfl, rfl, rfl, by omega, rfl, hnx⟩ (by omega) ⟨rfl, (by first | rfl | exact congrArg some (int_val (by omega))), (by first | rfl | exact congrArg some (int_val (by omega))), (by first | rfl | exact congrArg some (int_val (by omega))), trivial⟩
  · skip
    refine wc_exit ?_
    refine wq_then_exit ?_
    refine wq_then_exit ?_
    refine wq_blk_hit ?_
    refine wq_then_norm (hK3 ?_)
    refine wc_seq ?_; intro K10 hK10
    refine wc_region ?_
    refine wl_y (y_move rfl) rfl ?_
    refine wl_y (y_assign rfl) rfl ?_
    refine wl_nil ?_
    refine wq_then_norm (hK10 ?_)
    refine wc_ret ?_
    refine hret rfl ?_
    obtain rfl : k = 0 := by omega
    exact ⟨by rw [hm, Sc.word_wd], Ext.refl _⟩
theorem fn_more (n : Nat) (f : Nat → Nat) : Fp.fn (n + 1) f = Fp.fn n f ++ [f n] := by
  unfold Fp.fn; rw [List.range_succ, List.map_append]; rfl
theorem sof_any (A : Option Addr) (n c : Nat) (xs : List UInt8) (w : World) (HA : Bs w A n xs) (hc : n ≤ c) :
    Calls Tryz.prog 43 #[.slice A n c] w fun e w' => e = .returned (.agg (ws (Sc.wd (Fp.num (xs.take 64) % Sc.L)))) ∧ Ext w w' := by
  have hl := HA.1
  have HT : Bs w A (min n 64) (xs.take 64) := by
    have h := HA.take (Nat.min_le_left n 64)
    have e : xs.take (min n 64) = xs.take 64 := by
      rcases Nat.le_total n 64 with h | h
      · rw [Nat.min_eq_left h, List.take_of_length_le (by omega), List.take_of_length_le (by omega)]
      · rw [Nat.min_eq_right h]
    rwa [e] at h
  obtain ⟨k, hk⟩ : ∃ k, k = min n 64 := ⟨_, rfl⟩
  obtain ⟨N, hN⟩ : ∃ N, N = Fp.num (xs.take 64) := ⟨_, rfl⟩
  rw [← hk] at HT
  have hNl : N < 256 ^ k := by
    have := Fp.num_lt (xs.take 64)
    rw [← hN, HT.1] at this
    exact this
  refine vc_enterc1 (s := 4) 24 Tryz.func43 rfl rfl rfl Tryz.underlying70 rfl (by kernel_rfl) rfl ?_
  intro Q hret
  refine wc_seq ?_; intro K1 hK1
  refine wc_region ?_
  refine wl_ef (ef_alloc (Z := ws z4) (by kernel_rfl)) rfl ?_
  rintro _ w1 ⟨g2, rfl, B2, hg2, ex⟩
  have E0 := ex
  refine wl_nil ?_
  refine wq_then_norm (hK1 ?_)
  refine wc_seq ?_; intro K2 hK2
  refine wc_region ?_
  refine wl_y (y_move rfl) rfl ?_
  refine wl_y (y_move rfl) rfl ?_
  refine wl_y (y_len_slice rfl Tryz.underlying22) rfl ?_
  refine wl_y (Y.as (y_min rfl rfl) (show Value.int .i64 _ = .int .i64 ((k : Nat) : Int) by congr 1; omega)) rfl ?_
  refine wl_y (y_cuth (s := 1) rfl rfl Tryz.underlying22 (by kernel_rfl) (j := k) rfl (by omega)) rfl ?_
  refine wl_y (y_assign rfl) rfl ?_
  refine wl_nil ?_
  refine wq_then_norm (hK2 ?_)
  refine wc_seq ?_; intro K3 hK3
  refine wc_region ?_
  refine wl_y (y_assign rfl) rfl ?_
  refine wl_nil ?_
  refine wq_then_norm (hK3 ?_)
  refine wc_seq ?_; intro K4 hK4
  refine wc_seq ?_; intro K5 hK5
  refine wc_region ?_
  refine wl_y (y_assign rfl) rfl ?_
  refine wl_nil ?_
  refine wq_then_norm (hK5 ?_)
  refine wc_block ?_
  refine wc_loop (fun n' L wr => ∃ (i c3 : Nat) (A3 : Option Addr), L = [(0, .slice A k c), (2, .pointer (some ⟨g2, 0, none⟩)), (3, .slice A3 i c3), (4, .int .i64 ((8 * i : Nat) : Int))] ∧ n' = 64 + 8 - 8 * i ∧ (8 * i ≤ k + 7 ∧ Ext w1 wr ∧ Row wr w1.heap.size 58 A3 i c3 ((Fp.fn i (Sc.wd N)).map (iv .u64)))) _ _ ⟨0, 0, none, rfl, rfl, by omega, Ext.refl _, Row.empty _ _ _⟩ ⟨rfl, rfl, rfl, (by first | rfl | exact congrArg some (int_val (by omega))), trivial⟩ ?_
  rintro KL1 n' L wr ⟨i, c3, A3, rfl, rfl, hi, F, R⟩ hL1
  refine wc_seq ?_; intro K6 hK6
  refine wc_seq ?_; intro K7 hK7
  refine wc_region ?_
  refine wl_y (y_move rfl) rfl ?_
  refine wl_y (y_move rfl) rfl ?_
  refine wl_y (y_len_slice rfl Tryz.underlying22) rfl ?_
  refine wl_y (y_lss rfl rfl) rfl ?_
  refine wl_nil ?_
  refine wq_then_norm (hK7 ?_)
  refine wc_dec rfl (fun hc1 => ?_) (fun hc1 => ?_)
  · skip
    refine wc_skip ?_
    refine wq_then_norm (hK6 ?_)
    refine wc_seq ?_; intro K8 hK8
    refine wc_block ?_
    refine wc_region ?_
    refine wl_y (y_move rfl) rfl ?_
    refine wl_y (y_move rfl) rfl ?_
    refine wl_y (y_move rfl) rfl ?_
    refine wl_call Tryz.func81 rfl rfl rfl (sword_any A k c i (xs.take 64) _ (HT.ext (E0.ext F)) (by omega) (by omega)) rfl ?_
    rintro e w3 ⟨rfl, ex⟩
    refine ⟨_, rfl, ?_⟩
    rw [← hN]; replace F := F.ext ex; replace R := R.ext ex
    refine wl_ef (ef_lit (z := .int .u64 0) Tryz.underlying117 (by kernel_rfl) rfl rfl rfl rfl rfl) rfl ?_
    rintro _ w4 ⟨g4, rfl, B4, hg4, ex⟩
    replace F := F.ext ex; replace R := R.ext ex; have hs4 := F.size
    refine wl_ef (ef_app rfl rfl eltU R (At.blk (vs := [Sc.wd N i].map (iv .u64)) (B4.congr rfl)) rfl (by intro u hu; exact iv_one u hu) (by omega) (by omega) hs4) rfl ?_
    rintro _ w5 ⟨A6, c6, rfl, R6, be, gr, hl6⟩
    replace F := F.trans be
    refine wl_y (y_assign rfl) rfl ?_
    refine wl_nil ?_
    refine wq_blk_norm ?_
    refine wq_then_norm (hK8 ?_)
    refine wc_region ?_
    refine wl_y (y_move rfl) rfl ?_
    refine wl_y (y_add rfl rfl (i64_nat (n := 8 * (i + 1)) (by omega) (by omega))) rfl ?_
    refine wl_y (y_assign rfl) rfl ?_
    refine wl_nil ?_
    refine wq_then_norm ?_
    refine hL1 _ _ ⟨i + 1, c6, A6, rfl, rfl, by omega, F, R6.congr rfl (by rw [fn_more, List.map_append])⟩ (by omega) ⟨rfl, rfl, rfl, (by first | rfl | exact congrArg some (int_val (by omega))), trivial⟩
  · skip
    refine wc_exit ?_
    refine wq_then_exit ?_
    refine wq_then_exit ?_
    refine wq_blk_hit ?_
    refine wq_then_norm (hK4 ?_)
    refine wc_seq ?_; intro K9 hK9
    refine wc_region ?_
    refine wl_y (y_move rfl) rfl ?_
    refine wl_call Tryz.func84 rfl rfl rfl (sreduce_any A3 i c3 N _ (Ns.of_row R) (Nat.lt_of_lt_of_le hNl (Nat.le_trans (Nat.pow_le_pow_right (by omega) (show k ≤ 8 * i by omega)) (Nat.le_of_eq (by rw [show (256 : Nat) = 2 ^ 8 from rfl, ← Nat.pow_mul]; congr 1; omega)))) (by omega)) rfl ?_
    rintro e w6 ⟨rfl, ex⟩
    refine ⟨_, rfl, ?_⟩
    replace F := F.ext ex; have D0 := B2.ext F; have E := E0.ext F
    refine wl_ef (ef_storeW rfl rfl (by rw [ws_size]; kernel_rfl) D0 (by rw [ws_size, ws_size]) (ws_one _)) rfl ?_
    rintro _ w7 ⟨rfl, D2, cg⟩
    replace E := E.chg cg hg2
    refine wl_nil ?_
    refine wq_then_norm (hK9 ?_)
    refine wc_ret ?_
    refine hret rfl D2 (ws_size _) ?_
    exact ⟨by rw [hN], E⟩
end
section
namespace Sc
end Sc
attribute [local irreducible] Y Ef WL WC WK WQ WM OpM WN WF OpN
theorem Sbit_any (a i : Nat) (w : World) (hi : i < 256) :
    Calls Tryz.prog 64 #[.agg (ws (Sc.wd a)), .int .i64 (i : Int)] w fun e w' => e = .returned (.int .i64 ((a / 2 ^ i % 2 : Nat) : Int)) ∧ Ext w w' := by
  have hxd := Nat.lt_of_le_of_lt (Nat.div_le_self (Sc.wd a (i / 64)) (2 ^ (i % 64))) (Sc.wd_lt a (i / 64))
  have hbt := Sc.bit_of a i
  refine vc_enter1 21 Tryz.func64 rfl rfl rfl rfl ?_
  intro Q hret
  refine wc_seq ?_; intro K1 hK1
  refine wc_region ?_
  refine wl_ef (ef_box (cs := ws (Sc.wd a)) rfl rfl) rfl ?_
  rintro _ w1 ⟨g2, rfl, B2, hg2, ex⟩
  have E := ex
  refine wl_y (y_assign rfl) rfl ?_
  refine wl_nil ?_
  refine wq_then_norm (hK1 ?_)
  refine wc_seq ?_; intro K2 hK2
  refine wc_seq ?_; intro K3 hK3
  refine wc_region ?_
  refine wl_y (y_move rfl) rfl ?_
  refine wl_y (y_lss rfl rfl) rfl ?_
  refine wl_y (Y.as (y_move rfl) (congrArg Value.bool (decide_eq_false (by omega)))) rfl ?_
  refine wl_gy 7 rfl rfl (y_move rfl) rfl ?_
  refine wl_gy 7 rfl rfl (y_geq rfl rfl) rfl ?_
  refine wl_y (y_pickf rfl rfl) rfl ?_
  refine wl_nil ?_
  refine wq_then_norm (hK3 ?_)
  refine wc_no rfl (by omega) ?_
  refine wc_skip ?_
  refine wq_then_norm (hK2 ?_)
  refine wc_seq ?_; intro K4 hK4
  refine wc_region ?_
  refine wl_y (y_move rfl) rfl ?_
  refine wl_y (y_quo rfl rfl (by omega) (show IntKind.i64.wrap ((i : Int).tdiv 64) = ((i / 64 : Nat) : Int) from i64_nat rfl (by omega))) rfl ?_
  refine wl_y (y_fieldAddr (o := 0) (s := 4) (off := 0) (o' := 0) rfl Tryz.underlying70 rfl (by kernel_rfl) rfl rfl) rfl ?_
  refine wl_y (y_ixa1 rfl rfl Tryz.underlying68 (by kernel_rfl) (j := i / 64) rfl (by omega)) rfl ?_
  refine wl_y (y_load1 rfl Tryz.underlying58 rfl (B2.get (ws_get _ (Nat.zero_add _) (by omega)))) rfl ?_
  refine wl_y (y_move rfl) rfl ?_
  refine wl_y (y_rem rfl rfl (by omega) (show ((i : Int).tmod 64) = ((i % 64 : Nat) : Int) from rfl)) rfl ?_
  refine wl_y (y_shr rfl rfl (by omega) (shr6 _ _ (Nat.mod_lt _ (by omega)))) rfl ?_
  refine wl_y (y_and rfl rfl (show bits .and .u64 _ 1 = ((a / 2 ^ i % 2 : Nat) : Int) by rw [and1 _ hxd, hbt])) rfl ?_
  refine wl_y (y_conv rfl Tryz.underlying58 Tryz.underlying3 (show IntKind.i64.wrap ((a / 2 ^ i % 2 : Nat) : Int) = _ from i64_nat rfl (by omega))) rfl ?_
  refine wl_y (y_assign rfl) rfl ?_
  refine wl_nil ?_
  refine wq_then_norm (hK4 ?_)
  refine wc_ret ?_
  refine hret rfl ?_
  exact ⟨rfl, E⟩
end
end
section
open Go.RowKit Go.ChangeMaps
attribute [local irreducible] Y Ef WL WC WK WQ WM OpM WN WF OpN
namespace Sc
end Sc
theorem Sexact_any (A : Option Addr) (n c : Nat) (xs : List UInt8) (w : World) (HA : Bs w A n xs) (hn : n ≤ 1000000) :
    Calls Tryz.prog 42 #[.slice A n c] w fun e w' => ∃ v, e = .returned (.tuple #[.agg (ws (Sc.wd v)), .bool (decide (xs.length = 32 ∧ Fp.num xs < Sc.L))]) ∧ (xs.length = 32 ∧ Fp.num xs < Sc.L → v = Fp.num xs) ∧ v < Sc.L ∧ Ext w w' := by
  have hl := HA.1
  have hLp := Sc.L_pos
  have hz0 : ws z4 = ws (Sc.wd 0) := ws_congr fun j _ => by unfold z4 Sc.wd; simp
  refine vc_enterct (s := 4) 33 Tryz.func42 rfl rfl rfl Tryz.underlying70 rfl (by kernel_rfl) rfl ?_
  intro Q hret
  refine wc_seq ?_; intro K1 hK1
  refine wc_region ?_
  refine wl_ef (ef_alloc (Z := ws z4) (by kernel_rfl)) rfl ?_
  rintro _ w1 ⟨g2, rfl, B2, hg2, ex⟩
  have E := ex; have hl2 := B2.lt
  refine wl_y (y_assign rfl) rfl ?_
  refine wl_nil ?_
  refine wq_then_norm (hK1 ?_)
  refine wc_seq ?_; intro K2 hK2
  refine wc_seq ?_; intro K3 hK3
  refine wc_region ?_
  refine wl_y (y_move rfl) rfl ?_
  refine wl_y (y_len_slice rfl Tryz.underlying22) rfl ?_
  refine wl_y (y_neq rfl rfl) rfl ?_
  refine wl_nil ?_
  refine wq_then_norm (hK3 ?_)
  refine wc_dec rfl (fun hc1 => ?_) (fun hc1 => ?_)
  · skip
    refine wc_seq ?_; intro K4 hK4
    refine wc_region ?_
    refine wl_y (y_build rfl (cells := ws z4) (by kernel_rfl)) rfl ?_
    refine wl_ef (ef_storeW rfl rfl (by rw [ws_size]; kernel_rfl) B2 (by simp only [ws_size]) (ws_one _)) rfl ?_
    rintro _ w3 ⟨rfl, D2, cg⟩
    replace E := E.chg cg hg2; rw [hz0] at D2
    refine wl_y (y_assign rfl) rfl ?_
    refine wl_nil ?_
    refine wq_then_norm (hK4 ?_)
    refine wc_ret ?_
    refine wq_then_ret ?_
    refine hret rfl rfl D2 (ws_size _) ?_
    exact ⟨0, by rw [decide_eq_false (show ¬ (xs.length = 32 ∧ Fp.num xs < Sc.L) from fun h => by omega)], fun h => by omega, hLp, E⟩
  · skip
    refine wc_skip ?_
    refine wq_then_norm (hK2 ?_)
    refine wc_seq ?_; intro K5 hK5
    have h32 : xs.length = 32 := by omega
    have hN := Fp.num_lt xs
    rw [h32, show (256 : Nat) ^ 32 = Sc.W ^ 4 by decide +kernel] at hN
    have hbor := Sc.bor_all hN Sc.L_lt
    have hz := E.size
    refine wc_region ?_
    refine wl_ef (ef_alloc (Z := ws z4) (by kernel_rfl)) rfl ?_
    rintro _ w4 ⟨g4, rfl, B4, hg4, ex⟩
    replace E := E.ext ex
    replace B2 := B2.ext ex
    rw [Sc.sofar_zero (Fp.num xs)] at B4
    refine wl_nil ?_
    refine wq_then_norm (hK5 ?_)
    refine wc_seq ?_; intro K6 hK6
    refine wc_seq ?_; intro K7 hK7
    refine wc_region ?_
    refine wl_y (y_move rfl) rfl ?_
    refine wl_nil ?_
    refine wq_then_norm (hK7 ?_)
    refine wc_block ?_
    refine wc_loop (fun n' L wr => ∃ (i : Nat), L = [(0, .slice A n c), (2, .pointer (some ⟨g2, 0, none⟩)), (4, .pointer (some ⟨g4, 0, none⟩)), (12, .int .i64 (i : Int))] ∧ n' = 4 - i ∧ (i ≤ 4 ∧ Ext w wr ∧ Blk wr g2 70 (ws z4) ∧ Blk wr g4 68 (ws (Sc.sofar (Fp.num xs) i)))) _ _ ⟨0, rfl, rfl, by omega, E, B2, B4⟩ ⟨rfl, rfl, rfl, (by first | rfl | exact congrArg some (int_val (by omega))), trivial⟩ ?_
    rintro KL1 n' L wr ⟨i, rfl, rfl, hi, E, B2, B4⟩ hL1
    refine wc_seq ?_; intro K8 hK8
    refine wc_region ?_
    refine wl_y (y_lss rfl rfl) rfl ?_
    refine wl_nil ?_
    refine wq_then_norm (hK8 ?_)
    refine wc_seq ?_; intro K9 hK9
    refine wc_dec rfl (fun hc2 => ?_) (fun hc2 => ?_)
    · skip
      refine wc_skip ?_
      refine wq_then_norm (hK9 ?_)
      refine wc_seq ?_; intro K10 hK10
      refine wc_block ?_
      refine wc_seq ?_; intro K11 hK11
      refine wc_region ?_
      refine wl_y (y_move rfl) rfl ?_
      refine wl_y (y_assign rfl) rfl ?_
      refine wl_nil ?_
      refine wq_then_norm (hK11 ?_)
      refine wc_region ?_
      refine wl_y (y_move rfl) rfl ?_
      refine wl_y (y_move rfl) rfl ?_
      refine wl_y (y_move rfl) rfl ?_
      refine wl_y (y_mul rfl rfl (i64_nat (n := 8 * i) (by omega) (by omega))) rfl ?_
      refine wl_call Tryz.func81 rfl rfl rfl (sword_any A n c i xs _ (HA.ext E) (by omega) hn) rfl ?_
      rintro e w5 ⟨rfl, ex⟩
      refine ⟨_, rfl, ?_⟩
      replace E := E.ext ex
      replace B2 := B2.ext ex
      replace B4 := B4.ext ex
      skip
      refine wl_y (y_ixa1 rfl rfl Tryz.underlying68 (by kernel_rfl) rfl (by omega)) rfl ?_
      refine wl_ef (ef_storeB rfl rfl rfl (by kernel_rfl) B4 (by rw [ws_size]; omega)) rfl ?_
      rintro _ w6 ⟨rfl, D4, cg⟩
      rw [Sc.sofar_succ rfl] at D4; replace E := E.chg cg (by omega); replace B2 := B2.chg cg (by omega); replace B4 := D4
      refine wl_nil ?_
      refine wq_blk_norm ?_
      refine wq_then_norm (hK10 ?_)
      refine wc_region ?_
      refine wl_y (y_add rfl rfl (i64_ok (by omega) (by omega))) rfl ?_
      refine wl_y (y_move rfl) rfl ?_
      refine wl_nil ?_
      refine wq_then_norm ?_
      refine hL1 _ _ ⟨i + 1, rfl, rfl, by omega, E, B2, B4⟩ (by omega) ⟨rfl, rfl, rfl, (by first | rfl | exact congrArg some (int_val (by omega))), trivial⟩
    · skip
      refine wc_exit ?_
      refine wq_then_exit ?_
      refine wq_then_exit ?_
      refine wq_blk_hit ?_
      refine wq_then_norm (hK6 ?_)
      refine wc_seq ?_; intro K12 hK12
      refine wc_seq ?_; intro K13 hK13
      obtain rfl : i = 4 := by omega
      rw [Sc.sofar_all] at B4
      refine wc_drawB (by kernel_rfl) 9 rfl ?_; intro wd9 ex hd9
      replace E := E.ext ex
      replace B2 := B2.ext ex
      replace B4 := B4.ext ex
      have E_0 := E
      have B2_0 := B2
      have B4_0 := B4
      have X0 := Ext.refl wd9
      refine wn_y 0 rfl (by kernel_rfl) ((y_loadw rfl Tryz.underlying68 rfl (by rw [ws_size]; kernel_rfl) B4_0)) rfl ?_
      refine wf_start (fl := [flA 6 6 68 (ws z4)]) rfl ?_
      refine wf_call (j := 1) (dst := some 24) ⟨(fall (flA_runs rfl (by kernel_rfl)) fall_nil), by decide, by decide, (fall (⟨rfl, by decide⟩) fall_nil), (fall (mem_of_has (by kernel_rfl)) fall_nil)⟩ (by kernel_rfl) (fall (by decide) fall_nil) rfl Tryz.func83 rfl rfl rfl (fall (by decide) fall_nil) rfl ?_
      intro wf9_1 ex exb
      replace E := E.ext ex
      replace B2 := B2.ext ex
      replace B4 := B4.ext ex
      replace X0 := X0.ext ex
      refine ⟨_, (sorder_any _), ?_⟩
      rintro e w7 ⟨rfl, ex⟩
      refine ⟨_, rfl, ex, ?_⟩
      replace E := E.ext ex
      replace B2 := B2.ext ex
      replace B4 := B4.ext ex
      replace X0 := X0.ext ex
      refine wf_call (j := 2) (dst := some 25) ⟨(fall (flA_runs rfl (by kernel_rfl)) fall_nil), by decide, by decide, (fall (⟨rfl, by decide⟩) fall_nil), (fall (mem_of_has (by kernel_rfl)) fall_nil)⟩ (by kernel_rfl) (fall (by decide) fall_nil) rfl Tryz.func82 rfl rfl rfl (fall (by decide) fall_nil) rfl ?_
      intro wf9_2 ex exb
      replace E := E.ext ex
      replace B2 := B2.ext ex
      replace B4 := B4.ext ex
      replace X0 := X0.ext ex
      refine ⟨_, (ssub_any (Fp.num xs) Sc.L _ (by have := Sc.L_lt; omega)), ?_⟩
      rintro e w8 ⟨rfl, ex⟩
      refine ⟨_, rfl, ex, ?_⟩
      replace E := E.ext ex
      replace B2 := B2.ext ex
      replace B4 := B4.ext ex
      replace X0 := X0.ext ex
      rw [hbor]
      refine wf_y (dst := some 22) 3 rfl (by kernel_rfl) (y_move rfl) rfl (fall (by decide) fall_nil) ?_
      refine wf_y (dst := some 26) 4 rfl (by kernel_rfl) (y_extract rfl rfl) rfl (fall (by decide) fall_nil) ?_
      refine wf_y (dst := some 27) 5 rfl (by kernel_rfl) (y_extract rfl rfl) rfl (fall (by decide) fall_nil) ?_
      refine wf_land1 ⟨(fall (flA_runs rfl (by kernel_rfl)) fall_nil), by decide, by decide, (fall (⟨rfl, by decide⟩) fall_nil), (fall (mem_of_has (by kernel_rfl)) fall_nil)⟩ (by kernel_rfl) ?_
      rintro _ wl9 ex ⟨⟨g6, rfl, Bg6⟩, hg6⟩
      replace hg6 := hg6 g6 rfl
      replace E := E.ext ex
      replace B2 := B2.ext ex
      replace B4 := B4.ext ex
      replace X0 := X0.ext ex
      refine wn_one 7 (by kernel_rfl) ?_
      refine on_ef rfl (ef_storeW rfl rfl (by rw [ws_size]; kernel_rfl) Bg6 (by rw [ws_size, ws_size]) (ws_one _)) rfl ?_
      rintro _ wn9_7 ⟨rfl, Bg6, cg⟩
      replace X0 := X0.chg cg hg6
      refine ⟨X0, ?_⟩
      replace E := E_0.ext X0
      replace B2 := B2_0.ext X0
      replace B4 := B4_0.ext X0
      refine wn_y 8 rfl (by kernel_rfl) (y_assign rfl) rfl ?_
      refine wn_done (by kernel_rfl) ?_
      refine wq_nop ?_
      refine wq_then_norm (hK13 ?_)
      refine wc_seq ?_; intro K14 hK14
      refine wc_region ?_
      refine wl_y (y_move rfl) rfl ?_
      refine wl_y (y_eql rfl rfl) rfl ?_
      refine wl_nil ?_
      refine wq_then_norm (hK14 ?_)
      refine wc_dec rfl (fun hc3 => ?_) (fun hc3 => ?_)
      · skip
        refine wc_seq ?_; intro K15 hK15
        have hge : ¬ Fp.num xs < Sc.L := fun h => by rw [if_pos h] at hc3; exact absurd hc3 (by decide)
        refine wc_region ?_
        refine wl_y (y_build rfl (cells := ws z4) (by kernel_rfl)) rfl ?_
        refine wl_ef (ef_storeW rfl rfl (by rw [ws_size]; kernel_rfl) B2 (by simp only [ws_size]) (ws_one _)) rfl ?_
        rintro _ w9 ⟨rfl, D2, cg⟩
        replace E := E.chg cg hg2; rw [hz0] at D2
        refine wl_y (y_assign rfl) rfl ?_
        refine wl_nil ?_
        refine wq_then_norm (hK15 ?_)
        refine wc_ret ?_
        refine wq_then_ret ?_
        refine hret rfl rfl D2 (ws_size _) ?_
        exact ⟨0, by rw [decide_eq_false (show ¬ (xs.length = 32 ∧ Fp.num xs < Sc.L) from fun h => hge h.2)], fun h => absurd h.2 hge, hLp, E⟩
      · skip
        refine wc_skip ?_
        refine wq_then_norm (hK12 ?_)
        refine wc_seq ?_; intro K16 hK16
        have hlt : Fp.num xs < Sc.L := Classical.byContradiction fun h => by rw [if_neg h] at hc3; exact absurd rfl hc3
        refine wc_region ?_
        refine wl_y ((y_loadw rfl Tryz.underlying68 rfl (by rw [ws_size]; kernel_rfl) B4)) rfl ?_
        refine wl_y (y_build rfl (cells := ws (Sc.wd (Fp.num xs))) (by kernel_rfl)) rfl ?_
        refine wl_ef (ef_storeW rfl rfl (by rw [ws_size]; kernel_rfl) B2 (by rw [ws_size, ws_size]) (ws_one _)) rfl ?_
        rintro _ w9 ⟨rfl, D2, cg⟩
        replace E := E.chg cg hg2
        refine wl_y (y_assign rfl) rfl ?_
        refine wl_nil ?_
        refine wq_then_norm (hK16 ?_)
        refine wc_ret ?_
        refine hret rfl rfl D2 (ws_size _) ?_
        exact ⟨Fp.num xs, by rw [decide_eq_true ⟨h32, hlt⟩], fun _ => rfl, hlt, E⟩
end
end Go.Proofs.YtopimmomkapdoaaGreat
