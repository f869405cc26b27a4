/- Scalars as the program holds them: of bytes, sums, turned about, products, bits. Scalars as the program holds them: exact ones, bytes of them, two the same. -/
import Derived.Test.YtjllhimhiekchaaGreatScA
import Derived.Test.YtjllhimhiekchaaGreatLongQ
import Derived.Test.YtjllhimhiekchaaGreatFieldB
namespace Go.Proofs.YtjllhimhiekchaaGreat
section
open Go.RowKit
section
attribute [local irreducible] Y Ef WL WC WK WQ WM OpM WN WF OpN
namespace Sc
open Fp
theorem num_dig : ∀ (xs : List UInt8) (j : Nat), (xs.getD j 0).toNat = num xs / 256 ^ j % 256
  | [], j => by simp [num]
  | x :: xs, 0 => by
    have := x.toNat_lt
    show x.toNat = (x.toNat + 256 * num xs) / 256 ^ 0 % 256
    rw [Nat.pow_zero, Nat.div_one]; omega
  | x :: xs, j + 1 => by
    have := x.toNat_lt
    show (xs.getD j 0).toNat = (x.toNat + 256 * num xs) / 256 ^ (j + 1) % 256
    rw [num_dig xs j, Nat.pow_succ, Nat.mul_comm (256 ^ j), ← Nat.div_div_eq_div_mul]
    congr 2; omega
theorem byte_next (N at_ k : Nat) (h : k < 8) : N / 256 ^ (at_ + (k + 1)) % 256 ^ (8 - (k + 1)) * 256 + N / 256 ^ (at_ + k) % 256 = N / 256 ^ (at_ + k) % 256 ^ (8 - k) := by
 rw [show 8 - k = (8 - (k + 1)) + 1 by omega, show at_ + (k + 1) = (at_ + k) + 1 by omega, Nat.pow_succ 256 (at_ + k), ← Nat.div_div_eq_div_mul]
 generalize N / 256 ^ (at_ + k) = x
 rw [Nat.pow_succ' (n := 8 - (k + 1)) (m := 256), Nat.mod_mul]
 omega
theorem word_wd (N q : Nat) : N / 256 ^ (8 * q + 0) % 256 ^ (8 - 0) = wd N q := by
 unfold wd
 rw [Nat.add_zero, Nat.pow_mul]; rfl
theorem or_byte (m b : Nat) (hm : m < 72057594037927936) (hb : b < 256) : bits .or .u64 ((m * 256 : Nat) : Int) ((b : Nat) : Int) = ((m * 256 + b : Nat) : Int) := by
 have h3 := (bits_u64 (p := m * 256) (q := b) (by omega) (by omega)).2.1
 rw [h3]
 congr 1
 rw [Nat.mul_comm m, show (256 : Nat) = 2 ^ 8 from rfl, ← Nat.two_pow_add_eq_or_of_lt hb]
end Sc
theorem sword_any (A : Option Addr) (n c q : Nat) (xs : List UInt8) (w : World) (HA : Bs w A n xs) (hq : q ≤ 1000) (hn : n ≤ 1000000) :
  Calls Tryz.prog 206 #[.slice A n c, .int .i64 ((8 * q : Nat) : Int)] w fun e w' => e = .returned (.int .u64 ((Sc.wd (Fp.num xs) q : Nat) : Int)) ∧ Ext w w' := by
 have hl := HA.1
 refine vc_enter1 29 Tryz.func206 rfl rfl rfl rfl ?_
 intro Q hret
 refine wc_seq ?_; intro K1 hK1
 refine wc_region ?_
 refine wl_y (y_assign rfl) rfl ?_
 refine wl_nil ?_
 refine wq_then_norm (hK1 ?_)
 refine wc_seq ?_; intro K2 hK2
 refine wc_region ?_
 refine wl_y (y_assign rfl) rfl ?_
 refine wl_nil ?_
 refine wq_then_norm (hK2 ?_)
 refine wc_seq ?_; intro K3 hK3
 refine wc_seq ?_; intro K4 hK4
 refine wc_region ?_
 refine wl_y (y_assign rfl) rfl ?_
 refine wl_nil ?_
 refine wq_then_norm (hK4 ?_)
 refine wc_block ?_
 refine wc_loop (fun n' L wr => ∃ (k m : Nat) (z : Int), L = [(0, .slice A n c), (1, .int .i64 ((8 * q : Nat) : Int)), (5, .int .u64 (m : Int)), (6, .int .i64 z)] ∧ n' = 1 + k ∧ (wr = w ∧ k ≤ 8 ∧ z = (k : Int) - 1 ∧ m = Fp.num xs / 256 ^ (8 * q + k) % 256 ^ (8 - k))) _ _ ⟨8, 0, 7, rfl, rfl, rfl, by omega, rfl, by simp [Nat.mod_one]⟩ ⟨rfl, (by first | rfl | exact congrArg some (int_val (by omega))), (by first | rfl | exact congrArg some (int_val (by omega))), (by first | rfl | exact congrArg some (int_val (by omega))), trivial⟩ ?_
 rintro KL1 n' L wr ⟨k, m, z, rfl, rfl, rfl, hk, hz, hm⟩ hL1
 refine wc_seq ?_; intro K5 hK5
 refine wc_seq ?_; intro K6 hK6
 refine wc_region ?_
 refine wl_y (y_move rfl) rfl ?_
 refine wl_y (y_geq rfl rfl) rfl ?_
 refine wl_nil ?_
 refine wq_then_norm (hK6 ?_)
 refine wc_dec rfl (fun hc1 => ?_) (fun hc1 => ?_)
 ·skip
  refine wc_skip ?_
  refine wq_then_norm (hK5 ?_)
  refine wc_seq ?_; intro K7 hK7
  refine wc_block ?_
  refine wc_seq ?_; intro K8 hK8
  obtain ⟨j, rfl⟩ : ∃ j, k = j + 1 := ⟨k - 1, by omega⟩
  have hm7 : m < 72057594037927936 := by
   rw [hm]
   refine Nat.lt_of_lt_of_le (Nat.mod_lt _ (Nat.pow_pos (by omega))) ?_
   rw [show (72057594037927936 : Nat) = 256 ^ 7 from rfl]
   exact Nat.pow_le_pow_right (by omega) (by omega)
  have hdig := Sc.num_dig xs (8 * q + j)
  have hnx := Sc.byte_next (Fp.num xs) (8 * q) j (by omega)
  rw [← hm] at hnx
  have hzj : z = (j : Int) := by omega
  subst hzj
  refine wc_region ?_
  refine wl_y (y_move rfl) rfl ?_
  refine wl_y (y_shl rfl rfl (by omega) (show IntKind.u64.wrap ((m : Int) * 2 ^ min (8 : Int).toNat IntKind.u64.bits) = ((m * 256 : Nat) : Int) from u64_nat (by rw [Int.natCast_mul]; rfl) (by omega))) rfl ?_
  refine wl_y (y_assign rfl) rfl ?_
  refine wl_nil ?_
  refine wq_then_norm (hK8 ?_)
  refine wc_seq ?_; intro K9 hK9
  refine wc_region ?_
  refine wl_y (y_move rfl) rfl ?_
  refine wl_y (y_move rfl) rfl ?_
  refine wl_y (y_add rfl rfl (i64_nat (n := 8 * q + j) (by omega) (by omega))) rfl ?_
  refine wl_y (y_move rfl) rfl ?_
  refine wl_y (y_len_slice rfl Tryz.underlying23) rfl ?_
  refine wl_y (y_lss rfl rfl) rfl ?_
  refine wl_nil ?_
  refine wq_then_norm (hK9 ?_)
  refine wc_dec rfl (fun hc2 => ?_) (fun hc2 => ?_)
  ·skip
   refine wc_region ?_
   obtain ⟨b1, off1, rfl, _, hcx⟩ := HA.get (k := 8 * q + j) (by omega)
   have hxb := (xs.getD (8 * q + j) 0).toNat_lt
   refine wl_y (y_move rfl) rfl ?_
   refine wl_y (y_move rfl) rfl ?_
   refine wl_y (y_move rfl) rfl ?_
   refine wl_y (y_move rfl) rfl ?_
   refine wl_y (y_add rfl rfl (i64_nat (n := 8 * q + j) (by omega) (by omega))) rfl ?_
   refine wl_y (y_ixs1 rfl rfl Tryz.underlying23 (by kernel_rfl) rfl (by omega)) rfl ?_
   refine wl_y (y_load1 rfl Tryz.underlying5 rfl hcx) rfl ?_
   refine wl_y (y_conv rfl Tryz.underlying5 Tryz.underlying38 (show IntKind.u64.wrap (((xs.getD (8 * q + j) 0).toNat : Nat) : Int) = _ from u64_nat rfl (by omega))) rfl ?_
   refine wl_y (y_or rfl rfl (Sc.or_byte m _ hm7 hxb)) rfl ?_
   refine wl_y (y_assign rfl) rfl ?_
   refine wl_nil ?_
   refine wq_blk_norm ?_
   refine wq_then_norm (hK7 ?_)
   refine wc_region ?_
   refine wl_y (y_move rfl) rfl ?_
   refine wl_y (y_sub rfl rfl (show IntKind.i64.wrap ((j : Int) - 1) = (j : Int) - 1 from i64_ok (by omega) (by omega))) rfl ?_
   refine wl_y (y_assign rfl) rfl ?_
   refine wl_nil ?_
   refine wq_then_norm ?_
   refine hL1 _ _ ⟨j, m * 256 + (xs.getD (8 * q + j) 0).toNat, (j : Int) - 1, rfl, rfl, rfl, by omega, rfl, by rw [hdig, hnx]⟩ (by omega) ⟨rfl, (by first | rfl | exact congrArg some (int_val (by omega))), (by first | rfl | exact congrArg some (int_val (by omega))), (by first | rfl | exact congrArg some (int_val (by omega))), trivial⟩
  ·skip
   refine wc_skip ?_
   refine wq_blk_norm ?_
   refine wq_then_norm (hK7 ?_)
   have h0 : xs.getD (8 * q + j) 0 = 0 := by rw [List.getD_eq_getElem?_getD, List.getElem?_eq_none (by omega)]; rfl
   rw [h0] at hdig
   have h1 : Fp.num xs / 256 ^ (8 * q + j) % 256 = 0 := hdig.symm
   rw [h1, Nat.add_zero] at hnx
   refine wc_region ?_
   refine wl_y (y_move rfl) rfl ?_
   refine wl_y (y_sub rfl rfl (show IntKind.i64.wrap ((j : Int) - 1) = (j : Int) - 1 from i64_ok (by omega) (by omega))) rfl ?_
   refine wl_y (y_assign rfl) rfl ?_
   refine wl_nil ?_
   refine wq_then_norm ?_
   refine hL1 _ _ ⟨j, m * 256, (j : Int) - 1, rfl, rfl, rfl, by omega, rfl, hnx⟩ (by omega) ⟨rfl, (by first | rfl | exact congrArg some (int_val (by omega))), (by first | rfl | exact congrArg some (int_val (by omega))), (by first | rfl | exact congrArg some (int_val (by omega))), trivial⟩
 ·skip
  refine wc_exit ?_
  refine wq_then_exit ?_
  refine wq_then_exit ?_
  refine wq_blk_hit ?_
  refine wq_then_norm (hK3 ?_)
  refine wc_seq ?_; intro K10 hK10
  refine wc_region ?_
  refine wl_y (y_move rfl) rfl ?_
  refine wl_y (y_assign rfl) rfl ?_
  refine wl_nil ?_
  refine wq_then_norm (hK10 ?_)
  refine wc_ret ?_
  refine hret rfl ?_
  obtain rfl : k = 0 := by omega
  exact ⟨by rw [hm, Sc.word_wd], Ext.refl _⟩
theorem fn_more (n : Nat) (f : Nat → Nat) : Fp.fn (n + 1) f = Fp.fn n f ++ [f n] := by
 unfold Fp.fn; rw [List.range_succ, List.map_append]; rfl
theorem scof_any (A : Option Addr) (n c : Nat) (xs : List UInt8) (w : World) (HA : Bs w A n xs) (hc : n ≤ c) :
  Calls Tryz.prog 141 #[.slice A n c] w fun e w' => e = .returned (.agg (ws (Sc.wd (Fp.num (xs.take 64) % Sc.L)))) ∧ Ext w w' := by
 have hl := HA.1
 have HT : Bs w A (min n 64) (xs.take 64) := by
  have h := HA.take (Nat.min_le_left n 64)
  have e : xs.take (min n 64) = xs.take 64 := by
   rcases Nat.le_total n 64 with h | h
   ·rw [Nat.min_eq_left h, List.take_of_length_le (by omega), List.take_of_length_le (by omega)]
   ·rw [Nat.min_eq_right h]
  rwa [e] at h
 obtain ⟨k, hk⟩ : ∃ k, k = min n 64 := ⟨_, rfl⟩
 obtain ⟨N, hN⟩ : ∃ N, N = Fp.num (xs.take 64) := ⟨_, rfl⟩
 rw [← hk] at HT
 have hNl : N < 256 ^ k := by
  have := Fp.num_lt (xs.take 64)
  rw [← hN, HT.1] at this
  exact this
 refine vc_enterc1 (s := 4) 24 Tryz.func141 rfl rfl rfl Tryz.underlying142 rfl (by kernel_rfl) rfl ?_
 intro Q hret
 refine wc_seq ?_; intro K1 hK1
 refine wc_region ?_
 refine wl_ef (ef_alloc (Z := ws z4) (by kernel_rfl)) rfl ?_
 rintro _ w1 ⟨g2, rfl, B2, hg2, ex⟩
 have E0 := ex
 refine wl_nil ?_
 refine wq_then_norm (hK1 ?_)
 refine wc_seq ?_; intro K2 hK2
 refine wc_region ?_
 refine wl_y (y_move rfl) rfl ?_
 refine wl_y (y_move rfl) rfl ?_
 refine wl_y (y_len_slice rfl Tryz.underlying23) rfl ?_
 refine wl_y (Y.as (y_min rfl rfl) (show Value.int .i64 _ = .int .i64 ((k : Nat) : Int) by congr 1; omega)) rfl ?_
 refine wl_y (y_cuth (s := 1) rfl rfl Tryz.underlying23 (by kernel_rfl) (j := k) rfl (by omega)) rfl ?_
 refine wl_y (y_assign rfl) rfl ?_
 refine wl_nil ?_
 refine wq_then_norm (hK2 ?_)
 refine wc_seq ?_; intro K3 hK3
 refine wc_region ?_
 refine wl_y (y_assign rfl) rfl ?_
 refine wl_nil ?_
 refine wq_then_norm (hK3 ?_)
 refine wc_seq ?_; intro K4 hK4
 refine wc_seq ?_; intro K5 hK5
 refine wc_region ?_
 refine wl_y (y_assign rfl) rfl ?_
 refine wl_nil ?_
 refine wq_then_norm (hK5 ?_)
 refine wc_block ?_
 refine wc_loop (fun n' L wr => ∃ (i c3 : Nat) (A3 : Option Addr), L = [(0, .slice A k c), (2, .pointer (some ⟨g2, 0, none⟩)), (3, .slice A3 i c3), (4, .int .i64 ((8 * i : Nat) : Int))] ∧ n' = 64 + 8 - 8 * i ∧ (8 * i ≤ k + 7 ∧ Ext w1 wr ∧ Row wr w1.heap.size 38 A3 i c3 ((Fp.fn i (Sc.wd N)).map (iv .u64)))) _ _ ⟨0, 0, none, rfl, rfl, by omega, Ext.refl _, Row.empty _ _ _⟩ ⟨rfl, rfl, rfl, (by first | rfl | exact congrArg some (int_val (by omega))), trivial⟩ ?_
 rintro KL1 n' L wr ⟨i, c3, A3, rfl, rfl, hi, F, R⟩ hL1
 refine wc_seq ?_; intro K6 hK6
 refine wc_seq ?_; intro K7 hK7
 refine wc_region ?_
 refine wl_y (y_move rfl) rfl ?_
 refine wl_y (y_move rfl) rfl ?_
 refine wl_y (y_len_slice rfl Tryz.underlying23) rfl ?_
 refine wl_y (y_lss rfl rfl) rfl ?_
 refine wl_nil ?_
 refine wq_then_norm (hK7 ?_)
 refine wc_dec rfl (fun hc1 => ?_) (fun hc1 => ?_)
 ·skip
  refine wc_skip ?_
  refine wq_then_norm (hK6 ?_)
  refine wc_seq ?_; intro K8 hK8
  refine wc_block ?_
  refine wc_region ?_
  refine wl_y (y_move rfl) rfl ?_
  refine wl_y (y_move rfl) rfl ?_
  refine wl_y (y_move rfl) rfl ?_
  refine wl_call Tryz.func206 rfl rfl rfl (sword_any A k c i (xs.take 64) _ (HT.ext (E0.ext F)) (by omega) (by omega)) rfl ?_
  rintro e w3 ⟨rfl, ex⟩
  refine ⟨_, rfl, ?_⟩
  rw [← hN]; replace F := F.ext ex; replace R := R.ext ex
  refine wl_ef (ef_lit (z := .int .u64 0) Tryz.underlying180 (by kernel_rfl) rfl rfl rfl rfl rfl) rfl ?_
  rintro _ w4 ⟨g4, rfl, B4, hg4, ex⟩
  replace F := F.ext ex; replace R := R.ext ex; have hs4 := F.size
  refine wl_ef (ef_app rfl rfl eltU R (At.blk (vs := [Sc.wd N i].map (iv .u64)) (B4.congr rfl)) rfl (by intro u hu; exact iv_one u hu) (by omega) (by omega) hs4) rfl ?_
  rintro _ w5 ⟨A6, c6, rfl, R6, be, gr, hl6⟩
  replace F := F.trans be
  refine wl_y (y_assign rfl) rfl ?_
  refine wl_nil ?_
  refine wq_blk_norm ?_
  refine wq_then_norm (hK8 ?_)
  refine wc_region ?_
  refine wl_y (y_move rfl) rfl ?_
  refine wl_y (y_add rfl rfl (i64_nat (n := 8 * (i + 1)) (by omega) (by omega))) rfl ?_
  refine wl_y (y_assign rfl) rfl ?_
  refine wl_nil ?_
  refine wq_then_norm ?_
  refine hL1 _ _ ⟨i + 1, c6, A6, rfl, rfl, by omega, F, R6.congr rfl (by rw [fn_more, List.map_append])⟩ (by omega) ⟨rfl, rfl, rfl, (by first | rfl | exact congrArg some (int_val (by omega))), trivial⟩
 ·skip
  refine wc_exit ?_
  refine wq_then_exit ?_
  refine wq_then_exit ?_
  refine wq_blk_hit ?_
  refine wq_then_norm (hK4 ?_)
  refine wc_seq ?_; intro K9 hK9
  refine wc_region ?_
  refine wl_y (y_move rfl) rfl ?_
  refine wl_call Tryz.func209 rfl rfl rfl (sreduce_any A3 i c3 N _ (Ns.of_row R) (Nat.lt_of_lt_of_le hNl (Nat.le_trans (Nat.pow_le_pow_right (by omega) (show k ≤ 8 * i by omega)) (Nat.le_of_eq (by rw [show (256 : Nat) = 2 ^ 8 from rfl, ← Nat.pow_mul]; congr 1; omega)))) (by omega)) rfl ?_
  rintro e w6 ⟨rfl, ex⟩
  refine ⟨_, rfl, ?_⟩
  replace F := F.ext ex; have D0 := B2.ext F; have E := E0.ext F
  refine wl_ef (ef_storeW rfl rfl (by rw [ws_size]; kernel_rfl) D0 (by rw [ws_size, ws_size]) (ws_one _)) rfl ?_
  rintro _ w7 ⟨rfl, D2, cg⟩
  replace E := E.chg cg hg2
  refine wl_nil ?_
  refine wq_then_norm (hK9 ?_)
  refine wc_ret ?_
  refine hret rfl D2 (ws_size _) ?_
  exact ⟨by rw [hN], E⟩
end
section
namespace Sc
theorem wd_val : ∀ (l : List Nat) (j : Nat), Wd.ok l → l.getD j 0 = wd (Wd.val l) j
  | [], j, _ => by simp [Wd.val, wd]
  | d :: ds, 0, h => by
    have h1 := (Wd.ok_cons.1 h).1
    show d = (d + 18446744073709551616 * Wd.val ds) / W ^ 0 % W
    rw [Nat.pow_zero, Nat.div_one, show W = 18446744073709551616 from rfl]; omega
  | d :: ds, j + 1, h => by
    have h1 := (Wd.ok_cons.1 h).1
    have h2 := wd_val ds j (Wd.ok_cons.1 h).2
    show ds.getD j 0 = (d + 18446744073709551616 * Wd.val ds) / W ^ (j + 1) % W
    rw [h2, Nat.pow_succ, Nat.mul_comm (W ^ j), ← Nat.div_div_eq_div_mul]
    unfold wd
    congr 2
    rw [show W = 18446744073709551616 from rfl]; omega
theorem list_val {l : List Nat} {n : Nat} (h : Wd.ok l) (hn : l.length = n) : l = Fp.fn n (wd (Wd.val l)) := by
 have h1 := Fp.fn_of l
 rw [hn] at h1
 rw [h1]
 have h2 : Wd.val (Fp.fn n fun j => l.getD j 0) = Wd.val l := by rw [← h1]
 rw [h2]
 exact Fp.fn_congr fun j _ => wd_val l j h
theorem wd_ok (n a : Nat) : Wd.ok (Fp.fn n (wd a)) := fun d hd => by
 unfold Fp.fn at hd
 obtain ⟨j, _, rfl⟩ := List.mem_map.1 hd
 exact wd_lt a j
theorem val_fn (a : Nat) : ∀ n, Wd.val (Fp.fn n (wd a)) = a % W ^ n
  | 0 => by simp [Fp.fn, Wd.val, Nat.mod_one]
  | n + 1 => by
    rw [fn_more, Wd.val_append, val_fn a n, Fp.fn_length, low_succ]
    simp [Wd.val, wd, W]
end Sc
attribute [local irreducible] Y Ef WL WC WK WQ WM OpM WN WF OpN
theorem Sadd_any (a b : Nat) (w : World) (ha : a < Sc.L) (hb : b < Sc.L) :
  Calls Tryz.prog 148 #[.agg (ws (Sc.wd a)), .agg (ws (Sc.wd b))] w fun e w' => e = .returned (.agg (ws (Sc.wd ((a + b) % Sc.L)))) ∧ Ext w w' := by
 have E := Ext.refl w
 refine vc_enterc1 (s := 4) 18 Tryz.func148 rfl rfl rfl Tryz.underlying142 rfl (by kernel_rfl) rfl ?_
 intro Q hret
 refine wc_seq ?_; intro K1 hK1
 refine wc_region ?_
 refine wl_ef (ef_box (cs := ws (Sc.wd a)) rfl rfl) rfl ?_
 rintro _ w1 ⟨g2, rfl, B2, hg2, ex⟩
 replace E := E.ext ex
 skip
 refine wl_ef (ef_box (cs := ws (Sc.wd b)) rfl rfl) rfl ?_
 rintro _ w2 ⟨g3, rfl, B3, hg3, ex⟩
 replace E := E.ext ex
 replace B2 := B2.ext ex
 skip
 have hz := E.size
 refine wl_ef (ef_alloc (Z := ws z4) (by kernel_rfl)) rfl ?_
 rintro _ w3 ⟨g4, rfl, B4, hg4, ex⟩
 replace E := E.ext ex
 replace B2 := B2.ext ex
 replace B3 := B3.ext ex
 skip
 refine wl_nil ?_
 refine wq_then_norm (hK1 ?_)
 refine wc_seq ?_; intro K2 hK2
 refine wc_region ?_
 refine wl_y (y_fieldAddr (o := 0) (s := 4) (off := 0) (o' := 0) rfl Tryz.underlying142 rfl (by kernel_rfl) rfl rfl) rfl ?_
 refine wl_y ((y_loadw rfl Tryz.underlying140 rfl (by rw [ws_size]; kernel_rfl) B2)) rfl ?_
 refine wl_y (y_fieldAddr (o := 0) (s := 4) (off := 0) (o' := 0) rfl Tryz.underlying142 rfl (by kernel_rfl) rfl rfl) rfl ?_
 refine wl_y ((y_loadw rfl Tryz.underlying140 rfl (by rw [ws_size]; kernel_rfl) B3)) rfl ?_
 refine wl_call Tryz.func214 rfl rfl rfl (sadd_any a b _) rfl ?_
 rintro e w4 ⟨rfl, ex⟩
 refine ⟨_, rfl, ?_⟩
 replace E := E.ext ex
 replace B2 := B2.ext ex
 replace B3 := B3.ext ex
 replace B4 := B4.ext ex
 skip
 refine wl_y (y_move rfl) rfl ?_
 refine wl_y (y_extract rfl rfl) rfl ?_
 refine wl_y (y_extract rfl rfl) rfl ?_
 have hz5 := E.size; have hl4 := B4.lt
 refine wl_ef (ef_alloc (Z := ws z4) (by kernel_rfl)) rfl ?_
 rintro _ w5 ⟨g5, rfl, B5, hg5, ex⟩
 replace E := E.ext ex
 replace B2 := B2.ext ex
 replace B3 := B3.ext ex
 replace B4 := B4.ext ex
 skip
 refine wl_ef (ef_storeW rfl rfl (by rw [ws_size]; kernel_rfl) B5 (by rw [ws_size, ws_size]) (ws_one _)) rfl ?_
 rintro _ w6 ⟨rfl, D5, cg⟩
 replace E := E.chg cg (by omega); replace B4 := B4.chg cg (by omega)
 refine wl_y (y_assign rfl) rfl ?_
 refine wl_nil ?_
 refine wq_then_norm (hK2 ?_)
 refine wc_seq ?_; intro K3 hK3
 refine wc_region ?_
 refine wl_y ((y_loadw rfl Tryz.underlying140 rfl (by rw [ws_size]; kernel_rfl) D5)) rfl ?_
 refine wl_call Tryz.func215 rfl rfl rfl (sonce_any (a + b) _ (by omega)) rfl ?_
 rintro e w7 ⟨rfl, ex⟩
 refine ⟨_, rfl, ?_⟩
 replace E := E.ext ex
 replace B4 := B4.ext ex
 skip
 refine wl_y (y_build rfl (cells := ws (Sc.wd ((a + b) % Sc.L))) (by kernel_rfl)) rfl ?_
 refine wl_ef (ef_storeW rfl rfl (by rw [ws_size]; kernel_rfl) B4 (by rw [ws_size, ws_size]) (ws_one _)) rfl ?_
 rintro _ w8 ⟨rfl, D4, cg⟩
 replace E := E.chg cg (by omega)
 refine wl_nil ?_
 refine wq_then_norm (hK3 ?_)
 refine wc_ret ?_
 refine hret rfl D4 (ws_size _) ?_
 exact ⟨rfl, E⟩
theorem Sbit_any (a i : Nat) (w : World) (hi : i < 256) :
  Calls Tryz.prog 161 #[.agg (ws (Sc.wd a)), .int .i64 (i : Int)] w fun e w' => e = .returned (.int .i64 ((a / 2 ^ i % 2 : Nat) : Int)) ∧ Ext w w' := by
 have hxd := Nat.lt_of_le_of_lt (Nat.div_le_self (Sc.wd a (i / 64)) (2 ^ (i % 64))) (Sc.wd_lt a (i / 64))
 have hbt := Sc.bit_of a i
 refine vc_enter1 21 Tryz.func161 rfl rfl rfl rfl ?_
 intro Q hret
 refine wc_seq ?_; intro K1 hK1
 refine wc_region ?_
 refine wl_ef (ef_box (cs := ws (Sc.wd a)) rfl rfl) rfl ?_
 rintro _ w1 ⟨g2, rfl, B2, hg2, ex⟩
 have E := ex
 refine wl_y (y_assign rfl) rfl ?_
 refine wl_nil ?_
 refine wq_then_norm (hK1 ?_)
 refine wc_seq ?_; intro K2 hK2
 refine wc_seq ?_; intro K3 hK3
 refine wc_region ?_
 refine wl_y (y_move rfl) rfl ?_
 refine wl_y (y_lss rfl rfl) rfl ?_
 refine wl_y (Y.as (y_move rfl) (congrArg Value.bool (decide_eq_false (by omega)))) rfl ?_
 refine wl_gy 7 rfl rfl (y_move rfl) rfl ?_
 refine wl_gy 7 rfl rfl (y_geq rfl rfl) rfl ?_
 refine wl_y (y_pickf rfl rfl) rfl ?_
 refine wl_nil ?_
 refine wq_then_norm (hK3 ?_)
 refine wc_no rfl (by omega) ?_
 refine wc_skip ?_
 refine wq_then_norm (hK2 ?_)
 refine wc_seq ?_; intro K4 hK4
 refine wc_region ?_
 refine wl_y (y_move rfl) rfl ?_
 refine wl_y (y_quo rfl rfl (by omega) (show IntKind.i64.wrap ((i : Int).tdiv 64) = ((i / 64 : Nat) : Int) from i64_nat rfl (by omega))) rfl ?_
 refine wl_y (y_fieldAddr (o := 0) (s := 4) (off := 0) (o' := 0) rfl Tryz.underlying142 rfl (by kernel_rfl) rfl rfl) rfl ?_
 refine wl_y (y_ixa1 rfl rfl Tryz.underlying140 (by kernel_rfl) (j := i / 64) rfl (by omega)) rfl ?_
 refine wl_y (y_load1 rfl Tryz.underlying38 rfl (B2.get (ws_get _ (Nat.zero_add _) (by omega)))) rfl ?_
 refine wl_y (y_move rfl) rfl ?_
 refine wl_y (y_rem rfl rfl (by omega) (show ((i : Int).tmod 64) = ((i % 64 : Nat) : Int) from rfl)) rfl ?_
 refine wl_y (y_shr rfl rfl (by omega) (shr6 _ _ (Nat.mod_lt _ (by omega)))) rfl ?_
 refine wl_y (y_and rfl rfl (show bits .and .u64 _ 1 = ((a / 2 ^ i % 2 : Nat) : Int) by rw [and1 _ hxd, hbt])) rfl ?_
 refine wl_y (y_conv rfl Tryz.underlying38 Tryz.underlying3 (show IntKind.i64.wrap ((a / 2 ^ i % 2 : Nat) : Int) = _ from i64_nat rfl (by omega))) rfl ?_
 refine wl_y (y_assign rfl) rfl ?_
 refine wl_nil ?_
 refine wq_then_norm (hK4 ?_)
 refine wc_ret ?_
 refine hret rfl ?_
 exact ⟨rfl, E⟩
theorem Sc.val4 {a : Nat} (h : a < Sc.L) : Wd.val (Fp.fn 4 (Sc.wd a)) = a := by
 rw [Sc.val_fn]
 have := Sc.L_lt
 exact Nat.mod_eq_of_lt (by omega)
theorem Sc.at4 (a : Nat) {i x : Nat} (h : i < 4) (hx : x = Sc.wd a i) : x = (Fp.fn 4 (Sc.wd a)).getD i 0 := by rw [Fp.fn_get _ h]; exact hx
theorem Smul_any (a b : Nat) (w : World) (ha : a < Sc.L) (hb : b < Sc.L) :
  Calls Tryz.prog 149 #[.agg (ws (Sc.wd a)), .agg (ws (Sc.wd b))] w fun e w' => e = .returned (.agg (ws (Sc.wd (a * b % Sc.L)))) ∧ Ext w w' := by
 obtain ⟨us, hus⟩ : ∃ us, us = Fp.fn 4 (Sc.wd a) := ⟨_, rfl⟩
 obtain ⟨vs, hvs⟩ : ∃ vs, vs = Fp.fn 4 (Sc.wd b) := ⟨_, rfl⟩
 have oa : Wd.ok us := hus ▸ Sc.wd_ok 4 a
 have ob : Wd.ok vs := hvs ▸ Sc.wd_ok 4 b
 have hla : us.length = 4 := by rw [hus, Fp.fn_length]
 have hlb : vs.length = 4 := by rw [hvs, Fp.fn_length]
 have hva : Wd.val us = a := hus ▸ Sc.val4 ha
 have hvb : Wd.val vs = b := hvs ▸ Sc.val4 hb
 have hab : a * b < 2 ^ (64 * 8) := by
  have h1 := Sc.L_lt
  have h2 : a * b ≤ Sc.W ^ 4 * Sc.W ^ 4 := Nat.mul_le_mul (by omega) (by omega)
  have h3 : a * b < Sc.W ^ 4 * Sc.W ^ 4 := Nat.mul_lt_mul'' (by omega) (by omega)
  exact Nat.lt_of_lt_of_le h3 (by decide +kernel)
 refine vc_enterc1 (s := 4) 71 Tryz.func149 rfl rfl rfl Tryz.underlying142 rfl (by kernel_rfl) rfl ?_
 intro Q hret
 refine wc_seq ?_; intro K1 hK1
 refine wc_region ?_
 refine wl_ef (ef_box (cs := ws (Sc.wd a)) rfl rfl) rfl ?_
 rintro _ w1 ⟨g2, rfl, B2, hg2, ex⟩
 have E0 := ex
 refine wl_ef (ef_box (cs := ws (Sc.wd b)) rfl rfl) rfl ?_
 rintro _ w2 ⟨g3, rfl, B3, hg3, ex⟩
 replace E0 := E0.ext ex; replace B2 := B2.ext ex; have hz := E0.size
 refine wl_ef (ef_alloc (Z := ws z4) (by kernel_rfl)) rfl ?_
 rintro _ w3 ⟨g4, rfl, B4, hg4, ex⟩
 replace E0 := E0.ext ex; replace B2 := B2.ext ex; replace B3 := B3.ext ex
 refine wl_nil ?_
 refine wq_then_norm (hK1 ?_)
 refine wc_seq ?_; intro K2 hK2
 refine wc_region ?_
 refine wl_ef (ef_make (n := 8) (z := .int .u64 0) (bytes := 8) rfl rfl Tryz.underlying180 (by kernel_rfl) rfl rfl rfl rfl (by omega) (by omega)) rfl ?_
 rintro _ w4 ⟨g, rfl, C0, hg, ex⟩
 have F0 := ex; have C1 : Blk w4 g 38 (nums .u64 (List.replicate 8 0)) := C0.congr (by simp [nums, iv])
 refine wl_y (y_assign rfl) rfl ?_
 refine wl_nil ?_
 refine wq_then_norm (hK2 ?_)
 refine wc_seq ?_; intro K3 hK3
 refine wc_seq ?_; intro K4 hK4
 refine wc_region ?_
 refine wl_y (y_fieldAddr (o := 0) (s := 4) (off := 0) (o' := 0) rfl Tryz.underlying142 rfl (by kernel_rfl) rfl rfl) rfl ?_
 refine wl_y ((y_loadw rfl Tryz.underlying140 rfl (by rw [ws_size]; kernel_rfl) (B2.ext F0))) rfl ?_
 refine wl_y (y_move rfl) rfl ?_
 refine wl_nil ?_
 refine wq_then_norm (hK4 ?_)
 refine wc_block ?_
 refine wc_loop (fun n' L wr => ∃ (i : Nat) (l : List Nat), L = [(3, .pointer (some ⟨g3, 0, none⟩)), (4, .pointer (some ⟨g4, 0, none⟩)), (5, .slice (some ⟨g, 0, none⟩) 8 8), (16, .agg (ws (Sc.wd a))), (17, .int .i64 (i : Int)), (2, .pointer (some ⟨g2, 0, none⟩))] ∧ n' = 4 - i ∧ (i ≤ 4 ∧ Ext w3 wr ∧ Blk wr g 38 (nums .u64 l) ∧ l.length = 8 ∧ Wd.ok l ∧ Wd.val l = Wd.val (us.take i) * Wd.val vs ∧ ∀ j, i + 4 ≤ j → l.getD j 0 = 0)) _ _ ⟨0, List.replicate 8 0, rfl, rfl, by omega, F0, C1, by simp, Wd.ok_zeros _, by rw [Wd.val_zeros, List.take_zero, Wd.val, Nat.zero_mul], fun j _ => Wd.zeros_get _ _⟩ ⟨rfl, rfl, rfl, rfl, (by first | rfl | exact congrArg some (int_val (by omega))), rfl, trivial⟩ ?_
 rintro KL1 n' L wr ⟨i, l, rfl, rfl, hi, E, Bl, hl, hok, hv, hz1⟩ hL1
 refine wc_seq ?_; intro K5 hK5
 refine wc_region ?_
 refine wl_y (y_lss rfl rfl) rfl ?_
 refine wl_nil ?_
 refine wq_then_norm (hK5 ?_)
 refine wc_seq ?_; intro K6 hK6
 refine wc_dec rfl (fun hc1 => ?_) (fun hc1 => ?_)
 ·skip
  refine wc_skip ?_
  refine wq_then_norm (hK6 ?_)
  refine wc_seq ?_; intro K7 hK7
  refine wc_block ?_
  refine wc_seq ?_; intro K8 hK8
  have hin : i < 4 := by omega
  obtain ⟨x, hx0⟩ : ∃ x, x = Sc.wd a i := ⟨_, rfl⟩
  have hx : x = us.getD i 0 := by rw [hus]; exact Sc.at4 a hin hx0
  have hxl := Wd.ok_get oa i; rw [← hx] at hxl
  refine wc_region ?_
  refine wl_y (y_move rfl) rfl ?_
  refine wl_y (y_ix1 rfl rfl Tryz.underlying140 Tryz.underlying38 rfl (by kernel_rfl) rfl (by omega) (show (ws (Sc.wd a))[i]? = some (.int .u64 (x : Int)) from by rw [hx0]; exact ws_get _ rfl hin)) rfl ?_
  refine wl_y (y_assign rfl) rfl ?_
  refine wl_y (y_assign rfl) rfl ?_
  refine wl_nil ?_
  refine wq_then_norm (hK8 ?_)
  refine wc_seq ?_; intro K9 hK9
  refine wc_region ?_
  refine wl_y (y_assign rfl) rfl ?_
  refine wl_nil ?_
  refine wq_then_norm (hK9 ?_)
  refine wc_seq ?_; intro K10 hK10
  refine wc_seq ?_; intro K11 hK11
  refine wc_region ?_
  refine wl_y (y_fieldAddr (o := 0) (s := 4) (off := 0) (o' := 0) rfl Tryz.underlying142 rfl (by kernel_rfl) rfl rfl) rfl ?_
  refine wl_y ((y_loadw rfl Tryz.underlying140 rfl (by rw [ws_size]; kernel_rfl) (B3.ext E))) rfl ?_
  refine wl_y (y_move rfl) rfl ?_
  refine wl_nil ?_
  refine wq_then_norm (hK11 ?_)
  refine wc_block ?_
  refine wc_loop (fun n' L wq => ∃ (k cr : Nat) (q : List Nat), L = [(3, .pointer (some ⟨g3, 0, none⟩)), (4, .pointer (some ⟨g4, 0, none⟩)), (5, .slice (some ⟨g, 0, none⟩) 8 8), (6, .int .i64 (i : Int)), (7, .int .u64 (x : Int)), (8, .int .u64 (cr : Int)), (16, .agg (ws (Sc.wd a))), (17, .int .i64 (i : Int)), (22, .agg (ws (Sc.wd b))), (23, .int .i64 (k : Int)), (2, .pointer (some ⟨g2, 0, none⟩))] ∧ n' = 4 - k ∧ (k ≤ 4 ∧ cr < 18446744073709551616 ∧ Ext w3 wq ∧ Blk wq g 38 (nums .u64 q) ∧ q.length = 8 ∧ Wd.ok q ∧ Wd.val q + cr * (18446744073709551616 ^ i * 18446744073709551616 ^ k) = Wd.val l + x * (Wd.val (vs.take k) * 18446744073709551616 ^ i) ∧ ∀ j, i + 4 ≤ j → q.getD j 0 = 0)) _ _ ⟨0, 0, l, rfl, rfl, by omega, by omega, E, Bl, hl, hok, by rw [Nat.zero_mul, List.take_zero, Wd.val, Nat.zero_mul, Nat.mul_zero], hz1⟩ ⟨rfl, rfl, rfl, (by first | rfl | exact congrArg some (int_val (by omega))), (by first | rfl | exact congrArg some (int_val (by omega))), (by first | rfl | exact congrArg some (int_val (by omega))), rfl, (by first | rfl | exact congrArg some (int_val (by omega))), rfl, (by first | rfl | exact congrArg some (int_val (by omega))), rfl, trivial⟩ ?_
  rintro KL2 n' L wq ⟨k, cr, q, rfl, rfl, hk, hcr, F, Bq, hq, hoq, hvq, hzq⟩ hL2
  refine wc_seq ?_; intro K12 hK12
  refine wc_region ?_
  refine wl_y (y_lss rfl rfl) rfl ?_
  refine wl_nil ?_
  refine wq_then_norm (hK12 ?_)
  refine wc_seq ?_; intro K13 hK13
  refine wc_dec rfl (fun hc2 => ?_) (fun hc2 => ?_)
  ·skip
   refine wc_skip ?_
   refine wq_then_norm (hK13 ?_)
   refine wc_seq ?_; intro K14 hK14
   refine wc_block ?_
   refine wc_seq ?_; intro K15 hK15
   have hkm : k < 4 := by omega
   obtain ⟨y, hy0⟩ : ∃ y, y = Sc.wd b k := ⟨_, rfl⟩
   have hy : y = vs.getD k 0 := by rw [hvs]; exact Sc.at4 b hkm hy0
   have hyl := Wd.ok_get ob k; rw [← hy] at hyl
   obtain ⟨o, ho⟩ : ∃ o, o = q.getD (i + k) 0 := ⟨_, rfl⟩
   have hol := Wd.ok_get hoq (i + k); rw [← ho] at hol
   obtain ⟨P, hP⟩ : ∃ P, P = x * y := ⟨_, rfl⟩
   have hPl : P ≤ 18446744073709551615 * 18446744073709551615 := by rw [hP]; exact Nat.mul_le_mul (by omega) (by omega)
   obtain ⟨D, hD⟩ : ∃ D, D = o + x * y + cr := ⟨_, rfl⟩
   have hD' : D = o + P + cr := by rw [hD, hP]
   refine wc_region ?_
   refine wl_y (y_move rfl) rfl ?_
   refine wl_y (y_ix1 rfl rfl Tryz.underlying140 Tryz.underlying38 rfl (by kernel_rfl) rfl (by omega) (show (ws (Sc.wd b))[k]? = some (.int .u64 (y : Int)) from by rw [hy0]; exact ws_get _ rfl hkm)) rfl ?_
   refine wl_y (y_assign rfl) rfl ?_
   refine wl_y (y_assign rfl) rfl ?_
   refine wl_nil ?_
   refine wq_then_norm (hK15 ?_)
   refine wc_seq ?_; intro K16 hK16
   refine wc_region ?_
   refine wl_y (y_move rfl) rfl ?_
   refine wl_y (y_move rfl) rfl ?_
   refine wl_call Tryz.func216 rfl rfl rfl (mul64_any x y _ hxl hyl) rfl ?_
   rintro e w5 ⟨rfl, ex⟩
   refine ⟨_, rfl, ?_⟩
   rw [← hP]; have F3 := F.ext ex; have C3 := Bq.ext ex
   refine wl_y (y_move rfl) rfl ?_
   refine wl_y (y_extract rfl rfl) rfl ?_
   refine wl_y (y_extract rfl rfl) rfl ?_
   refine wl_y (y_assign rfl) rfl ?_
   refine wl_y (y_assign rfl) rfl ?_
   refine wl_nil ?_
   refine wq_then_norm (hK16 ?_)
   refine wc_seq ?_; intro K17 hK17
   refine wc_region ?_
   refine wl_y (y_assign rfl) rfl ?_
   refine wl_nil ?_
   refine wq_then_norm (hK17 ?_)
   refine wc_seq ?_; intro K18 hK18
   refine wc_region ?_
   refine wl_y (y_move rfl) rfl ?_
   refine wl_y (y_move rfl) rfl ?_
   refine wl_y (y_move rfl) rfl ?_
   refine wl_y (y_move rfl) rfl ?_
   refine wl_y (y_add rfl rfl (i64_nat (n := i + k) (by omega) (by omega))) rfl ?_
   refine wl_y (y_ixs1 rfl rfl Tryz.underlying180 (by kernel_rfl) (j := i + k) rfl (by omega)) rfl ?_
   refine wl_y (y_load1 rfl Tryz.underlying38 rfl (C3.get (v := .int .u64 (o : Int)) (by rw [Nat.zero_add, nums_get _ _ _ (by omega), ← ho]))) rfl ?_
   refine wl_y ((ef_ext rfl (add64_run _ _ 0 (by omega)))) rfl ?_
   refine wl_y (y_move rfl) rfl ?_
   refine wl_y (y_extract rfl rfl) rfl ?_
   refine wl_y (y_extract rfl rfl) rfl ?_
   refine wl_y (y_assign rfl) rfl ?_
   refine wl_y (y_assign rfl) rfl ?_
   refine wl_nil ?_
   refine wq_then_norm (hK18 ?_)
   refine wc_seq ?_; intro K19 hK19
   refine wc_region ?_
   refine wl_y (y_move rfl) rfl ?_
   refine wl_y (y_move rfl) rfl ?_
   refine wl_y (y_add rfl rfl (u64_nat (n := P / 18446744073709551616 + (P % 18446744073709551616 + o + 0) / 18446744073709551616) (by omega) (by omega))) rfl ?_
   refine wl_y (y_assign rfl) rfl ?_
   refine wl_nil ?_
   refine wq_then_norm (hK19 ?_)
   refine wc_seq ?_; intro K20 hK20
   refine wc_region ?_
   refine wl_y (y_move rfl) rfl ?_
   refine wl_y (y_move rfl) rfl ?_
   refine wl_y ((ef_ext rfl (add64_run _ _ 0 (by omega)))) rfl ?_
   refine wl_y (y_move rfl) rfl ?_
   refine wl_y (y_extract rfl rfl) rfl ?_
   refine wl_y (y_extract rfl rfl) rfl ?_
   refine wl_y (y_assign rfl) rfl ?_
   refine wl_y (y_assign rfl) rfl ?_
   refine wl_nil ?_
   refine wq_then_norm (hK20 ?_)
   rw [show ((P % 18446744073709551616 + o + 0) % 18446744073709551616 + cr + 0) % 18446744073709551616 = D % 18446744073709551616 by omega]
   refine wc_region ?_
   refine wl_y (y_move rfl) rfl ?_
   refine wl_y (y_move rfl) rfl ?_
   refine wl_y (y_move rfl) rfl ?_
   refine wl_y (y_add rfl rfl (i64_nat (n := i + k) (by omega) (by omega))) rfl ?_
   refine wl_y (y_move rfl) rfl ?_
   refine wl_y (y_move rfl) rfl ?_
   refine wl_y (y_move rfl) rfl ?_
   refine wl_y (y_add rfl rfl (u64_nat (n := D / 18446744073709551616) (by omega) (by omega))) rfl ?_
   refine wl_y (y_ixs1 rfl rfl Tryz.underlying180 (by kernel_rfl) (j := i + k) rfl (by omega)) rfl ?_
   refine wl_ef (ef_storeB rfl rfl rfl (by kernel_rfl) C3 (by rw [nums_size]; omega)) rfl ?_
   rintro _ w10 ⟨rfl, C10, cg⟩
   rw [Nat.zero_add, nums_set] at C10; have F10 := F3.chg cg hg
   refine wl_y (y_assign rfl) rfl ?_
   refine wl_nil ?_
   refine wq_blk_norm ?_
   refine wq_then_norm (hK14 ?_)
   refine wc_region ?_
   refine wl_y (y_add rfl rfl (i64_ok (by omega) (by omega))) rfl ?_
   refine wl_y (y_move rfl) rfl ?_
   refine wl_nil ?_
   refine wq_then_norm ?_
   refine hL2 _ _ ⟨k + 1, D / 18446744073709551616, q.set (i + k) (D % 18446744073709551616), rfl, rfl, by omega, by omega, F10, C10, by rw [List.length_set]; exact hq, Wd.ok_set hoq _ _ (by omega), by
    have hs := Wd.val_set q (i + k) (D % 18446744073709551616) (by omega)
    rw [← ho, Nat.pow_add] at hs
    have e1 : 18446744073709551616 ^ i * 18446744073709551616 ^ (k + 1) = 18446744073709551616 ^ i * 18446744073709551616 ^ k * 18446744073709551616 := by rw [Nat.pow_succ, Nat.mul_assoc]
    have e2 : ∀ V : Nat, (V + y * 18446744073709551616 ^ k) * 18446744073709551616 ^ i = V * 18446744073709551616 ^ i + y * (18446744073709551616 ^ i * 18446744073709551616 ^ k) := fun V => by rw [Nat.add_mul, Nat.mul_assoc, Nat.mul_comm (18446744073709551616 ^ k)]
    rw [e1, Wd.val_take_succ, ← hy, e2]
    exact Wd.mul_step hD hvq hs, fun j hj => by rw [Wd.getD_set_ne _ _ _ _ (by omega)]; exact hzq j hj⟩ (by omega) ⟨rfl, rfl, rfl, (by first | rfl | exact congrArg some (int_val (by omega))), (by first | rfl | exact congrArg some (int_val (by omega))), (by first | rfl | exact congrArg some (int_val (by omega))), rfl, (by first | rfl | exact congrArg some (int_val (by omega))), rfl, (by first | rfl | exact congrArg some (int_val (by omega))), rfl, trivial⟩
  ·skip
   refine wc_exit ?_
   refine wq_then_exit ?_
   refine wq_then_exit ?_
   refine wq_blk_hit ?_
   refine wq_then_norm (hK10 ?_)
   obtain rfl : k = 4 := by omega
   have h0 := hzq (i + 4) (Nat.le_refl _)
   refine wc_region ?_
   refine wl_y (y_move rfl) rfl ?_
   refine wl_y (y_move rfl) rfl ?_
   refine wl_y (y_add rfl rfl (i64_nat (n := i + 4) (by omega) (by omega))) rfl ?_
   refine wl_y (y_move rfl) rfl ?_
   refine wl_y (y_ixs1 rfl rfl Tryz.underlying180 (by kernel_rfl) (j := i + 4) rfl (by omega)) rfl ?_
   refine wl_ef (ef_storeB rfl rfl rfl (by kernel_rfl) Bq (by rw [nums_size]; omega)) rfl ?_
   rintro _ w12 ⟨rfl, C12, cg⟩
   rw [Nat.zero_add, nums_set] at C12; have F12 := F.chg cg hg
   refine wl_nil ?_
   refine wq_blk_norm ?_
   refine wq_then_norm (hK7 ?_)
   refine wc_region ?_
   refine wl_y (y_add rfl rfl (i64_ok (by omega) (by omega))) rfl ?_
   refine wl_y (y_move rfl) rfl ?_
   refine wl_nil ?_
   refine wq_then_norm ?_
   refine hL1 _ _ ⟨i + 1, q.set (i + 4) cr, rfl, rfl, by omega, F12, C12, by rw [List.length_set]; exact hq, Wd.ok_set hoq _ _ hcr, by
    have hs := Wd.val_set q (i + 4) cr (by omega)
    rw [h0, Nat.zero_mul, Nat.add_zero, Nat.pow_add] at hs
    rw [hs, hvq, hv, show vs.take 4 = vs from List.take_of_length_le (by omega), Wd.val_take_succ, ← hx, Nat.add_mul, Nat.mul_assoc x, Nat.mul_comm (Wd.val vs)], fun j hj => by rw [Wd.getD_set_ne _ _ _ _ (by omega)]; exact hzq j (by omega)⟩ (by omega) ⟨rfl, rfl, rfl, rfl, (by first | rfl | exact congrArg some (int_val (by omega))), rfl, trivial⟩
 ·skip
  refine wc_exit ?_
  refine wq_then_exit ?_
  refine wq_then_exit ?_
  refine wq_blk_hit ?_
  refine wq_then_norm (hK3 ?_)
  refine wc_seq ?_; intro K21 hK21
  obtain rfl : i = 4 := by omega
  rw [show us.take 4 = us from List.take_of_length_le (by omega), hva, hvb] at hv
  have hlw := Sc.list_val hok hl
  rw [hv] at hlw
  rw [hlw] at Bl
  refine wc_region ?_
  refine wl_y (y_move rfl) rfl ?_
  refine wl_call Tryz.func209 rfl rfl rfl (sreduce_any _ 8 8 (a * b) _ (Ns.blk Bl (Fp.fn_length _ _)) hab (by omega)) rfl ?_
  rintro e w13 ⟨rfl, ex⟩
  refine ⟨_, rfl, ?_⟩
  replace E := E.ext ex; have C4 := B4.ext E; replace E0 := E0.ext E
  refine wl_ef (ef_storeW rfl rfl (by rw [ws_size]; kernel_rfl) C4 (by rw [ws_size, ws_size]) (ws_one _)) rfl ?_
  rintro _ w14 ⟨rfl, D4, cg⟩
  replace E0 := E0.chg cg (by omega)
  refine wl_nil ?_
  refine wq_then_norm (hK21 ?_)
  refine wc_ret ?_
  refine hret rfl D4 (ws_size _) ?_
  exact ⟨rfl, E0⟩
end
end
section
open Go.RowKit Go.ChangeMaps
attribute [local irreducible] Y Ef WL WC WK WQ WM OpM WN WF OpN
namespace Sc
theorem byte_at (n i : Nat) (hi : i < 32) : wd n (i / 8) / 2 ^ (i % 8 * 8) % 256 = n / 256 ^ i % 256 := by
 unfold wd
 have hr : i % 8 < 8 := Nat.mod_lt _ (by omega)
 have e : W = 2 ^ (i % 8 * 8) * (256 * 2 ^ (56 - i % 8 * 8)) := by
  rw [W_two, show (256 : Nat) = 2 ^ 8 from rfl, ← Nat.pow_add, ← Nat.pow_add]; congr 1; omega
 have hb : 256 ^ i = W ^ (i / 8) * 2 ^ (i % 8 * 8) := by
  rw [W_two, show (256 : Nat) = 2 ^ 8 from rfl, ← Nat.pow_mul, ← Nat.pow_mul, ← Nat.pow_add]; congr 1; omega
 rw [hb, ← Nat.div_div_eq_div_mul]
 generalize n / W ^ (i / 8) = x
 rw [e, Nat.mod_mul_right_div_self, Nat.mod_mul_right_mod]
end Sc
theorem le_more (i x : Nat) : Fp.le (i + 1) x = Fp.le i x ++ [UInt8.ofNat (x / 256 ^ i % 256)] := by
 unfold Fp.le; rw [List.range_succ, List.map_append]; rfl
theorem Sbytes_any (n : Nat) (w : World) :
  Calls Tryz.prog 150 #[.agg (ws (Sc.wd n))] w fun e w' => ∃ g, e = .returned (.slice (some ⟨g, 0, none⟩) 32 32) ∧ w.heap.size ≤ g ∧ Blk w' g 5 (bys (Fp.le 32 n)) ∧ Ext w w' := by
 have E := Ext.refl w
 refine vc_enter1 26 Tryz.func150 rfl rfl rfl rfl ?_
 intro Q hret
 refine wc_seq ?_; intro K1 hK1
 refine wc_region ?_
 refine wl_ef (ef_box (cs := ws (Sc.wd n)) rfl rfl) rfl ?_
 rintro _ w1 ⟨g1, rfl, B1, hg1, ex⟩
 replace E := E.ext ex
 skip
 refine wl_y (y_assign rfl) rfl ?_
 refine wl_nil ?_
 refine wq_then_norm (hK1 ?_)
 refine wc_seq ?_; intro K2 hK2
 refine wc_region ?_
 have hz := E.size; have hl1 := B1.lt
 refine wl_ef (ef_make (n := 32) (z := .int .u8 0) (bytes := 1) rfl rfl Tryz.underlying23 (by kernel_rfl) rfl rfl rfl rfl (by omega) (by omega)) rfl ?_
 rintro _ w2 ⟨g2, rfl, B2, hg2, ex⟩
 replace E := E.ext ex
 replace B1 := B1.ext ex
 replace B2 := B2.congr (show _ = bys (Fp.le 0 n ++ zbs 32) from rfl)
 refine wl_y (y_assign rfl) rfl ?_
 refine wl_nil ?_
 refine wq_then_norm (hK2 ?_)
 refine wc_seq ?_; intro K3 hK3
 refine wc_seq ?_; intro K4 hK4
 refine wc_region ?_
 refine wl_y (y_move rfl) rfl ?_
 refine wl_y (y_len_slice rfl Tryz.underlying23) rfl ?_
 refine wl_y (y_move rfl) rfl ?_
 refine wl_nil ?_
 refine wq_then_norm (hK4 ?_)
 refine wc_block ?_
 refine wc_loop (fun n' L wr => ∃ (i : Nat), L = [(1, .pointer (some ⟨g1, 0, none⟩)), (3, .slice (some ⟨g2, 0, none⟩) 32 32), (7, .int .i64 32), (8, .int .i64 (i : Int))] ∧ n' = 32 - i ∧ (i ≤ 32 ∧ Ext w wr ∧ Blk wr g1 142 (ws (Sc.wd n)) ∧ Blk wr g2 5 (bys (Fp.le i n ++ zbs (32 - i))))) _ _ ⟨0, rfl, rfl, by omega, E, B1, B2⟩ ⟨rfl, rfl, (by first | rfl | exact congrArg some (int_val (by omega))), (by first | rfl | exact congrArg some (int_val (by omega))), trivial⟩ ?_
 rintro KL1 n' L wr ⟨i, rfl, rfl, hi, E, B1, B2⟩ hL1
 refine wc_seq ?_; intro K5 hK5
 refine wc_region ?_
 refine wl_y (y_lss rfl rfl) rfl ?_
 refine wl_nil ?_
 refine wq_then_norm (hK5 ?_)
 refine wc_seq ?_; intro K6 hK6
 refine wc_dec rfl (fun hc1 => ?_) (fun hc1 => ?_)
 ·skip
  refine wc_skip ?_
  refine wq_then_norm (hK6 ?_)
  refine wc_seq ?_; intro K7 hK7
  refine wc_block ?_
  refine wc_seq ?_; intro K8 hK8
  refine wc_region ?_
  refine wl_y (y_move rfl) rfl ?_
  refine wl_y (y_assign rfl) rfl ?_
  refine wl_nil ?_
  refine wq_then_norm (hK8 ?_)
  have hxd := Nat.lt_of_le_of_lt (Nat.div_le_self (Sc.wd n (i / 8)) (2 ^ (i % 8 * 8))) (Sc.wd_lt n (i / 8))
  have hby := Sc.byte_at n i (by omega)
  refine wc_region ?_
  refine wl_y (y_move rfl) rfl ?_
  refine wl_y (y_move rfl) rfl ?_
  refine wl_y (y_move rfl) rfl ?_
  refine wl_y (y_quo rfl rfl (by omega) (show IntKind.i64.wrap ((i : Int).tdiv 8) = ((i / 8 : Nat) : Int) from i64_nat rfl (by omega))) rfl ?_
  refine wl_y (y_fieldAddr (o := 0) (s := 4) (off := 0) (o' := 0) rfl Tryz.underlying142 rfl (by kernel_rfl) rfl rfl) rfl ?_
  refine wl_y (y_ixa1 rfl rfl Tryz.underlying140 (by kernel_rfl) (j := i / 8) rfl (by omega)) rfl ?_
  refine wl_y (y_load1 rfl Tryz.underlying38 rfl (B1.get (ws_get _ (Nat.zero_add _) (by omega)))) rfl ?_
  refine wl_y (y_move rfl) rfl ?_
  refine wl_y (y_rem rfl rfl (by omega) (show ((i : Int).tmod 8) = ((i % 8 : Nat) : Int) from rfl)) rfl ?_
  refine wl_y (y_mul rfl rfl (i64_nat (n := i % 8 * 8) (by omega) (by omega))) rfl ?_
  refine wl_y (y_shr rfl rfl (by omega) (shr6 _ _ (by omega))) rfl ?_
  refine wl_y (y_conv rfl Tryz.underlying38 Tryz.underlying5 (show IntKind.u8.wrap ((Sc.wd n (i / 8) / 2 ^ (i % 8 * 8) : Nat) : Int) = ((UInt8.ofNat (n / 256 ^ i % 256)).toNat : Int) by rw [IntKind.wrap_u8', UInt8.toNat_ofNat', ← hby]; omega)) rfl ?_
  refine wl_y (y_ixs1 rfl rfl Tryz.underlying23 (by kernel_rfl) rfl (by omega)) rfl ?_
  refine wl_ef (ef_storeB rfl rfl rfl (by kernel_rfl) B2 (by rw [bys_size, List.length_append, Fp.le_length]; simp [zbs]; omega)) rfl ?_
  rintro _ w3 ⟨rfl, D2, cg⟩
  rw [Nat.zero_add, bys_fill (m' := 31 - i) (by rw [Fp.le_length]) (by omega), ← le_more] at D2; replace E := E.chg cg (by omega); replace B1 := B1.chg cg (by omega); replace B2 := D2.congr (show _ = bys (Fp.le (i + 1) n ++ zbs (32 - (i + 1))) by rw [show 32 - (i + 1) = 31 - i by omega])
  refine wl_nil ?_
  refine wq_blk_norm ?_
  refine wq_then_norm (hK7 ?_)
  refine wc_region ?_
  refine wl_y (y_add rfl rfl (i64_ok (by omega) (by omega))) rfl ?_
  refine wl_y (y_move rfl) rfl ?_
  refine wl_nil ?_
  refine wq_then_norm ?_
  refine hL1 _ _ ⟨i + 1, rfl, rfl, by omega, E, B1, B2⟩ (by omega) ⟨rfl, rfl, (by first | rfl | exact congrArg some (int_val (by omega))), (by first | rfl | exact congrArg some (int_val (by omega))), trivial⟩
 ·skip
  refine wc_exit ?_
  refine wq_then_exit ?_
  refine wq_then_exit ?_
  refine wq_blk_hit ?_
  refine wq_then_norm (hK3 ?_)
  refine wc_seq ?_; intro K9 hK9
  refine wc_region ?_
  refine wl_y (y_move rfl) rfl ?_
  refine wl_y (y_assign rfl) rfl ?_
  refine wl_nil ?_
  refine wq_then_norm (hK9 ?_)
  refine wc_ret ?_
  refine hret rfl ?_
  obtain rfl : i = 32 := by omega
  exact ⟨g2, rfl, by omega, B2.congr (by simp [zbs]), E⟩
theorem Sexact_any (A : Option Addr) (n c : Nat) (xs : List UInt8) (w : World) (HA : Bs w A n xs) (hn : n ≤ 1000000) :
  Calls Tryz.prog 140 #[.slice A n c] w fun e w' => ∃ v, e = .returned (.tuple #[.agg (ws (Sc.wd v)), .bool (decide (xs.length = 32 ∧ Fp.num xs < Sc.L))]) ∧ (xs.length = 32 ∧ Fp.num xs < Sc.L → v = Fp.num xs) ∧ v < Sc.L ∧ Ext w w' := by
 have hl := HA.1
 have hLp := Sc.L_pos
 have hz0 : ws z4 = ws (Sc.wd 0) := ws_congr fun j _ => by unfold z4 Sc.wd; simp
 refine vc_enterct (s := 4) 33 Tryz.func140 rfl rfl rfl Tryz.underlying142 rfl (by kernel_rfl) rfl ?_
 intro Q hret
 refine wc_seq ?_; intro K1 hK1
 refine wc_region ?_
 refine wl_ef (ef_alloc (Z := ws z4) (by kernel_rfl)) rfl ?_
 rintro _ w1 ⟨g2, rfl, B2, hg2, ex⟩
 have E := ex; have hl2 := B2.lt
 refine wl_y (y_assign rfl) rfl ?_
 refine wl_nil ?_
 refine wq_then_norm (hK1 ?_)
 refine wc_seq ?_; intro K2 hK2
 refine wc_seq ?_; intro K3 hK3
 refine wc_region ?_
 refine wl_y (y_move rfl) rfl ?_
 refine wl_y (y_len_slice rfl Tryz.underlying23) rfl ?_
 refine wl_y (y_neq rfl rfl) rfl ?_
 refine wl_nil ?_
 refine wq_then_norm (hK3 ?_)
 refine wc_dec rfl (fun hc1 => ?_) (fun hc1 => ?_)
 ·skip
  refine wc_seq ?_; intro K4 hK4
  refine wc_region ?_
  refine wl_y (y_build rfl (cells := ws z4) (by kernel_rfl)) rfl ?_
  refine wl_ef (ef_storeW rfl rfl (by rw [ws_size]; kernel_rfl) B2 (by simp only [ws_size]) (ws_one _)) rfl ?_
  rintro _ w3 ⟨rfl, D2, cg⟩
  replace E := E.chg cg hg2; rw [hz0] at D2
  refine wl_y (y_assign rfl) rfl ?_
  refine wl_nil ?_
  refine wq_then_norm (hK4 ?_)
  refine wc_ret ?_
  refine wq_then_ret ?_
  refine hret rfl rfl D2 (ws_size _) ?_
  exact ⟨0, by rw [decide_eq_false (show ¬ (xs.length = 32 ∧ Fp.num xs < Sc.L) from fun h => by omega)], fun h => by omega, hLp, E⟩
 ·skip
  refine wc_skip ?_
  refine wq_then_norm (hK2 ?_)
  refine wc_seq ?_; intro K5 hK5
  have h32 : xs.length = 32 := by omega
  have hN := Fp.num_lt xs
  rw [h32, show (256 : Nat) ^ 32 = Sc.W ^ 4 by decide +kernel] at hN
  have hbor := Sc.bor_all hN Sc.L_lt
  have hz := E.size
  refine wc_region ?_
  refine wl_ef (ef_alloc (Z := ws z4) (by kernel_rfl)) rfl ?_
  rintro _ w4 ⟨g4, rfl, B4, hg4, ex⟩
  replace E := E.ext ex
  replace B2 := B2.ext ex
  rw [Sc.sofar_zero (Fp.num xs)] at B4
  refine wl_nil ?_
  refine wq_then_norm (hK5 ?_)
  refine wc_seq ?_; intro K6 hK6
  refine wc_seq ?_; intro K7 hK7
  refine wc_region ?_
  refine wl_y (y_move rfl) rfl ?_
  refine wl_nil ?_
  refine wq_then_norm (hK7 ?_)
  refine wc_block ?_
  refine wc_loop (fun n' L wr => ∃ (i : Nat), L = [(0, .slice A n c), (2, .pointer (some ⟨g2, 0, none⟩)), (4, .pointer (some ⟨g4, 0, none⟩)), (12, .int .i64 (i : Int))] ∧ n' = 4 - i ∧ (i ≤ 4 ∧ Ext w wr ∧ Blk wr g2 142 (ws z4) ∧ Blk wr g4 140 (ws (Sc.sofar (Fp.num xs) i)))) _ _ ⟨0, rfl, rfl, by omega, E, B2, B4⟩ ⟨rfl, rfl, rfl, (by first | rfl | exact congrArg some (int_val (by omega))), trivial⟩ ?_
  rintro KL1 n' L wr ⟨i, rfl, rfl, hi, E, B2, B4⟩ hL1
  refine wc_seq ?_; intro K8 hK8
  refine wc_region ?_
  refine wl_y (y_lss rfl rfl) rfl ?_
  refine wl_nil ?_
  refine wq_then_norm (hK8 ?_)
  refine wc_seq ?_; intro K9 hK9
  refine wc_dec rfl (fun hc2 => ?_) (fun hc2 => ?_)
  ·skip
   refine wc_skip ?_
   refine wq_then_norm (hK9 ?_)
   refine wc_seq ?_; intro K10 hK10
   refine wc_block ?_
   refine wc_seq ?_; intro K11 hK11
   refine wc_region ?_
   refine wl_y (y_move rfl) rfl ?_
   refine wl_y (y_assign rfl) rfl ?_
   refine wl_nil ?_
   refine wq_then_norm (hK11 ?_)
   refine wc_region ?_
   refine wl_y (y_move rfl) rfl ?_
   refine wl_y (y_move rfl) rfl ?_
   refine wl_y (y_move rfl) rfl ?_
   refine wl_y (y_mul rfl rfl (i64_nat (n := 8 * i) (by omega) (by omega))) rfl ?_
   refine wl_call Tryz.func206 rfl rfl rfl (sword_any A n c i xs _ (HA.ext E) (by omega) hn) rfl ?_
   rintro e w5 ⟨rfl, ex⟩
   refine ⟨_, rfl, ?_⟩
   replace E := E.ext ex
   replace B2 := B2.ext ex
   replace B4 := B4.ext ex
   skip
   refine wl_y (y_ixa1 rfl rfl Tryz.underlying140 (by kernel_rfl) rfl (by omega)) rfl ?_
   refine wl_ef (ef_storeB rfl rfl rfl (by kernel_rfl) B4 (by rw [ws_size]; omega)) rfl ?_
   rintro _ w6 ⟨rfl, D4, cg⟩
   rw [Sc.sofar_succ rfl] at D4; replace E := E.chg cg (by omega); replace B2 := B2.chg cg (by omega); replace B4 := D4
   refine wl_nil ?_
   refine wq_blk_norm ?_
   refine wq_then_norm (hK10 ?_)
   refine wc_region ?_
   refine wl_y (y_add rfl rfl (i64_ok (by omega) (by omega))) rfl ?_
   refine wl_y (y_move rfl) rfl ?_
   refine wl_nil ?_
   refine wq_then_norm ?_
   refine hL1 _ _ ⟨i + 1, rfl, rfl, by omega, E, B2, B4⟩ (by omega) ⟨rfl, rfl, rfl, (by first | rfl | exact congrArg some (int_val (by omega))), trivial⟩
  ·skip
   refine wc_exit ?_
   refine wq_then_exit ?_
   refine wq_then_exit ?_
   refine wq_blk_hit ?_
   refine wq_then_norm (hK6 ?_)
   refine wc_seq ?_; intro K12 hK12
   refine wc_seq ?_; intro K13 hK13
   obtain rfl : i = 4 := by omega
   rw [Sc.sofar_all] at B4
   refine wc_drawB (by kernel_rfl) 9 rfl ?_; intro wd9 ex hd9
   replace E := E.ext ex
   replace B2 := B2.ext ex
   replace B4 := B4.ext ex
   have E_0 := E
   have B2_0 := B2
   have B4_0 := B4
   have X0 := Ext.refl wd9
   refine wn_y 0 rfl (by kernel_rfl) ((y_loadw rfl Tryz.underlying140 rfl (by rw [ws_size]; kernel_rfl) B4_0)) rfl ?_
   refine wf_start (fl := [flA 6 6 140 (ws z4)]) rfl ?_
   refine wf_call (j := 1) (dst := some 24) ⟨(fall (flA_runs rfl (by kernel_rfl)) fall_nil), by decide, by decide, (fall (⟨rfl, by decide⟩) fall_nil), (fall (mem_of_has (by kernel_rfl)) fall_nil)⟩ (by kernel_rfl) (fall (by decide) fall_nil) rfl Tryz.func208 rfl rfl rfl (fall (by decide) fall_nil) rfl ?_
   intro wf9_1 ex exb
   replace E := E.ext ex
   replace B2 := B2.ext ex
   replace B4 := B4.ext ex
   replace X0 := X0.ext ex
   refine ⟨_, (sorder_any _), ?_⟩
   rintro e w7 ⟨rfl, ex⟩
   refine ⟨_, rfl, ex, ?_⟩
   replace E := E.ext ex
   replace B2 := B2.ext ex
   replace B4 := B4.ext ex
   replace X0 := X0.ext ex
   refine wf_call (j := 2) (dst := some 25) ⟨(fall (flA_runs rfl (by kernel_rfl)) fall_nil), by decide, by decide, (fall (⟨rfl, by decide⟩) fall_nil), (fall (mem_of_has (by kernel_rfl)) fall_nil)⟩ (by kernel_rfl) (fall (by decide) fall_nil) rfl Tryz.func207 rfl rfl rfl (fall (by decide) fall_nil) rfl ?_
   intro wf9_2 ex exb
   replace E := E.ext ex
   replace B2 := B2.ext ex
   replace B4 := B4.ext ex
   replace X0 := X0.ext ex
   refine ⟨_, (ssub_any (Fp.num xs) Sc.L _ (by have := Sc.L_lt; omega)), ?_⟩
   rintro e w8 ⟨rfl, ex⟩
   refine ⟨_, rfl, ex, ?_⟩
   replace E := E.ext ex
   replace B2 := B2.ext ex
   replace B4 := B4.ext ex
   replace X0 := X0.ext ex
   rw [hbor]
   refine wf_y (dst := some 22) 3 rfl (by kernel_rfl) (y_move rfl) rfl (fall (by decide) fall_nil) ?_
   refine wf_y (dst := some 26) 4 rfl (by kernel_rfl) (y_extract rfl rfl) rfl (fall (by decide) fall_nil) ?_
   refine wf_y (dst := some 27) 5 rfl (by kernel_rfl) (y_extract rfl rfl) rfl (fall (by decide) fall_nil) ?_
   refine wf_land1 ⟨(fall (flA_runs rfl (by kernel_rfl)) fall_nil), by decide, by decide, (fall (⟨rfl, by decide⟩) fall_nil), (fall (mem_of_has (by kernel_rfl)) fall_nil)⟩ (by kernel_rfl) ?_
   rintro _ wl9 ex ⟨⟨g6, rfl, Bg6⟩, hg6⟩
   replace hg6 := hg6 g6 rfl
   replace E := E.ext ex
   replace B2 := B2.ext ex
   replace B4 := B4.ext ex
   replace X0 := X0.ext ex
   refine wn_one 7 (by kernel_rfl) ?_
   refine on_ef rfl (ef_storeW rfl rfl (by rw [ws_size]; kernel_rfl) Bg6 (by rw [ws_size, ws_size]) (ws_one _)) rfl ?_
   rintro _ wn9_7 ⟨rfl, Bg6, cg⟩
   replace X0 := X0.chg cg hg6
   refine ⟨X0, ?_⟩
   replace E := E_0.ext X0
   replace B2 := B2_0.ext X0
   replace B4 := B4_0.ext X0
   refine wn_y 8 rfl (by kernel_rfl) (y_assign rfl) rfl ?_
   refine wn_done (by kernel_rfl) ?_
   refine wq_nop ?_
   refine wq_then_norm (hK13 ?_)
   refine wc_seq ?_; intro K14 hK14
   refine wc_region ?_
   refine wl_y (y_move rfl) rfl ?_
   refine wl_y (y_eql rfl rfl) rfl ?_
   refine wl_nil ?_
   refine wq_then_norm (hK14 ?_)
   refine wc_dec rfl (fun hc3 => ?_) (fun hc3 => ?_)
   ·skip
    refine wc_seq ?_; intro K15 hK15
    have hge : ¬ Fp.num xs < Sc.L := fun h => by rw [if_pos h] at hc3; exact absurd hc3 (by decide)
    refine wc_region ?_
    refine wl_y (y_build rfl (cells := ws z4) (by kernel_rfl)) rfl ?_
    refine wl_ef (ef_storeW rfl rfl (by rw [ws_size]; kernel_rfl) B2 (by simp only [ws_size]) (ws_one _)) rfl ?_
    rintro _ w9 ⟨rfl, D2, cg⟩
    replace E := E.chg cg hg2; rw [hz0] at D2
    refine wl_y (y_assign rfl) rfl ?_
    refine wl_nil ?_
    refine wq_then_norm (hK15 ?_)
    refine wc_ret ?_
    refine wq_then_ret ?_
    refine hret rfl rfl D2 (ws_size _) ?_
    exact ⟨0, by rw [decide_eq_false (show ¬ (xs.length = 32 ∧ Fp.num xs < Sc.L) from fun h => hge h.2)], fun h => absurd h.2 hge, hLp, E⟩
   ·skip
    refine wc_skip ?_
    refine wq_then_norm (hK12 ?_)
    refine wc_seq ?_; intro K16 hK16
    have hlt : Fp.num xs < Sc.L := Classical.byContradiction fun h => by rw [if_neg h] at hc3; exact absurd rfl hc3
    refine wc_region ?_
    refine wl_y ((y_loadw rfl Tryz.underlying140 rfl (by rw [ws_size]; kernel_rfl) B4)) rfl ?_
    refine wl_y (y_build rfl (cells := ws (Sc.wd (Fp.num xs))) (by kernel_rfl)) rfl ?_
    refine wl_ef (ef_storeW rfl rfl (by rw [ws_size]; kernel_rfl) B2 (by rw [ws_size, ws_size]) (ws_one _)) rfl ?_
    rintro _ w9 ⟨rfl, D2, cg⟩
    replace E := E.chg cg hg2
    refine wl_y (y_assign rfl) rfl ?_
    refine wl_nil ?_
    refine wq_then_norm (hK16 ?_)
    refine wc_ret ?_
    refine hret rfl rfl D2 (ws_size _) ?_
    exact ⟨Fp.num xs, by rw [decide_eq_true ⟨h32, hlt⟩], fun _ => rfl, hlt, E⟩
end
end Go.Proofs.YtjllhimhiekchaaGreat
