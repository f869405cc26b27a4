/- The long digest: turns, constants, words of a block. The long digest: a block goes into a state. -/
import Derived.Test.YtjllhimhiekchaaGreatLongQ
import Derived.Test.YtjllhimhiekchaaGreatOffA
import Derived.Test.YtjllhimhiekchaaGreatBigC
namespace Go.Proofs.YtjllhimhiekchaaGreat
section
open Go.RowKit
attribute [local irreducible] Y Ef WL WC WK WQ WM OpM WN WF OpN
theorem and63c (n : Nat) (h1 : 1 ≤ n) (h2 : n ≤ 63) : bits .and .u64 ((18446744073709551616 - n : Nat) : Int) 63 = ((64 - n : Nat) : Int) := by
 have h := u64_and_nat (18446744073709551616 - n) 63 (by omega) (by omega)
 rw [show ((63 : Nat) : Int) = 63 from rfl] at h
 rw [h, show (63 : Nat) = 2 ^ 6 - 1 from rfl, Nat.and_two_pow_sub_one_eq_mod]
 congr 1
 omega
theorem min64 (k : Nat) (h : k ≤ 64) : min ((k : Int)).toNat IntKind.u64.bits = k := by show min k 64 = k; omega
theorem shl64 (x k : Nat) (h : k ≤ 64) : IntKind.u64.wrap ((x : Int) * 2 ^ (min ((k : Int)).toNat IntKind.u64.bits)) = ((x * 2 ^ k % 18446744073709551616 : Nat) : Int) := by
 rw [min64 k h]
 show ((x : Int) * 2 ^ k) % 18446744073709551616 = _
 rw [Int.natCast_emod, Int.natCast_mul, Int.natCast_pow]; rfl
theorem shr64 (x k : Nat) (h : k ≤ 64) : (x : Int) / 2 ^ (min ((k : Int)).toNat IntKind.u64.bits) = ((x / 2 ^ k : Nat) : Int) := by
 rw [min64 k h, Int.natCast_ediv, Int.natCast_pow]; rfl
theorem lrot_any (x n : Nat) (w : World) (hx : x < 18446744073709551616) (h1 : 1 ≤ n) (h2 : n ≤ 63) :
  Calls Tryz.prog 271 #[.int .u64 (x : Int), .int .i64 (-(n : Int))] w fun e w' => e = .returned (.int .u64 ((Lng.rotr x n : Nat) : Int)) ∧ Ext w w' := by
 have E := Ext.refl w
 refine vc_enter1 17 Tryz.func271 rfl rfl rfl rfl ?_
 intro Q hret
 refine wc_seq ?_; intro K1 hK1
 refine wc_region ?_
 refine wl_y (y_assign rfl) rfl ?_
 refine wl_nil ?_
 refine wq_then_norm (hK1 ?_)
 refine wc_seq ?_; intro K2 hK2
 refine wc_region ?_
 refine wl_y (y_move rfl) rfl ?_
 refine wl_y (y_conv rfl Tryz.underlying3 Tryz.underlying246 (show IntKind.u64.wrap (-(n : Int)) = ((18446744073709551616 - n : Nat) : Int) from by show (-(n : Int)) % 18446744073709551616 = _; omega)) rfl ?_
 refine wl_y (y_and rfl rfl (and63c n h1 h2)) rfl ?_
 refine wl_y (y_assign rfl) rfl ?_
 refine wl_nil ?_
 refine wq_then_norm (hK2 ?_)
 refine wc_seq ?_; intro K3 hK3
 refine wc_region ?_
 refine wl_y (y_move rfl) rfl ?_
 refine wl_y (y_move rfl) rfl ?_
 refine wl_y (y_shl rfl rfl (by omega) (shl64 x (64 - n) (by omega))) rfl ?_
 refine wl_y (y_move rfl) rfl ?_
 refine wl_y (y_move rfl) rfl ?_
 refine wl_y (y_sub rfl rfl (u64_nat (n := n) (by omega) (by omega))) rfl ?_
 refine wl_y (y_shr rfl rfl (by omega) (shr64 x n (by omega))) rfl ?_
 refine wl_y (y_or rfl rfl (show _ = ((Lng.rotr x n : Nat) : Int) from by rw [u64_or_nat _ _ (Nat.mod_lt _ (by omega)) (Nat.lt_of_le_of_lt (Nat.div_le_self _ _) hx), Lng.rotr_or hx (by omega)])) rfl ?_
 refine wl_y (y_assign rfl) rfl ?_
 refine wl_nil ?_
 refine wq_then_norm (hK3 ?_)
 refine wc_ret ?_
 refine hret rfl ?_
 exact ⟨rfl, E⟩
theorem lright_any (x n : Nat) (w : World) (hx : x < 18446744073709551616) (h1 : 1 ≤ n) (h2 : n ≤ 63) :
  Calls Tryz.prog 263 #[.int .u64 (x : Int), .int .i64 (n : Int)] w fun e w' => e = .returned (.int .u64 ((Lng.rotr x n : Nat) : Int)) ∧ Ext w w' := by
 have E := Ext.refl w
 refine vc_enter1 9 Tryz.func263 rfl rfl rfl rfl ?_
 intro Q hret
 refine wc_seq ?_; intro K1 hK1
 refine wc_region ?_
 refine wl_y (y_assign rfl) rfl ?_
 refine wl_nil ?_
 refine wq_then_norm (hK1 ?_)
 refine wc_seq ?_; intro K2 hK2
 refine wc_region ?_
 refine wl_y (y_move rfl) rfl ?_
 refine wl_y (y_move rfl) rfl ?_
 refine wl_y (y_neg rfl (show IntKind.i64.wrap (0 - (n : Int)) = -(n : Int) from by rw [i64_ok (by omega) (by omega)]; omega)) rfl ?_
 refine wl_call Tryz.func271 rfl rfl rfl (lrot_any x n _ hx h1 h2) rfl ?_
 rintro e w1 ⟨rfl, ex⟩
 refine ⟨_, rfl, ?_⟩
 replace E := E.ext ex
 skip
 refine wl_y (y_assign rfl) rfl ?_
 refine wl_nil ?_
 refine wq_then_norm (hK2 ?_)
 refine wc_ret ?_
 refine hret rfl ?_
 exact ⟨rfl, E⟩
theorem lbegin_any (w : World) : Calls Tryz.prog 246 #[] w fun e w' => e = .returned (.agg (nums .u64 Lng.H0)) ∧ Ext w w' := by
 refine vc_enterc1 (s := 8) 2 Tryz.func246 rfl rfl rfl Tryz.underlying284 rfl (by kernel_rfl) rfl ?_
 intro Q hret
 refine wc_seq ?_; intro K1 hK1
 refine wc_region ?_
 refine wl_ef (ef_alloc (Z := nums .u64 (zrs 8)) (by kernel_rfl)) rfl ?_
 rintro _ w1 ⟨g1, rfl, B1, hg1, ex⟩
 have E1 := ex
 refine wl_nil ?_
 refine wq_then_norm (hK1 ?_)
 refine wc_seq ?_; intro K2 hK2
 refine wc_region ?_
 refine wl_y (y_build rfl (cells := nums .u64 Lng.H0) (by kernel_rfl)) rfl ?_
 refine wl_ef (ef_storeW rfl rfl (by kernel_rfl) B1 rfl (nums_one _ _)) rfl ?_
 rintro _ w2 ⟨rfl, B2, cg⟩
 have E2 := E1.chg cg hg1
 refine wl_nil ?_
 refine wq_then_norm (hK2 ?_)
 refine wc_ret ?_
 refine hret rfl B2 (by rw [nums_size]; rfl) ?_
 exact ⟨rfl, E2⟩
set_option maxRecDepth 100000 in
theorem lconst_any (w : World) : Calls Tryz.prog 247 #[] w fun e w' => e = .returned (.agg (nums .u64 Lng.K)) ∧ Ext w w' := by
 refine vc_enterc1 (s := 80) 2 Tryz.func247 rfl rfl rfl Tryz.underlying286 rfl (by kernel_rfl) rfl ?_
 intro Q hret
 refine wc_seq ?_; intro K1 hK1
 refine wc_region ?_
 refine wl_ef (ef_alloc (Z := nums .u64 (zrs 80)) (by kernel_rfl)) rfl ?_
 rintro _ w1 ⟨g1, rfl, B1, hg1, ex⟩
 have E1 := ex
 refine wl_nil ?_
 refine wq_then_norm (hK1 ?_)
 refine wc_seq ?_; intro K2 hK2
 refine wc_region ?_
 refine wl_y (y_build rfl (cells := nums .u64 Lng.K) (by kernel_rfl)) rfl ?_
 refine wl_ef (ef_storeW rfl rfl (by kernel_rfl) B1 rfl (nums_one _ _)) rfl ?_
 rintro _ w2 ⟨rfl, B2, cg⟩
 have E2 := E1.chg cg hg1
 refine wl_nil ?_
 refine wq_then_norm (hK2 ?_)
 refine wc_ret ?_
 refine hret rfl B2 (by rw [nums_size]; rfl) ?_
 exact ⟨rfl, E2⟩
theorem u64w (z : Int) : IntKind.u64.wrap z = z % 18446744073709551616 := rfl
theorem lxor3 (a b c : Nat) (ha : a < 18446744073709551616) (hb : b < 18446744073709551616) (hc : c < 18446744073709551616) : bits .xor .u64 (bits .xor .u64 (a : Int) (b : Int)) (c : Int) = (((a ^^^ b) ^^^ c : Nat) : Int) := by
 rw [u64_xor_nat _ _ ha hb, u64_xor_nat _ _ (Lng.xor_lt ha hb) hc]
theorem row_get (l r : List Nat) {j : Nat} (h : j < l.length) : (nums .u64 (l ++ r))[0 + j]? = some (.int .u64 ((l.getD j 0 : Nat) : Int)) := by
 rw [Nat.zero_add, nums_get .u64 (l ++ r) j (by rw [List.length_append]; omega)]
 have e : (l ++ r).getD j 0 = l.getD j 0 := by rw [List.getD_eq_getElem?_getD, List.getElem?_append_left h, List.getD_eq_getElem?_getD]
 rw [e]
theorem row_at (l r : List Nat) (x : Nat) {j : Nat} (h : j = l.length) : (nums .u64 (l ++ x :: r))[0 + j]? = some (.int .u64 ((x : Nat) : Int)) := by
 subst h
 rw [Nat.zero_add, nums_get .u64 (l ++ x :: r) _ (by rw [List.length_append, List.length_cons]; omega)]
 congr 4
 simp
theorem row_put (l r : List Nat) (x y : Nat) {j : Nat} (h : j = l.length) : (nums .u64 (l ++ x :: r)).setIfInBounds (0 + j) (.int .u64 ((y : Nat) : Int)) = nums .u64 (l ++ y :: r) := by
 subst h
 rw [Nat.zero_add, nums_set]
 congr 1
 simp
theorem zrow {n k : Nat} (h : k < n) : List.replicate (n - k) 0 = 0 :: List.replicate (n - 1 - k) 0 := by
 rw [show n - k = (n - 1 - k) + 1 from by omega, List.replicate_succ]
theorem lor8 (a b : Nat) (ha : 256 * a + b < 18446744073709551616) (hb : b < 256) : bits .or .u64 ((a * 2 ^ 8 % 18446744073709551616 : Nat) : Int) ((b : Nat) : Int) = ((256 * a + b : Nat) : Int) := by
 rw [u64_or_nat _ _ (Nat.mod_lt _ (by omega)) (by omega), Nat.mod_eq_of_lt (by omega)]
 congr 1
 rw [nat_join 8 _ b (by omega) (by omega)]; omega
theorem be8_word (xs : List UInt8) (t i : Nat) (h : i < 8) (hl : 8 * t + 8 ≤ xs.length) : ((xs.drop (8 * t)).take 8).getD i 0 = xs.getD (8 * t + i) 0 := by
 simp [List.getD_eq_getElem?_getD, List.getElem?_take, List.getElem?_drop, h]
theorem lwords_any (A : Option Addr) (c : Nat) (xs : List UInt8) (w : World) (HA : Bs w A 128 xs) (hc : 128 ≤ c) (hc2 : c ≤ 9223372036854775807) :
  Calls Tryz.prog 262 #[.slice A 128 c] w fun e w' => e = .returned (.agg (nums .u64 (Lng.words xs))) ∧ Ext w w' := by
 have hxl := HA.1
 refine vc_enterc1 (s := 80) 78 Tryz.func262 rfl rfl rfl Tryz.underlying286 rfl (by kernel_rfl) rfl ?_
 intro Q hret
 refine wc_seq ?_; intro K1 hK1
 refine wc_region ?_
 refine wl_ef (ef_alloc (Z := nums .u64 (zrs 80)) (by kernel_rfl)) rfl ?_
 rintro _ w1 ⟨g2, rfl, B2, hg2, ex⟩
 have E1 := ex
 refine wl_nil ?_
 refine wq_then_norm (hK1 ?_)
 refine wc_seq ?_; intro K2 hK2
 refine wc_region ?_
 refine wl_ef (ef_alloc (Z := nums .u64 (zrs 80)) (by kernel_rfl)) rfl ?_
 rintro _ w2 ⟨g3, rfl, B3, hg3, ex⟩
 have E2 := E1.ext ex; have C2 := B2.ext ex; have hg3w := Nat.le_trans E1.size hg3; have hne : g2 < g3 := Nat.lt_of_lt_of_le B2.lt hg3
 refine wl_nil ?_
 refine wq_then_norm (hK2 ?_)
 refine wc_seq ?_; intro K3 hK3
 refine wc_seq ?_; intro K4 hK4
 refine wc_region ?_
 refine wl_y (y_move rfl) rfl ?_
 refine wl_nil ?_
 refine wq_then_norm (hK4 ?_)
 refine wc_block ?_
 refine wc_loop (fun n' L wr => ∃ t : Nat, L = [(0, .slice A 128 c), (2, .pointer (some ⟨g2, 0, none⟩)), (3, .pointer (some ⟨g3, 0, none⟩)), (10, .int .i64 (t : Int))] ∧ n' = 16 - t ∧ (t ≤ 16 ∧ Ext w wr ∧ Blk wr g2 286 (nums .u64 (zrs 80)) ∧ Blk wr g3 286 (nums .u64 (Lng.w16 xs t ++ List.replicate (80 - t) 0)))) _ _ ⟨0, rfl, rfl, by omega, E2, C2, B3⟩ ⟨rfl, rfl, rfl, (by first | rfl | exact congrArg some (int_val (by omega))), trivial⟩ ?_
 rintro KL1 n' L wr ⟨t, rfl, rfl, ht, E, C2, D3⟩ hL1
 refine wc_seq ?_; intro K5 hK5
 refine wc_region ?_
 refine wl_y (y_lss rfl rfl) rfl ?_
 refine wl_nil ?_
 refine wq_then_norm (hK5 ?_)
 refine wc_seq ?_; intro K6 hK6
 refine wc_dec rfl (fun hc1 => ?_) (fun hc1 => ?_)
 ·skip
  refine wc_skip ?_
  refine wq_then_norm (hK6 ?_)
  refine wc_seq ?_; intro K7 hK7
  refine wc_block ?_
  refine wc_seq ?_; intro K8 hK8
  refine wc_region ?_
  refine wl_y (y_move rfl) rfl ?_
  refine wl_y (y_assign rfl) rfl ?_
  refine wl_nil ?_
  refine wq_then_norm (hK8 ?_)
  refine wc_seq ?_; intro K9 hK9
  refine wc_region ?_
  refine wl_y (y_move rfl) rfl ?_
  refine wl_y (y_move rfl) rfl ?_
  refine wl_y (y_mul rfl rfl (i64_nat (n := 8 * t) (by omega) (by omega))) rfl ?_
  refine wl_y (y_move rfl) rfl ?_
  refine wl_y (y_mul rfl rfl (i64_nat (n := 8 * t) (by omega) (by omega))) rfl ?_
  refine wl_y (y_add rfl rfl (i64_nat (n := 8 * t + 8) (by omega) (by omega))) rfl ?_
  refine wl_y (y_cutlh (s := 1) rfl rfl rfl Tryz.underlying23 (by kernel_rfl) (j := 8 * t) (h := 8 * t + 8) rfl rfl (by omega) (by omega)) rfl ?_
  refine wl_y (Y.as (y_len_slice rfl Tryz.underlying23) (congrArg (Value.int .i64) (show (((8 * t + 8 - 8 * t : Nat)) : Int) = 8 from by omega))) rfl ?_
  refine wl_y (y_move rfl) rfl ?_
  refine wl_nil ?_
  refine wq_then_norm (hK9 ?_)
  refine wc_block ?_
  refine wc_loop (fun n' L wq => ∃ i : Nat, L = [(0, .slice A 128 c), (2, .pointer (some ⟨g2, 0, none⟩)), (3, .pointer (some ⟨g3, 0, none⟩)), (4, .int .i64 (t : Int)), (10, .int .i64 (t : Int)), (19, .slice (cutA A c (8 * t) 1) (8 * t + 8 - 8 * t) (c - 8 * t)), (20, .int .i64 8), (21, .int .i64 (i : Int))] ∧ n' = 8 - i ∧ (i ≤ 8 ∧ Ext w wq ∧ Blk wq g2 286 (nums .u64 (zrs 80)) ∧ Blk wq g3 286 (nums .u64 (Lng.w16 xs t ++ Lng.pre xs t i :: List.replicate (79 - t) 0)))) _ _ ⟨0, rfl, rfl, by omega, E, C2, (by rw [zrow (by omega)] at D3; exact D3)⟩ ⟨rfl, rfl, rfl, (by first | rfl | exact congrArg some (int_val (by omega))), (by first | rfl | exact congrArg some (int_val (by omega))), rfl, (by first | rfl | exact congrArg some (int_val (by omega))), (by first | rfl | exact congrArg some (int_val (by omega))), trivial⟩ ?_
  rintro KL2 n' L wq ⟨i, rfl, rfl, hi, F, C2, D3⟩ hL2
  refine wc_seq ?_; intro K10 hK10
  refine wc_region ?_
  refine wl_y (y_lss rfl rfl) rfl ?_
  refine wl_nil ?_
  refine wq_then_norm (hK10 ?_)
  refine wc_seq ?_; intro K11 hK11
  refine wc_dec rfl (fun hc2 => ?_) (fun hc2 => ?_)
  ·skip
   refine wc_skip ?_
   refine wq_then_norm (hK11 ?_)
   refine wc_seq ?_; intro K12 hK12
   refine wc_block ?_
   refine wc_seq ?_; intro K13 hK13
   have HW := ((HA.wk F).cutA (j := 8 * t) (by omega) hc).take (k := 8) (by omega)
   obtain ⟨b, off, x, hAc, hx, hcell⟩ := HW.byte (k := i) (by omega)
   have hxl2 := x.toNat_lt
   have hxe : x = xs.getD (8 * t + i) 0 := by rw [hx.out, be8_word xs t i (by omega) (by omega)]
   have hpl := Lng.pre_lt xs t i
   have hpp : 256 ^ i ≤ 72057594037927936 := Nat.pow_le_pow_right (n := 256) (by omega) (show i ≤ 7 by omega)
   have hwl := Lng.w16_length xs t
   refine wc_region ?_
   refine wl_y (y_ixs1 (show some (Value.slice (cutA A c (8 * t) 1) (8 * t + 8 - 8 * t) (c - 8 * t)) = some (Value.slice (some ⟨b, off, none⟩) (8 * t + 8 - 8 * t) (c - 8 * t)) from by rw [hAc]) rfl Tryz.underlying23 (by kernel_rfl) rfl (by omega)) rfl ?_
   refine wl_y (y_load1 rfl Tryz.underlying5 rfl hcell) rfl ?_
   refine wl_y (y_assign rfl) rfl ?_
   refine wl_nil ?_
   refine wq_then_norm (hK13 ?_)
   refine wc_region ?_
   refine wl_y (y_move rfl) rfl ?_
   refine wl_y (y_move rfl) rfl ?_
   refine wl_y (y_ixa1 rfl rfl Tryz.underlying286 (by kernel_rfl) rfl (by omega)) rfl ?_
   refine wl_y (y_load1 rfl Tryz.underlying38 rfl (D3.get (row_at _ _ _ hwl.symm))) rfl ?_
   refine wl_y (y_shl rfl rfl (by omega) (shl64 _ 8 (by omega))) rfl ?_
   refine wl_y (y_move rfl) rfl ?_
   refine wl_y (y_conv rfl Tryz.underlying5 Tryz.underlying38 (IntWalk.u64_in _ ⟨by omega, by omega⟩)) rfl ?_
   refine wl_y (y_or rfl rfl (lor8 _ _ (by omega) (by omega))) rfl ?_
   refine wl_y (y_ixa1 rfl rfl Tryz.underlying286 (by kernel_rfl) rfl (by omega)) rfl ?_
   refine wl_ef (ef_storeB rfl rfl rfl (by kernel_rfl) D3 (Array.getElem?_eq_some_iff.1 (row_at _ _ _ hwl.symm)).1) rfl ?_
   rintro _ w5 ⟨rfl, B5, cg⟩
   rw [row_put _ _ _ _ hwl.symm] at B5; have F5 := F.chg cg hg3w; have G2 := C2.chg cg (by omega)
   refine wl_nil ?_
   refine wq_blk_norm ?_
   refine wq_then_norm (hK12 ?_)
   refine wc_region ?_
   refine wl_y (y_add rfl rfl (i64_ok (by omega) (by omega))) rfl ?_
   refine wl_y (y_move rfl) rfl ?_
   refine wl_nil ?_
   refine wq_then_norm ?_
   refine hL2 _ _ ⟨i + 1, rfl, rfl, by omega, F5, G2, (by rw [Lng.pre, ← hxe]; exact B5)⟩ (by omega) ⟨rfl, rfl, rfl, (by first | rfl | exact congrArg some (int_val (by omega))), (by first | rfl | exact congrArg some (int_val (by omega))), rfl, (by first | rfl | exact congrArg some (int_val (by omega))), (by first | rfl | exact congrArg some (int_val (by omega))), trivial⟩
  ·skip
   refine wc_exit ?_
   refine wq_then_exit ?_
   refine wq_then_exit ?_
   refine wq_blk_hit ?_
   refine wq_blk_norm ?_
   refine wq_then_norm (hK7 ?_)
   obtain rfl : i = 8 := by omega
   refine wc_region ?_
   refine wl_y (y_add rfl rfl (i64_ok (by omega) (by omega))) rfl ?_
   refine wl_y (y_move rfl) rfl ?_
   refine wl_nil ?_
   refine wq_then_norm ?_
   refine hL1 _ _ ⟨t + 1, rfl, rfl, by omega, F, C2, (by show Blk _ _ _ (nums .u64 ((Lng.w16 xs t ++ [Lng.be8 xs t]) ++ _)); rw [List.append_assoc, show 80 - (t + 1) = 79 - t from by omega]; exact D3)⟩ (by omega) ⟨rfl, rfl, rfl, (by first | rfl | exact congrArg some (int_val (by omega))), trivial⟩
 ·skip
  refine wc_exit ?_
  refine wq_then_exit ?_
  refine wq_then_exit ?_
  refine wq_blk_hit ?_
  refine wq_then_norm (hK3 ?_)
  refine wc_seq ?_; intro K14 hK14
  refine wc_seq ?_; intro K15 hK15
  obtain rfl : t = 16 := by omega
  refine wc_region ?_
  refine wl_y (y_assign rfl) rfl ?_
  refine wl_nil ?_
  refine wq_then_norm (hK15 ?_)
  refine wc_block ?_
  refine wc_loop (fun n' L wr => ∃ t : Nat, L = [(2, .pointer (some ⟨g2, 0, none⟩)), (3, .pointer (some ⟨g3, 0, none⟩)), (7, .int .i64 (t : Int))] ∧ n' = 80 - t ∧ (16 ≤ t ∧ t ≤ 80 ∧ Ext w wr ∧ Blk wr g2 286 (nums .u64 (zrs 80)) ∧ Blk wr g3 286 (nums .u64 (Lng.wt xs t ++ List.replicate (80 - t) 0)))) _ _ ⟨16, rfl, rfl, by omega, by omega, E, C2, D3⟩ ⟨rfl, rfl, (by first | rfl | exact congrArg some (int_val (by omega))), trivial⟩ ?_
  rintro KL3 n' L wr ⟨t, rfl, rfl, ht0, ht, E, C2, D3⟩ hL3
  refine wc_seq ?_; intro K16 hK16
  refine wc_seq ?_; intro K17 hK17
  refine wc_region ?_
  refine wl_y (y_move rfl) rfl ?_
  refine wl_y (y_lss rfl rfl) rfl ?_
  refine wl_nil ?_
  refine wq_then_norm (hK17 ?_)
  refine wc_dec rfl (fun hc3 => ?_) (fun hc3 => ?_)
  ·skip
   refine wc_skip ?_
   refine wq_then_norm (hK16 ?_)
   refine wc_seq ?_; intro K18 hK18
   refine wc_block ?_
   refine wc_seq ?_; intro K19 hK19
   have hwl := Lng.wt_length xs t
   have hlt : ∀ j, (Lng.wt xs t).getD j 0 < 18446744073709551616 := Lng.getD_lt (Lng.wt_lt xs t)
   obtain ⟨v15, e15⟩ : ∃ v, v = (Lng.wt xs t).getD (t - 15) 0 := ⟨_, rfl⟩
   obtain ⟨v2, e2⟩ : ∃ v, v = (Lng.wt xs t).getD (t - 2) 0 := ⟨_, rfl⟩
   obtain ⟨v7, e7⟩ : ∃ v, v = (Lng.wt xs t).getD (t - 7) 0 := ⟨_, rfl⟩
   obtain ⟨v16, e16⟩ : ∃ v, v = (Lng.wt xs t).getD (t - 16) 0 := ⟨_, rfl⟩
   have l15 := hlt (t - 15); have l2 := hlt (t - 2); have l7 := hlt (t - 7); have l16 := hlt (t - 16)
   rw [← e15] at l15; rw [← e2] at l2; rw [← e7] at l7; rw [← e16] at l16
   refine wc_draw (by kernel_rfl) 10 rfl ?_; intro wd14 ex hd14
   replace E := E.ext ex
   replace C2 := C2.ext ex
   replace D3 := D3.ext ex
   refine wm_y 0 rfl (by kernel_rfl) (y_move rfl) rfl ?_
   refine wm_y 1 rfl (by kernel_rfl) (y_sub rfl rfl (i64_ok (by omega) (by omega))) rfl ?_
   refine wm_y 2 rfl (by kernel_rfl) (y_ixa1 rfl rfl Tryz.underlying286 (by kernel_rfl) (j := t - 15) (by omega) (by omega)) rfl ?_
   refine wm_y 3 rfl (by kernel_rfl) (y_load1 rfl Tryz.underlying38 rfl (D3.get (v := .int .u64 (v15 : Int)) (by rw [e15]; exact row_get _ _ (by omega)))) rfl ?_
   refine wm_y 4 rfl (by kernel_rfl) (y_move rfl) rfl ?_
   refine wm_y 5 rfl (by kernel_rfl) (y_sub rfl rfl (i64_ok (by omega) (by omega))) rfl ?_
   refine wm_y 6 rfl (by kernel_rfl) (y_ixa1 rfl rfl Tryz.underlying286 (by kernel_rfl) (j := t - 2) (by omega) (by omega)) rfl ?_
   refine wm_y 7 rfl (by kernel_rfl) (y_load1 rfl Tryz.underlying38 rfl (D3.get (v := .int .u64 (v2 : Int)) (by rw [e2]; exact row_get _ _ (by omega)))) rfl ?_
   refine wm_y 8 rfl (by kernel_rfl) (y_assign rfl) rfl ?_
   refine wm_y 9 rfl (by kernel_rfl) (y_assign rfl) rfl ?_
   refine wm_done (by kernel_rfl) ?_
   refine wq_nop ?_
   refine wq_then_norm (hK19 ?_)
   refine wc_draw (by kernel_rfl) 30 rfl ?_; intro wd15 ex hd15
   replace E := E.ext ex
   replace C2 := C2.ext ex
   replace D3 := D3.ext ex
   refine wm_z 0 rfl (by kernel_rfl) (fun _ => y_move rfl) rfl ?_
   refine wm_z 1 rfl (by kernel_rfl) (fun _ => y_move rfl) rfl ?_
   refine wm_z 3 rfl (by kernel_rfl) (fun _ => y_move rfl) rfl ?_
   refine wm_z 6 rfl (by kernel_rfl) (fun _ => y_move rfl) rfl ?_
   refine wm_z 7 rfl (by kernel_rfl) (fun _ => y_shr rfl rfl (by omega) (shr64 v2 6 (by omega))) rfl ?_
   refine wm_z 9 rfl (by kernel_rfl) (fun _ => y_move rfl) rfl ?_
   refine wm_z 10 rfl (by kernel_rfl) (fun _ => y_sub rfl rfl (i64_ok (by omega) (by omega))) rfl ?_
   refine wm_z 11 rfl (by kernel_rfl) (fun _ => y_ixa1 rfl rfl Tryz.underlying286 (by kernel_rfl) (j := t - 7) (by omega) (by omega)) rfl ?_
   refine wm_y 12 rfl (by kernel_rfl) (y_load1 rfl Tryz.underlying38 rfl (D3.get (v := .int .u64 (v7 : Int)) (by rw [e7]; exact row_get _ _ (by omega)))) rfl ?_
   refine wm_z 14 rfl (by kernel_rfl) (fun _ => y_move rfl) rfl ?_
   refine wm_z 16 rfl (by kernel_rfl) (fun _ => y_move rfl) rfl ?_
   refine wm_z 19 rfl (by kernel_rfl) (fun _ => y_move rfl) rfl ?_
   refine wm_z 20 rfl (by kernel_rfl) (fun _ => y_shr rfl rfl (by omega) (shr64 v15 7 (by omega))) rfl ?_
   refine wm_z 23 rfl (by kernel_rfl) (fun _ => y_move rfl) rfl ?_
   refine wm_z 24 rfl (by kernel_rfl) (fun _ => y_sub rfl rfl (i64_ok (by omega) (by omega))) rfl ?_
   refine wm_z 25 rfl (by kernel_rfl) (fun _ => y_ixa1 rfl rfl Tryz.underlying286 (by kernel_rfl) (j := t - 16) (by omega) (by omega)) rfl ?_
   refine wm_y 26 rfl (by kernel_rfl) (y_load1 rfl Tryz.underlying38 rfl (D3.get (v := .int .u64 (v16 : Int)) (by rw [e16]; exact row_get _ _ (by omega)))) rfl ?_
   refine wm_one 2 (by kernel_rfl) ?_; refine om_call rfl Tryz.func263 rfl rfl rfl (lright_any v2 19 _ l2 (by omega) (by omega)) rfl ?_
   rintro e w9 ⟨rfl, ex⟩
   refine ⟨_, rfl, .inr ex, ?_⟩
   replace E := E.ext ex
   replace C2 := C2.ext ex
   replace D3 := D3.ext ex
   skip
   refine wm_one 4 (by kernel_rfl) ?_; refine om_call rfl Tryz.func263 rfl rfl rfl (lright_any v2 61 _ l2 (by omega) (by omega)) rfl ?_
   rintro e w9 ⟨rfl, ex⟩
   refine ⟨_, rfl, .inr ex, ?_⟩
   replace E := E.ext ex
   replace C2 := C2.ext ex
   replace D3 := D3.ext ex
   skip
   refine wm_z 5 rfl (by kernel_rfl) (fun _ => y_xor rfl rfl rfl) rfl ?_
   refine wm_z 8 rfl (by kernel_rfl) (fun _ => y_xor rfl rfl (lxor3 _ _ _ (Lng.rotr_lt l2 (by omega)) (Lng.rotr_lt l2 (by omega)) (by omega))) rfl ?_
   refine wm_z 13 rfl (by kernel_rfl) (fun _ => y_add rfl rfl rfl) rfl ?_
   refine wm_one 15 (by kernel_rfl) ?_; refine om_call rfl Tryz.func263 rfl rfl rfl (lright_any v15 1 _ l15 (by omega) (by omega)) rfl ?_
   rintro e w9 ⟨rfl, ex⟩
   refine ⟨_, rfl, .inr ex, ?_⟩
   replace E := E.ext ex
   replace C2 := C2.ext ex
   replace D3 := D3.ext ex
   skip
   refine wm_one 17 (by kernel_rfl) ?_; refine om_call rfl Tryz.func263 rfl rfl rfl (lright_any v15 8 _ l15 (by omega) (by omega)) rfl ?_
   rintro e w9 ⟨rfl, ex⟩
   refine ⟨_, rfl, .inr ex, ?_⟩
   replace E := E.ext ex
   replace C2 := C2.ext ex
   replace D3 := D3.ext ex
   skip
   refine wm_z 18 rfl (by kernel_rfl) (fun _ => y_xor rfl rfl rfl) rfl ?_
   refine wm_z 21 rfl (by kernel_rfl) (fun _ => y_xor rfl rfl (lxor3 _ _ _ (Lng.rotr_lt l15 (by omega)) (Lng.rotr_lt l15 (by omega)) (by omega))) rfl ?_
   refine wm_z 22 rfl (by kernel_rfl) (fun _ => y_add rfl rfl rfl) rfl ?_
   refine wm_z 27 rfl (by kernel_rfl) (fun _ => Y.as (y_add rfl rfl rfl) (congrArg (Value.int .u64) (show _ = (((Lng.s1 v2 + v7 + Lng.s0 v15 + v16) % 18446744073709551616 : Nat) : Int) from by rw [u64w, u64w, u64w]; simp only [Lng.s1, Lng.s0, Nat.reducePow]; omega))) rfl ?_
   refine wm_z 28 rfl (by kernel_rfl) (fun _ => y_ixa1 rfl rfl Tryz.underlying286 (by kernel_rfl) rfl (by omega)) rfl ?_
   have D3z := D3; rw [zrow (by omega)] at D3z
   refine wm_one 29 (by kernel_rfl) ?_; refine om_ef rfl (ef_storeB rfl rfl rfl (by kernel_rfl) D3z (Array.getElem?_eq_some_iff.1 (row_at _ _ _ hwl.symm)).1) rfl ?_
   rintro _ w5 ⟨rfl, B5, cg⟩
   refine ⟨.inl rfl, ?_⟩
   rw [row_put _ _ _ _ hwl.symm] at B5; have F5 := E.chg cg hg3w; have G2 := C2.chg cg (by omega)
   refine wm_done (by kernel_rfl) ?_
   refine wq_nop ?_
   refine wq_blk_norm ?_
   refine wq_then_norm (hK18 ?_)
   refine wc_region ?_
   refine wl_y (y_move rfl) rfl ?_
   refine wl_y (y_add rfl rfl (i64_ok (by omega) (by omega))) rfl ?_
   refine wl_y (y_assign rfl) rfl ?_
   refine wl_nil ?_
   refine wq_then_norm ?_
   refine hL3 _ _ ⟨t + 1, rfl, rfl, by omega, by omega, F5, G2, (by rw [Lng.wt_high ht0, List.append_assoc, show 80 - (t + 1) = 80 - 1 - t from by omega]; unfold Lng.nextW; rw [show t - 16 + 14 = t - 2 from by omega, show t - 16 + 9 = t - 7 from by omega, show t - 16 + 1 = t - 15 from by omega, ← e2, ← e7, ← e15, ← e16]; exact B5)⟩ (by omega) ⟨rfl, rfl, (by first | rfl | exact congrArg some (int_val (by omega))), trivial⟩
  ·skip
   refine wc_exit ?_
   refine wq_then_exit ?_
   refine wq_then_exit ?_
   refine wq_blk_hit ?_
   refine wq_then_norm (hK14 ?_)
   refine wc_seq ?_; intro K20 hK20
   refine wc_region ?_
   obtain rfl : t = 80 := by omega
   have D4 : Blk wr g3 286 (nums .u64 (Lng.words xs)) := by have := D3; rw [List.replicate_zero, List.append_nil, Lng.wt_words] at this; exact this
   refine wl_y (y_loadw rfl Tryz.underlying286 rfl (by kernel_rfl) D4) rfl ?_
   refine wl_ef (ef_storeW rfl rfl (by rw [nums_size, Lng.words_length]; kernel_rfl) C2 (by rw [nums_size, nums_size, Lng.words_length]; rfl) (nums_one _ _)) rfl ?_
   rintro _ w8 ⟨rfl, B8, cg⟩
   have G8 := E.chg cg hg2
   refine wl_nil ?_
   refine wq_then_norm (hK20 ?_)
   refine wc_ret ?_
   refine hret rfl B8 (by rw [nums_size, Lng.words_length]) ?_
   exact ⟨rfl, G8⟩
end
section
open Go.RowKit
attribute [local irreducible] Y Ef WL WC WK WQ WM OpM WN WF OpN
theorem lch_bits (e f g : Nat) (he : e < 18446744073709551616) (hf : f < 18446744073709551616) (hg : g < 18446744073709551616) :
  bits .xor .u64 (bits .and .u64 (e : Int) (f : Int)) (bits .and .u64 (bits .xor .u64 IntKind.u64.max (e : Int)) (g : Int)) = ((Lng.ch e f g : Nat) : Int) := by
 have h1 : bits .xor .u64 IntKind.u64.max (e : Int) = ((18446744073709551615 - e : Nat) : Int) := by
  show bits .xor .u64 ((18446744073709551615 : Nat) : Int) (e : Int) = _
  rw [u64_xor_nat _ _ (by omega) he]
  congr 1
  apply Nat.eq_of_testBit_eq
  intro i
  have h1 := Nat.testBit_two_pow_sub_succ (n := 64) he i
  have h2 := Nat.testBit_two_pow_sub_one 64 i
  rw [show (2 : Nat) ^ 64 - (e + 1) = 18446744073709551615 - e from by omega] at h1
  rw [show (2 : Nat) ^ 64 - 1 = 18446744073709551615 from rfl] at h2
  rw [Nat.testBit_xor, h1, h2]
  by_cases hi : i < 64
  ·simp [hi]
  ·have : e.testBit i = false := Nat.testBit_lt_two_pow (Nat.lt_of_lt_of_le he (Nat.pow_le_pow_right (n := 2) (by omega) (by omega : 64 ≤ i)))
   simp [hi, this]
 rw [h1, u64_and_nat _ _ he hf, u64_and_nat _ _ (by omega) hg, u64_xor_nat _ _ (Lng.and_lt he) (Lng.and_lt (by omega))]
 rfl
theorem lmaj_bits (a b c : Nat) (ha : a < 18446744073709551616) (hb : b < 18446744073709551616) (hc : c < 18446744073709551616) :
  bits .xor .u64 (bits .xor .u64 (bits .and .u64 (a : Int) (b : Int)) (bits .and .u64 (a : Int) (c : Int))) (bits .and .u64 (b : Int) (c : Int)) = ((Lng.maj a b c : Nat) : Int) := by
 rw [u64_and_nat _ _ ha hb, u64_and_nat _ _ ha hc, u64_and_nat _ _ hb hc, lxor3 _ _ _ (Lng.and_lt ha) (Lng.and_lt ha) (Lng.and_lt hb)]
 rfl
theorem ls8_lt {s : Lng.S8} (h : s.ok) (i : Nat) : s.list.getD i 0 < 18446744073709551616 := by
 obtain ⟨h1, h2, h3, h4, h5, h6, h7, h8⟩ := h
 refine Lng.getD_lt ?_ i
 simp only [Lng.S8.list, List.mem_cons, List.not_mem_nil, or_false]
 rintro x (rfl | rfl | rfl | rfl | rfl | rfl | rfl | rfl) <;> assumption
theorem lrnd_cells {a b c d e f g h kt wt : Nat} {x y : Int} (hx : x = (((d + Lng.T1 ⟨a, b, c, d, e, f, g, h⟩ kt wt) % 18446744073709551616 : Nat) : Int)) (hy : y = (((Lng.T1 ⟨a, b, c, d, e, f, g, h⟩ kt wt + Lng.T2 ⟨a, b, c, d, e, f, g, h⟩) % 18446744073709551616 : Nat) : Int)) :
  ((nums .u64 [a, a, b, c, d, e, f, g]).setIfInBounds 4 (.int .u64 x)).setIfInBounds 0 (.int .u64 y) = nums .u64 (Lng.rnd ⟨a, b, c, d, e, f, g, h⟩ kt wt).list := by subst hx; subst hy; rfl
theorem ls8_len (s : Lng.S8) : s.list.length = 8 := rfl
theorem lstep_list (s : Lng.S8) (xs : List UInt8) : (Lng.step s xs).list = Lng.mixl s.list (Lng.rounds (Lng.words xs) s 80).list 8 := by unfold Lng.step; exact Lng.add_list _ _
theorem lnum_at (l : List Nat) {j : Nat} (h : j < l.length) : (nums .u64 l)[0 + j]? = some (.int .u64 ((l.getD j 0 : Nat) : Int)) := by rw [Nat.zero_add]; exact nums_get _ _ _ h
theorem lstep_any (A : Option Addr) (c : Nat) (xs : List UInt8) (s : Lng.S8) (w : World) (HA : Bs w A 128 xs) (hc : 128 ≤ c) (hc2 : c ≤ 9223372036854775807) (hs : s.ok) :
  Calls Tryz.prog 249 #[.agg (nums .u64 s.list), .agg (nums .u64 Lng.K), .slice A 128 c] w fun e w' => e = .returned (.agg (nums .u64 (Lng.step s xs).list)) ∧ Ext w w' := by
 have E := Ext.refl w
 refine vc_enterc1 (s := 8) 105 Tryz.func249 rfl rfl rfl Tryz.underlying284 rfl (by kernel_rfl) rfl ?_
 intro Q hret
 refine wc_seq ?_; intro K1 hK1
 refine wc_region ?_
 refine wl_ef (ef_box (cs := nums .u64 s.list) rfl rfl) rfl ?_
 rintro _ w1 ⟨g3, rfl, B3, hg3, ex⟩
 replace E := E.ext ex
 replace HA := HA.ext ex
 skip
 have hl3 := B3.lt
 refine wl_ef (ef_box (cs := nums .u64 Lng.K) rfl rfl) rfl ?_
 rintro _ w2 ⟨g4, rfl, B4, hg4, ex⟩
 replace E := E.ext ex
 replace HA := HA.ext ex
 replace B3 := B3.ext ex
 skip
 have hl4 := B4.lt
 refine wl_ef (ef_alloc (Z := nums .u64 (zrs 8)) (by kernel_rfl)) rfl ?_
 rintro _ w3 ⟨g6, rfl, B6, hg6, ex⟩
 replace E := E.ext ex
 replace HA := HA.ext ex
 replace B3 := B3.ext ex
 replace B4 := B4.ext ex
 have hl6 := B6.lt
 refine wl_nil ?_
 refine wq_then_norm (hK1 ?_)
 refine wc_seq ?_; intro K2 hK2
 refine wc_region ?_
 refine wl_y (y_move rfl) rfl ?_
 refine wl_call Tryz.func262 rfl rfl rfl (lwords_any A c xs _ HA hc hc2) rfl ?_
 rintro e w4 ⟨rfl, ex⟩
 refine ⟨_, rfl, ?_⟩
 replace E := E.ext ex
 replace HA := HA.ext ex
 replace B3 := B3.ext ex
 replace B4 := B4.ext ex
 replace B6 := B6.ext ex
 have hz4 := ex.size
 have F := Ext.refl w4; have E0 := E; have J3 := B3; have J4 := B4; have J6 := B6; have hz := E.size
 refine wl_ef (ef_alloc (Z := nums .u64 (zrs 80)) (by kernel_rfl)) rfl ?_
 rintro _ w5 ⟨g7, rfl, B7, hg7, ex⟩
 replace F := F.ext ex
 refine wl_ef (ef_storeW rfl rfl (by rw [nums_size, Lng.words_length]; kernel_rfl) B7 (by rw [nums_size, nums_size, Lng.words_length]; rfl) (nums_one _ _)) rfl ?_
 rintro _ w6 ⟨rfl, D7, cg⟩
 replace F := F.chg cg hg7; replace E := E0.ext F; replace J3 := J3.ext F; replace J4 := J4.ext F; replace J6 := J6.ext F; have hz6 := F.size
 refine wl_nil ?_
 refine wq_then_norm (hK2 ?_)
 refine wc_seq ?_; intro K3 hK3
 refine wc_region ?_
 refine wl_y (y_loadw rfl Tryz.underlying284 rfl (by kernel_rfl) J3) rfl ?_
 refine wl_ef (ef_alloc (Z := nums .u64 (zrs 8)) (by kernel_rfl)) rfl ?_
 rintro _ w7 ⟨g8, rfl, B8, hg8, ex⟩
 have G := ex
 refine wl_ef (ef_storeW rfl rfl (by rw [nums_size]; kernel_rfl) B8 (by rw [nums_size, nums_size]; rfl) (nums_one _ _)) rfl ?_
 rintro _ w8 ⟨rfl, D8, cg⟩
 replace G := G.chg cg hg8
 refine wl_nil ?_
 refine wq_then_norm (hK3 ?_)
 refine wc_seq ?_; intro K4 hK4
 refine wc_seq ?_; intro K5 hK5
 refine wc_region ?_
 refine wl_y (y_move rfl) rfl ?_
 refine wl_nil ?_
 refine wq_then_norm (hK5 ?_)
 refine wc_block ?_
 refine wc_loop (fun n' L wr => ∃ t : Nat, L = [(3, .pointer (some ⟨g3, 0, none⟩)), (4, .pointer (some ⟨g4, 0, none⟩)), (6, .pointer (some ⟨g6, 0, none⟩)), (7, .pointer (some ⟨g7, 0, none⟩)), (8, .pointer (some ⟨g8, 0, none⟩)), (18, .int .i64 (t : Int))] ∧ n' = 80 - t ∧ (t ≤ 80 ∧ Ext w6 wr ∧ Blk wr g8 284 (nums .u64 (Lng.rounds (Lng.words xs) s t).list))) _ _ ⟨0, rfl, rfl, by omega, G, D8⟩ ⟨rfl, rfl, rfl, rfl, rfl, (by first | rfl | exact congrArg some (int_val (by omega))), trivial⟩ ?_
 rintro KL1 n' L wr ⟨t, rfl, rfl, ht, G, D8⟩ hL1
 refine wc_seq ?_; intro K6 hK6
 refine wc_region ?_
 refine wl_y (y_lss rfl rfl) rfl ?_
 refine wl_nil ?_
 refine wq_then_norm (hK6 ?_)
 refine wc_seq ?_; intro K7 hK7
 refine wc_dec rfl (fun hc1 => ?_) (fun hc1 => ?_)
 ·skip
  refine wc_skip ?_
  refine wq_then_norm (hK7 ?_)
  refine wc_seq ?_; intro K8 hK8
  refine wc_block ?_
  refine wc_seq ?_; intro K9 hK9
  obtain ⟨R, hR⟩ : ∃ R, R = Lng.rounds (Lng.words xs) s t := ⟨_, rfl⟩
  have hok : R.ok := by rw [hR]; exact Lng.rounds_ok _ hs _
  rw [← hR] at D8
  obtain ⟨a, b, cc, d, e, f, gg, hh⟩ := R
  obtain ⟨la, lb, lc, ld, le, lf, lg, lh⟩ := hok
  refine wc_region ?_
  refine wl_y (y_move rfl) rfl ?_
  refine wl_y (y_assign rfl) rfl ?_
  refine wl_nil ?_
  refine wq_then_norm (hK9 ?_)
  refine wc_seq ?_; intro K10 hK10
  refine wc_draw (by kernel_rfl) 6 rfl ?_; intro wd6 ex hd6
  replace G := G.ext ex
  replace D8 := D8.ext ex
  refine wm_y 0 rfl (by kernel_rfl) (y_ixa1 rfl rfl Tryz.underlying284 (by kernel_rfl) (j := 0) rfl (by omega)) rfl ?_
  refine wm_y 1 rfl (by kernel_rfl) (y_load1 rfl Tryz.underlying38 rfl (D8.get (i := 0) rfl)) rfl ?_
  refine wm_y 2 rfl (by kernel_rfl) (y_ixa1 rfl rfl Tryz.underlying284 (by kernel_rfl) (j := 4) rfl (by omega)) rfl ?_
  refine wm_y 3 rfl (by kernel_rfl) (y_load1 rfl Tryz.underlying38 rfl (D8.get (i := 4) rfl)) rfl ?_
  refine wm_y 4 rfl (by kernel_rfl) (y_assign rfl) rfl ?_
  refine wm_y 5 rfl (by kernel_rfl) (y_assign rfl) rfl ?_
  refine wm_done (by kernel_rfl) ?_
  refine wq_nop ?_
  refine wq_then_norm (hK10 ?_)
  refine wc_seq ?_; intro K11 hK11
  obtain ⟨kt, hkt⟩ : ∃ q, q = Lng.K.getD t 0 := ⟨_, rfl⟩
  obtain ⟨wt, hwt⟩ : ∃ q, q = (Lng.words xs).getD t 0 := ⟨_, rfl⟩
  obtain ⟨T, hT⟩ : ∃ T, T = Lng.T1 ⟨a, b, cc, d, e, f, gg, hh⟩ kt wt := ⟨_, rfl⟩
  obtain ⟨U, hU⟩ : ∃ T, T = Lng.T2 ⟨a, b, cc, d, e, f, gg, hh⟩ := ⟨_, rfl⟩
  refine wc_draw (by kernel_rfl) 31 rfl ?_; intro wd7 ex hd7
  replace G := G.ext ex
  replace D8 := D8.ext ex
  refine wm_y 0 rfl (by kernel_rfl) (y_ixa1 rfl rfl Tryz.underlying284 (by kernel_rfl) (j := 7) rfl (by omega)) rfl ?_
  refine wm_y 1 rfl (by kernel_rfl) (y_load1 rfl Tryz.underlying38 rfl (D8.get (i := 7) rfl)) rfl ?_
  refine wm_y 2 rfl (by kernel_rfl) (y_move rfl) rfl ?_
  refine wm_y 4 rfl (by kernel_rfl) (y_move rfl) rfl ?_
  refine wm_y 7 rfl (by kernel_rfl) (y_move rfl) rfl ?_
  refine wm_y 11 rfl (by kernel_rfl) (y_move rfl) rfl ?_
  refine wm_y 12 rfl (by kernel_rfl) (y_ixa1 rfl rfl Tryz.underlying284 (by kernel_rfl) (j := 5) rfl (by omega)) rfl ?_
  refine wm_y 13 rfl (by kernel_rfl) (y_load1 rfl Tryz.underlying38 rfl (D8.get (i := 5) rfl)) rfl ?_
  refine wm_y 14 rfl (by kernel_rfl) (y_and rfl rfl rfl) rfl ?_
  refine wm_y 15 rfl (by kernel_rfl) (y_move rfl) rfl ?_
  refine wm_y 16 rfl (by kernel_rfl) (y_xorNot rfl rfl rfl) rfl ?_
  refine wm_y 17 rfl (by kernel_rfl) (y_ixa1 rfl rfl Tryz.underlying284 (by kernel_rfl) (j := 6) rfl (by omega)) rfl ?_
  refine wm_y 18 rfl (by kernel_rfl) (y_load1 rfl Tryz.underlying38 rfl (D8.get (i := 6) rfl)) rfl ?_
  refine wm_y 19 rfl (by kernel_rfl) (y_and rfl rfl rfl) rfl ?_
  refine wm_y 20 rfl (by kernel_rfl) (y_xor rfl rfl (lch_bits e f gg le lf lg)) rfl ?_
  refine wm_y 22 rfl (by kernel_rfl) (y_move rfl) rfl ?_
  refine wm_y 23 rfl (by kernel_rfl) (y_ixa1 rfl rfl Tryz.underlying286 (by kernel_rfl) rfl (by omega)) rfl ?_
  refine wm_y 24 rfl (by kernel_rfl) (y_load1 rfl Tryz.underlying38 rfl ((J4.ext G).get (v := .int .u64 (kt : Nat)) (by rw [hkt]; exact lnum_at _ (by show t < 80; omega)))) rfl ?_
  refine wm_y 26 rfl (by kernel_rfl) (y_move rfl) rfl ?_
  refine wm_y 27 rfl (by kernel_rfl) (y_ixa1 rfl rfl Tryz.underlying286 (by kernel_rfl) rfl (by omega)) rfl ?_
  refine wm_y 28 rfl (by kernel_rfl) (y_load1 rfl Tryz.underlying38 rfl ((D7.ext G).get (v := .int .u64 (wt : Nat)) (by rw [hwt]; exact lnum_at _ (by rw [Lng.words_length]; omega)))) rfl ?_
  refine wm_one 3 (by kernel_rfl) ?_; refine om_call rfl Tryz.func263 rfl rfl rfl (lright_any e 14 _ le (by omega) (by omega)) rfl ?_
  rintro e w9 ⟨rfl, ex⟩
  refine ⟨_, rfl, .inr ex, ?_⟩
  replace G := G.ext ex
  replace D8 := D8.ext ex
  skip
  refine wm_one 5 (by kernel_rfl) ?_; refine om_call rfl Tryz.func263 rfl rfl rfl (lright_any e 18 _ le (by omega) (by omega)) rfl ?_
  rintro e w9 ⟨rfl, ex⟩
  refine ⟨_, rfl, .inr ex, ?_⟩
  replace G := G.ext ex
  replace D8 := D8.ext ex
  skip
  refine wm_y 6 rfl (by kernel_rfl) (y_xor rfl rfl rfl) rfl ?_
  refine wm_one 8 (by kernel_rfl) ?_; refine om_call rfl Tryz.func263 rfl rfl rfl (lright_any e 41 _ le (by omega) (by omega)) rfl ?_
  rintro e w9 ⟨rfl, ex⟩
  refine ⟨_, rfl, .inr ex, ?_⟩
  replace G := G.ext ex
  replace D8 := D8.ext ex
  skip
  refine wm_y 9 rfl (by kernel_rfl) (y_xor rfl rfl (lxor3 _ _ _ (Lng.rotr_lt le (by omega)) (Lng.rotr_lt le (by omega)) (Lng.rotr_lt le (by omega)))) rfl ?_
  refine wm_y 10 rfl (by kernel_rfl) (y_add rfl rfl rfl) rfl ?_
  refine wm_y 21 rfl (by kernel_rfl) (y_add rfl rfl rfl) rfl ?_
  refine wm_y 25 rfl (by kernel_rfl) (y_add rfl rfl rfl) rfl ?_
  refine wm_y 29 rfl (by kernel_rfl) (Y.as (y_add rfl rfl rfl) (congrArg (Value.int .u64) (show _ = ((T % 18446744073709551616 : Nat) : Int) from by rw [u64w, u64w, u64w, u64w, hT]; simp only [Lng.T1, Lng.S1]; omega))) rfl ?_
  refine wm_y 30 rfl (by kernel_rfl) (y_assign rfl) rfl ?_
  refine wm_done (by kernel_rfl) ?_
  refine wq_nop ?_
  refine wq_then_norm (hK11 ?_)
  refine wc_seq ?_; intro K12 hK12
  refine wc_draw (by kernel_rfl) 25 rfl ?_; intro wd8 ex hd8
  replace G := G.ext ex
  replace D8 := D8.ext ex
  refine wm_y 0 rfl (by kernel_rfl) (y_move rfl) rfl ?_
  refine wm_y 2 rfl (by kernel_rfl) (y_move rfl) rfl ?_
  refine wm_y 5 rfl (by kernel_rfl) (y_move rfl) rfl ?_
  refine wm_y 8 rfl (by kernel_rfl) (y_move rfl) rfl ?_
  refine wm_y 9 rfl (by kernel_rfl) (y_ixa1 rfl rfl Tryz.underlying284 (by kernel_rfl) (j := 1) rfl (by omega)) rfl ?_
  refine wm_y 10 rfl (by kernel_rfl) (y_load1 rfl Tryz.underlying38 rfl (D8.get (i := 1) rfl)) rfl ?_
  refine wm_y 11 rfl (by kernel_rfl) (y_and rfl rfl rfl) rfl ?_
  refine wm_y 12 rfl (by kernel_rfl) (y_move rfl) rfl ?_
  refine wm_y 13 rfl (by kernel_rfl) (y_ixa1 rfl rfl Tryz.underlying284 (by kernel_rfl) (j := 2) rfl (by omega)) rfl ?_
  refine wm_y 14 rfl (by kernel_rfl) (y_load1 rfl Tryz.underlying38 rfl (D8.get (i := 2) rfl)) rfl ?_
  refine wm_y 15 rfl (by kernel_rfl) (y_and rfl rfl rfl) rfl ?_
  refine wm_y 16 rfl (by kernel_rfl) (y_xor rfl rfl rfl) rfl ?_
  refine wm_y 17 rfl (by kernel_rfl) (y_ixa1 rfl rfl Tryz.underlying284 (by kernel_rfl) (j := 1) rfl (by omega)) rfl ?_
  refine wm_y 18 rfl (by kernel_rfl) (y_load1 rfl Tryz.underlying38 rfl (D8.get (i := 1) rfl)) rfl ?_
  refine wm_y 19 rfl (by kernel_rfl) (y_ixa1 rfl rfl Tryz.underlying284 (by kernel_rfl) (j := 2) rfl (by omega)) rfl ?_
  refine wm_y 20 rfl (by kernel_rfl) (y_load1 rfl Tryz.underlying38 rfl (D8.get (i := 2) rfl)) rfl ?_
  refine wm_y 21 rfl (by kernel_rfl) (y_and rfl rfl rfl) rfl ?_
  refine wm_y 22 rfl (by kernel_rfl) (y_xor rfl rfl (lmaj_bits a b cc la lb lc)) rfl ?_
  refine wm_one 1 (by kernel_rfl) ?_; refine om_call rfl Tryz.func263 rfl rfl rfl (lright_any a 28 _ la (by omega) (by omega)) rfl ?_
  rintro e w9 ⟨rfl, ex⟩
  refine ⟨_, rfl, .inr ex, ?_⟩
  replace G := G.ext ex
  replace D8 := D8.ext ex
  skip
  refine wm_one 3 (by kernel_rfl) ?_; refine om_call rfl Tryz.func263 rfl rfl rfl (lright_any a 34 _ la (by omega) (by omega)) rfl ?_
  rintro e w9 ⟨rfl, ex⟩
  refine ⟨_, rfl, .inr ex, ?_⟩
  replace G := G.ext ex
  replace D8 := D8.ext ex
  skip
  refine wm_y 4 rfl (by kernel_rfl) (y_xor rfl rfl rfl) rfl ?_
  refine wm_one 6 (by kernel_rfl) ?_; refine om_call rfl Tryz.func263 rfl rfl rfl (lright_any a 39 _ la (by omega) (by omega)) rfl ?_
  rintro e w9 ⟨rfl, ex⟩
  refine ⟨_, rfl, .inr ex, ?_⟩
  replace G := G.ext ex
  replace D8 := D8.ext ex
  skip
  refine wm_y 7 rfl (by kernel_rfl) (y_xor rfl rfl (lxor3 _ _ _ (Lng.rotr_lt la (by omega)) (Lng.rotr_lt la (by omega)) (Lng.rotr_lt la (by omega)))) rfl ?_
  refine wm_y 23 rfl (by kernel_rfl) (Y.as (y_add rfl rfl rfl) (congrArg (Value.int .u64) (show _ = ((U % 18446744073709551616 : Nat) : Int) from by rw [u64w, hU]; simp only [Lng.T2, Lng.S0]; omega))) rfl ?_
  refine wm_y 24 rfl (by kernel_rfl) (y_assign rfl) rfl ?_
  refine wm_done (by kernel_rfl) ?_
  refine wq_nop ?_
  refine wq_then_norm (hK12 ?_)
  refine wc_seq ?_; intro K13 hK13
  refine wc_draw (by kernel_rfl) 3 rfl ?_; intro wd9 ex hd9
  replace G := G.ext ex
  replace D8 := D8.ext ex
  refine wm_z 0 rfl (by kernel_rfl) (fun _ => y_cutarrl (s := 1) rfl rfl Tryz.underlying284 (by kernel_rfl) (j := 1) rfl (by omega)) rfl ?_
  refine wm_z 1 rfl (by kernel_rfl) (fun _ => y_cutarrh (s := 1) rfl rfl Tryz.underlying284 (by kernel_rfl) (j := 7) rfl (by omega)) rfl ?_
  refine wm_one 2 (by kernel_rfl) ?_; refine om_ef rfl (ef_copy rfl rfl Tryz.underlying180 (by kernel_rfl) D8 (D8.at 0 _ (nums_pre .u64 [a, b, cc, d, e, f, gg] [hh])) rfl (Nat.le_refl 8) iv_one) rfl ?_
  rintro _ w10 ⟨rfl, F8, cg⟩
  refine ⟨.inl rfl, ?_⟩
  replace G := G.chg cg hg8
  refine wm_done (by kernel_rfl) ?_
  refine wq_nop ?_
  refine wq_then_norm (hK13 ?_)
  refine wc_seq ?_; intro K14 hK14
  refine wc_region ?_
  refine wl_y (y_ixa1 rfl rfl Tryz.underlying284 (by kernel_rfl) (j := 4) rfl (by omega)) rfl ?_
  refine wl_y (y_load1 rfl Tryz.underlying38 rfl (F8.get (i := 4) rfl)) rfl ?_
  refine wl_y (y_move rfl) rfl ?_
  refine wl_y (y_add rfl rfl rfl) rfl ?_
  refine wl_y (y_ixa1 rfl rfl Tryz.underlying284 (by kernel_rfl) (j := 4) rfl (by omega)) rfl ?_
  refine wl_ef (ef_storeB rfl rfl rfl (by kernel_rfl) F8 (by show 4 < 8; omega)) rfl ?_
  rintro _ w11 ⟨rfl, H8, cg⟩
  replace G := G.chg cg hg8
  refine wl_nil ?_
  refine wq_then_norm (hK14 ?_)
  refine wc_region ?_
  refine wl_y (y_move rfl) rfl ?_
  refine wl_y (y_move rfl) rfl ?_
  refine wl_y (y_add rfl rfl rfl) rfl ?_
  refine wl_y (y_ixa1 rfl rfl Tryz.underlying284 (by kernel_rfl) (j := 0) rfl (by omega)) rfl ?_
  refine wl_ef (ef_storeB rfl rfl rfl (by kernel_rfl) H8 (by show 0 < 8; omega)) rfl ?_
  rintro _ w12 ⟨rfl, I8, cg⟩
  replace G := G.chg cg hg8
  refine wl_nil ?_
  refine wq_blk_norm ?_
  refine wq_then_norm (hK8 ?_)
  refine wc_region ?_
  refine wl_y (y_add rfl rfl (i64_ok (by omega) (by omega))) rfl ?_
  refine wl_y (y_move rfl) rfl ?_
  refine wl_nil ?_
  refine wq_then_norm ?_
  have e1 : Lng.rounds (Lng.words xs) s (t + 1) = Lng.rnd ⟨a, b, cc, d, e, f, gg, hh⟩ kt wt := by rw [hkt, hwt]; show Lng.rnd (Lng.rounds (Lng.words xs) s t) _ _ = _; rw [← hR]
  have I9 : Blk w12 g8 284 (nums .u64 (Lng.rounds (Lng.words xs) s (t + 1)).list) := by
   rw [e1]; exact I8.congr (lrnd_cells (by rw [u64w, ← hT]; omega) (by rw [u64w, ← hT, ← hU]; omega))
  refine hL1 _ _ ⟨t + 1, rfl, rfl, by omega, G, I9⟩ (by omega) ⟨rfl, rfl, rfl, rfl, rfl, (by first | rfl | exact congrArg some (int_val (by omega))), trivial⟩
 ·skip
  refine wc_exit ?_
  refine wq_then_exit ?_
  refine wq_then_exit ?_
  refine wq_blk_hit ?_
  refine wq_then_norm (hK4 ?_)
  refine wc_seq ?_; intro K15 hK15
  refine wc_seq ?_; intro K16 hK16
  obtain rfl : t = 80 := by omega
  obtain ⟨m, hm⟩ : ∃ m, m = (Lng.rounds (Lng.words xs) s 80).list := ⟨_, rfl⟩
  have h8m : s.list.length = m.length := by rw [hm, ls8_len, ls8_len]
  have h8l := ls8_len s
  have okm : ∀ i, m.getD i 0 < 18446744073709551616 := by rw [hm]; exact ls8_lt (Lng.rounds_ok _ hs _)
  have okl := ls8_lt hs
  have hfin : (Lng.step s xs).list = Lng.mixl s.list m 8 := by rw [hm]; exact lstep_list s xs
  rw [← hm] at D8
  have C3 := J3.ext G; have C6 := J6.ext G; replace E := E.ext G
  obtain ⟨l, hl⟩ : ∃ l, l = s.list := ⟨_, rfl⟩
  rw [← hl] at C3 okl h8l h8m hfin
  refine wc_region ?_
  refine wl_y (y_move rfl) rfl ?_
  refine wl_nil ?_
  refine wq_then_norm (hK16 ?_)
  refine wc_block ?_
  refine wc_loop (fun n' L wx => ∃ k : Nat, L = [(3, .pointer (some ⟨g3, 0, none⟩)), (6, .pointer (some ⟨g6, 0, none⟩)), (8, .pointer (some ⟨g8, 0, none⟩)), (92, .int .i64 (k : Int))] ∧ n' = 8 - k ∧ (k ≤ 8 ∧ Ext w wx ∧ Blk wx g3 284 (nums .u64 (Lng.mixl l m k)) ∧ Blk wx g6 284 (nums .u64 (zrs 8)) ∧ Blk wx g8 284 (nums .u64 m))) _ _ ⟨0, rfl, rfl, by omega, E, (by rw [Lng.mixl_zero]; exact C3), C6, D8⟩ ⟨rfl, rfl, rfl, (by first | rfl | exact congrArg some (int_val (by omega))), trivial⟩ ?_
  rintro KL2 n' L wx ⟨k, rfl, rfl, hk, E, C3, C6, D8⟩ hL2
  refine wc_seq ?_; intro K17 hK17
  refine wc_region ?_
  refine wl_y (y_lss rfl rfl) rfl ?_
  refine wl_nil ?_
  refine wq_then_norm (hK17 ?_)
  refine wc_seq ?_; intro K18 hK18
  refine wc_dec rfl (fun hc2 => ?_) (fun hc2 => ?_)
  ·skip
   refine wc_skip ?_
   refine wq_then_norm (hK18 ?_)
   refine wc_seq ?_; intro K19 hK19
   refine wc_block ?_
   refine wc_seq ?_; intro K20 hK20
   refine wc_region ?_
   refine wl_y (y_move rfl) rfl ?_
   refine wl_y (y_assign rfl) rfl ?_
   refine wl_nil ?_
   refine wq_then_norm (hK20 ?_)
   obtain ⟨p, hp⟩ : ∃ p, p = l.getD k 0 := ⟨_, rfl⟩
   obtain ⟨q, hq⟩ : ∃ q, q = m.getD k 0 := ⟨_, rfl⟩
   have lp : p < 18446744073709551616 := by rw [hp]; exact okl _
   have lq : q < 18446744073709551616 := by rw [hq]; exact okm _
   have hkl : k < l.length := by omega
   have hml := Lng.mixl_length h8m (k := k) (by omega)
   have x1 : (nums .u64 (Lng.mixl l m k))[0 + k]? = some (.int .u64 (p : Nat)) := by rw [lnum_at _ (by omega), Lng.mixl_get h8m hkl, hp]
   have x2 : (nums .u64 m)[0 + k]? = some (.int .u64 (q : Nat)) := by rw [lnum_at _ (by omega), hq]
   refine wc_draw (by kernel_rfl) 9 rfl ?_; intro wd16 ex hd16
   replace E := E.ext ex
   replace C3 := C3.ext ex
   replace C6 := C6.ext ex
   replace D8 := D8.ext ex
   refine wm_z 0 rfl (by kernel_rfl) (fun _ => y_move rfl) rfl ?_
   refine wm_z 1 rfl (by kernel_rfl) (fun _ => y_ixa1 rfl rfl Tryz.underlying284 (by kernel_rfl) rfl (by omega)) rfl ?_
   refine wm_y 2 rfl (by kernel_rfl) (y_load1 rfl Tryz.underlying38 rfl (C3.get x1)) rfl ?_
   refine wm_z 3 rfl (by kernel_rfl) (fun _ => y_move rfl) rfl ?_
   refine wm_z 4 rfl (by kernel_rfl) (fun _ => y_ixa1 rfl rfl Tryz.underlying284 (by kernel_rfl) rfl (by omega)) rfl ?_
   refine wm_y 5 rfl (by kernel_rfl) (y_load1 rfl Tryz.underlying38 rfl (D8.get x2)) rfl ?_
   refine wm_z 6 rfl (by kernel_rfl) (fun _ => Y.as (y_add rfl rfl rfl) (congrArg (Value.int .u64) (show _ = (((p + q) % 18446744073709551616 : Nat) : Int) from by rw [u64w]; omega))) rfl ?_
   refine wm_z 7 rfl (by kernel_rfl) (fun _ => y_ixa1 rfl rfl Tryz.underlying284 (by kernel_rfl) rfl (by omega)) rfl ?_
   refine wm_one 8 (by kernel_rfl) ?_; refine om_ef rfl (ef_storeB rfl rfl rfl (by kernel_rfl) C3 (Array.getElem?_eq_some_iff.1 x1).1) rfl ?_
   rintro _ w13 ⟨rfl, C9, cg⟩
   refine ⟨.inl rfl, ?_⟩
   replace C6 := C6.chg cg (by omega); replace D8 := D8.chg cg (by omega); replace E := E.chg cg hg3; rw [Nat.zero_add, nums_set, hp, hq, Lng.mixl_set h8m hkl] at C9
   refine wm_done (by kernel_rfl) ?_
   refine wq_nop ?_
   refine wq_blk_norm ?_
   refine wq_then_norm (hK19 ?_)
   refine wc_region ?_
   refine wl_y (y_add rfl rfl (i64_ok (by omega) (by omega))) rfl ?_
   refine wl_y (y_move rfl) rfl ?_
   refine wl_nil ?_
   refine wq_then_norm ?_
   refine hL2 _ _ ⟨k + 1, rfl, rfl, by omega, E, C9, C6, D8⟩ (by omega) ⟨rfl, rfl, rfl, (by first | rfl | exact congrArg some (int_val (by omega))), trivial⟩
  ·skip
   refine wc_exit ?_
   refine wq_then_exit ?_
   refine wq_then_exit ?_
   refine wq_blk_hit ?_
   refine wq_then_norm (hK15 ?_)
   refine wc_seq ?_; intro K21 hK21
   refine wc_region ?_
   obtain rfl : k = 8 := by omega
   rw [← hfin] at C3
   obtain ⟨S, hS⟩ : ∃ S, S = Lng.step s xs := ⟨_, rfl⟩
   rw [← hS] at C3
   refine wl_y (y_loadw rfl Tryz.underlying284 rfl (by kernel_rfl) C3) rfl ?_
   refine wl_ef (ef_storeW rfl rfl (by rw [nums_size]; kernel_rfl) C6 (by rw [nums_size, nums_size]; rfl) (nums_one _ _)) rfl ?_
   rintro _ w14 ⟨rfl, C10, cg⟩
   replace E := E.chg cg (by omega)
   refine wl_nil ?_
   refine wq_then_norm (hK21 ?_)
   refine wc_ret ?_
   refine hret rfl C10 (by rw [nums_size]; rfl) ?_
   exact ⟨by rw [hS], E⟩
end
end Go.Proofs.YtjllhimhiekchaaGreat
