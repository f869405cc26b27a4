/- The long digest: turns, constants, words of a block. -/
import Derived.Test.YtbcbihdfpkeacaaLongB
import Derived.Test.YtbcbihdfpkeacaaLongR
import Derived.Test.YtbcbihdfpkeacaaStepL
import Derived.Test.YtbcbihdfpkeacaaBigB
import Derived.Test.YtbcbihdfpkeacaaBigC
namespace Go.Proofs.Ytbcbihdfpkeacaa
open Go.RowKit
attribute [local irreducible] Y Ef WL WC WK WQ WM OpM WN WF OpN
theorem and63c (n : Nat) (h1 : 1 ≤ n) (h2 : n ≤ 63) : bits .and .u64 ((18446744073709551616 - n : Nat) : Int) 63 = ((64 - n : Nat) : Int) := by
  have h := u64_and_nat (18446744073709551616 - n) 63 (by omega) (by omega)
  rw [show ((63 : Nat) : Int) = 63 from rfl] at h
  rw [h, show (63 : Nat) = 2 ^ 6 - 1 from rfl, Nat.and_two_pow_sub_one_eq_mod]
  congr 1
  omega
theorem min64 (k : Nat) (h : k ≤ 64) : min ((k : Int)).toNat IntKind.u64.bits = k := by show min k 64 = k; omega
theorem shl64 (x k : Nat) (h : k ≤ 64) : IntKind.u64.wrap ((x : Int) * 2 ^ (min ((k : Int)).toNat IntKind.u64.bits)) = ((x * 2 ^ k % 18446744073709551616 : Nat) : Int) := by
  rw [min64 k h]
  show ((x : Int) * 2 ^ k) % 18446744073709551616 = _
  rw [Int.natCast_emod, Int.natCast_mul, Int.natCast_pow]; rfl
theorem shr64 (x k : Nat) (h : k ≤ 64) : (x : Int) / 2 ^ (min ((k : Int)).toNat IntKind.u64.bits) = ((x / 2 ^ k : Nat) : Int) := by
  rw [min64 k h, Int.natCast_ediv, Int.natCast_pow]; rfl
theorem lrot_any (x n : Nat) (w : World) (hx : x < 18446744073709551616) (h1 : 1 ≤ n) (h2 : n ≤ 63) :
    Calls Try.prog 163 #[.int .u64 (x : Int), .int .i64 (-(n : Int))] w fun e w' => e = .returned (.int .u64 ((Lng.rotr x n : Nat) : Int)) ∧ Ext w w' := by
  have E := Ext.refl w
  refine vc_enter1 17 Try.func163 rfl rfl rfl rfl ?_
  intro Q hret
  refine wc_seq ?_; intro K1 hK1
  refine wc_region ?_
  refine wl_y (y_assign rfl) rfl ?_
  refine wl_nil ?_
  refine wq_then_norm (hK1 ?_)
  refine wc_seq ?_; intro K2 hK2
  refine wc_region ?_
  refine wl_y (y_move rfl) rfl ?_
  refine wl_y (y_conv rfl Try.underlying3 Try.underlying95 (show IntKind.u64.wrap (-(n : Int)) = ((18446744073709551616 - n : Nat) : Int) from by show (-(n : Int)) % 18446744073709551616 = _; omega)) rfl ?_
  refine wl_y (y_and rfl rfl (and63c n h1 h2)) rfl ?_
  refine wl_y (y_assign rfl) rfl ?_
  refine wl_nil ?_
  refine wq_then_norm (hK2 ?_)
  refine wc_seq ?_; intro K3 hK3
  refine wc_region ?_
  refine wl_y (y_move rfl) rfl ?_
  refine wl_y (y_move rfl) rfl ?_
  refine wl_y (y_shl rfl rfl (by omega) (shl64 x (64 - n) (by omega))) rfl ?_
  refine wl_y (y_move rfl) rfl ?_
  refine wl_y (y_move rfl) rfl ?_
  refine wl_y (y_sub rfl rfl (u64_nat (n := n) (by omega) (by omega))) rfl ?_
  refine wl_y (y_shr rfl rfl (by omega) (shr64 x n (by omega))) rfl ?_
  refine wl_y (y_or rfl rfl (show _ = ((Lng.rotr x n : Nat) : Int) from by rw [u64_or_nat _ _ (Nat.mod_lt _ (by omega)) (Nat.lt_of_le_of_lt (Nat.div_le_self _ _) hx), Lng.rotr_or hx (by omega)])) rfl ?_
  refine wl_y (y_assign rfl) rfl ?_
  refine wl_nil ?_
  refine wq_then_norm (hK3 ?_)
  refine wc_ret ?_
  refine hret rfl ?_
  exact ⟨rfl, E⟩
theorem lright_any (x n : Nat) (w : World) (hx : x < 18446744073709551616) (h1 : 1 ≤ n) (h2 : n ≤ 63) :
    Calls Try.prog 153 #[.int .u64 (x : Int), .int .i64 (n : Int)] w fun e w' => e = .returned (.int .u64 ((Lng.rotr x n : Nat) : Int)) ∧ Ext w w' := by
  have E := Ext.refl w
  refine vc_enter1 9 Try.func153 rfl rfl rfl rfl ?_
  intro Q hret
  refine wc_seq ?_; intro K1 hK1
  refine wc_region ?_
  refine wl_y (y_assign rfl) rfl ?_
  refine wl_nil ?_
  refine wq_then_norm (hK1 ?_)
  refine wc_seq ?_; intro K2 hK2
  refine wc_region ?_
  refine wl_y (y_move rfl) rfl ?_
  refine wl_y (y_move rfl) rfl ?_
  refine wl_y (y_neg rfl (show IntKind.i64.wrap (0 - (n : Int)) = -(n : Int) from by rw [i64_ok (by omega) (by omega)]; omega)) rfl ?_
  refine wl_call Try.func163 rfl rfl rfl (lrot_any x n _ hx h1 h2) rfl ?_
  rintro e w1 ⟨rfl, ex⟩
  refine ⟨_, rfl, ?_⟩
  replace E := E.ext ex
  skip
  refine wl_y (y_assign rfl) rfl ?_
  refine wl_nil ?_
  refine wq_then_norm (hK2 ?_)
  refine wc_ret ?_
  refine hret rfl ?_
  exact ⟨rfl, E⟩
theorem lbegin_any (w : World) : Calls Try.prog 110 #[] w fun e w' => e = .returned (.agg (nums .u64 Lng.H0)) ∧ Ext w w' := by
  refine vc_enterc1 (s := 8) 2 Try.func110 rfl rfl rfl Try.underlying108 rfl (by kernel_rfl) rfl ?_
  intro Q hret
  refine wc_seq ?_; intro K1 hK1
  refine wc_region ?_
  refine wl_ef (ef_alloc (Z := nums .u64 (zrs 8)) (by kernel_rfl)) rfl ?_
  rintro _ w1 ⟨g1, rfl, B1, hg1, ex⟩
  have E1 := ex
  refine wl_nil ?_
  refine wq_then_norm (hK1 ?_)
  refine wc_seq ?_; intro K2 hK2
  refine wc_region ?_
  refine wl_y (y_build rfl (cells := nums .u64 Lng.H0) (by kernel_rfl)) rfl ?_
  refine wl_ef (ef_storeW rfl rfl (by kernel_rfl) B1 rfl (nums_one _ _)) rfl ?_
  rintro _ w2 ⟨rfl, B2, cg⟩
  have E2 := E1.chg cg hg1
  refine wl_nil ?_
  refine wq_then_norm (hK2 ?_)
  refine wc_ret ?_
  refine hret rfl B2 (by rw [nums_size]; rfl) ?_
  exact ⟨rfl, E2⟩
set_option maxRecDepth 100000 in
theorem lconst_any (w : World) : Calls Try.prog 111 #[] w fun e w' => e = .returned (.agg (nums .u64 Lng.K)) ∧ Ext w w' := by
  refine vc_enterc1 (s := 80) 2 Try.func111 rfl rfl rfl Try.underlying110 rfl (by kernel_rfl) rfl ?_
  intro Q hret
  refine wc_seq ?_; intro K1 hK1
  refine wc_region ?_
  refine wl_ef (ef_alloc (Z := nums .u64 (zrs 80)) (by kernel_rfl)) rfl ?_
  rintro _ w1 ⟨g1, rfl, B1, hg1, ex⟩
  have E1 := ex
  refine wl_nil ?_
  refine wq_then_norm (hK1 ?_)
  refine wc_seq ?_; intro K2 hK2
  refine wc_region ?_
  refine wl_y (y_build rfl (cells := nums .u64 Lng.K) (by kernel_rfl)) rfl ?_
  refine wl_ef (ef_storeW rfl rfl (by kernel_rfl) B1 rfl (nums_one _ _)) rfl ?_
  rintro _ w2 ⟨rfl, B2, cg⟩
  have E2 := E1.chg cg hg1
  refine wl_nil ?_
  refine wq_then_norm (hK2 ?_)
  refine wc_ret ?_
  refine hret rfl B2 (by rw [nums_size]; rfl) ?_
  exact ⟨rfl, E2⟩
theorem u64w (z : Int) : IntKind.u64.wrap z = z % 18446744073709551616 := rfl
theorem lxor3 (a b c : Nat) (ha : a < 18446744073709551616) (hb : b < 18446744073709551616) (hc : c < 18446744073709551616) : bits .xor .u64 (bits .xor .u64 (a : Int) (b : Int)) (c : Int) = (((a ^^^ b) ^^^ c : Nat) : Int) := by
  rw [u64_xor_nat _ _ ha hb, u64_xor_nat _ _ (Lng.xor_lt ha hb) hc]
theorem row_get (l r : List Nat) {j : Nat} (h : j < l.length) : (nums .u64 (l ++ r))[0 + j]? = some (.int .u64 ((l.getD j 0 : Nat) : Int)) := by
  rw [Nat.zero_add, nums_get .u64 (l ++ r) j (by rw [List.length_append]; omega)]
  have e : (l ++ r).getD j 0 = l.getD j 0 := by rw [List.getD_eq_getElem?_getD, List.getElem?_append_left h, List.getD_eq_getElem?_getD]
  rw [e]
theorem row_at (l r : List Nat) (x : Nat) {j : Nat} (h : j = l.length) : (nums .u64 (l ++ x :: r))[0 + j]? = some (.int .u64 ((x : Nat) : Int)) := by
  subst h
  rw [Nat.zero_add, nums_get .u64 (l ++ x :: r) _ (by rw [List.length_append, List.length_cons]; omega)]
  congr 4
  simp
theorem row_put (l r : List Nat) (x y : Nat) {j : Nat} (h : j = l.length) : (nums .u64 (l ++ x :: r)).setIfInBounds (0 + j) (.int .u64 ((y : Nat) : Int)) = nums .u64 (l ++ y :: r) := by
  subst h
  rw [Nat.zero_add, nums_set]
  congr 1
  simp
theorem zrow {n k : Nat} (h : k < n) : List.replicate (n - k) 0 = 0 :: List.replicate (n - 1 - k) 0 := by
  rw [show n - k = (n - 1 - k) + 1 from by omega, List.replicate_succ]
theorem or8 (a b : Nat) (ha : 256 * a + b < 18446744073709551616) (hb : b < 256) : bits .or .u64 ((a * 2 ^ 8 % 18446744073709551616 : Nat) : Int) ((b : Nat) : Int) = ((256 * a + b : Nat) : Int) := by
  rw [u64_or_nat _ _ (Nat.mod_lt _ (by omega)) (by omega), Nat.mod_eq_of_lt (by omega)]
  congr 1
  rw [nat_join 8 _ b (by omega) (by omega)]; omega
theorem be8_word (xs : List UInt8) (t i : Nat) (h : i < 8) (hl : 8 * t + 8 ≤ xs.length) : ((xs.drop (8 * t)).take 8).getD i 0 = xs.getD (8 * t + i) 0 := by
  simp [List.getD_eq_getElem?_getD, List.getElem?_take, List.getElem?_drop, h]
theorem lwords_any (A : Option Addr) (c : Nat) (xs : List UInt8) (w : World) (HA : Bs w A 128 xs) (hc : 128 ≤ c) (hc2 : c ≤ 9223372036854775807) :
    Calls Try.prog 152 #[.slice A 128 c] w fun e w' => e = .returned (.agg (nums .u64 (Lng.words xs))) ∧ Ext w w' := by
  have hxl := HA.1
  refine vc_enterc1 (s := 80) 78 Try.func152 rfl rfl rfl Try.underlying110 rfl (by kernel_rfl) rfl ?_
  intro Q hret
  refine wc_seq ?_; intro K1 hK1
  refine wc_region ?_
  refine wl_ef (ef_alloc (Z := nums .u64 (zrs 80)) (by kernel_rfl)) rfl ?_
  rintro _ w1 ⟨g2, rfl, B2, hg2, ex⟩
  have E1 := ex
  refine wl_nil ?_
  refine wq_then_norm (hK1 ?_)
  refine wc_seq ?_; intro K2 hK2
  refine wc_region ?_
  refine wl_ef (ef_alloc (Z := nums .u64 (zrs 80)) (by kernel_rfl)) rfl ?_
  rintro _ w2 ⟨g3, rfl, B3, hg3, ex⟩
  have E2 := E1.ext ex; have C2 := B2.ext ex; have hg3w := Nat.le_trans E1.size hg3; have hne : g2 < g3 := Nat.lt_of_lt_of_le B2.lt hg3
  refine wl_nil ?_
  refine wq_then_norm (hK2 ?_)
  refine wc_seq ?_; intro K3 hK3
  refine wc_seq ?_; intro K4 hK4
  refine wc_region ?_
  refine wl_y (y_move rfl) rfl ?_
  refine wl_nil ?_
  refine wq_then_norm (hK4 ?_)
  refine wc_block ?_
  refine wc_loop (fun n' L wr => ∃ t : Nat, L = [(0, .slice A 128 c), (2, .pointer (some ⟨g2, 0, none⟩)), (3, .pointer (some ⟨g3, 0, none⟩)), (10, .int .i64 (t : Int))] ∧ n' = 16 - t ∧ (t ≤ 16 ∧ Ext w wr ∧ Blk wr g2 110 (nums .u64 (zrs 80)) ∧ Blk wr g3 110 (nums .u64 (Lng.w16 xs t ++ List.replicate (80 - t) 0)))) _ _ ⟨0, rfl, rfl, by omega, E2, C2, B3⟩ ⟨rfl, rfl, rfl, (by first | rfl | exact congrArg some (int_val (by omega))), trivial⟩ ?_
  rintro KL1 n' L wr ⟨t, rfl, rfl, ht, E, C2, D3⟩ hL1
  refine wc_seq ?_; intro K5 hK5
  refine wc_region ?_
  refine wl_y (y_lss rfl rfl) rfl ?_
  refine wl_nil ?_
  refine wq_then_norm (hK5 ?_)
  refine wc_seq ?_; intro K6 hK6
  refine wc_dec rfl (fun hc1 => ?_) (fun hc1 => ?_)
  · skip
    refine wc_skip ?_
    refine wq_then_norm (hK6 ?_)
    refine wc_seq ?_; intro K7 hK7
    refine wc_block ?_
    refine wc_seq ?_; intro K8 hK8
    refine wc_region ?_
    refine wl_y (y_move rfl) rfl ?_
    refine wl_y (y_assign rfl) rfl ?_
    refine wl_nil ?_
    refine wq_then_norm (hK8 ?_)
    refine wc_seq ?_; intro K9 hK9
    refine wc_region ?_
    refine wl_y (y_move rfl) rfl ?_
    refine wl_y (y_move rfl) rfl ?_
    refine wl_y (y_mul rfl rfl (i64_nat (n := 8 * t) (by omega) (by omega))) rfl ?_
    refine wl_y (y_move rfl) rfl ?_
    refine wl_y (y_mul rfl rfl (i64_nat (n := 8 * t) (by omega) (by omega))) rfl ?_
    refine wl_y (y_add rfl rfl (i64_nat (n := 8 * t + 8) (by omega) (by omega))) rfl ?_
    refine wl_y (y_cutlh (s := 1) rfl rfl rfl Try.underlying22 (by kernel_rfl) (j := 8 * t) (h := 8 * t + 8) rfl rfl (by omega) (by omega)) rfl ?_
    refine wl_y (Y.as (y_len_slice rfl Try.underlying22) (congrArg (Value.int .i64) (show (((8 * t + 8 - 8 * t : Nat)) : Int) = 8 from by omega))) rfl ?_
    refine wl_y (y_move rfl) rfl ?_
    refine wl_nil ?_
    refine wq_then_norm (hK9 ?_)
    refine wc_block ?_
    refine wc_loop (fun n' L wq => ∃ i : Nat, L = [(0, .slice A 128 c), (2, .pointer (some ⟨g2, 0, none⟩)), (3, .pointer (some ⟨g3, 0, none⟩)), (4, .int .i64 (t : Int)), (10, .int .i64 (t : Int)), (19, .slice (cutA A c (8 * t) 1) (8 * t + 8 - 8 * t) (c - 8 * t)), (20, .int .i64 8), (21, .int .i64 (i : Int))] ∧ n' = 8 - i ∧ (i ≤ 8 ∧ Ext w wq ∧ Blk wq g2 110 (nums .u64 (zrs 80)) ∧ Blk wq g3 110 (nums .u64 (Lng.w16 xs t ++ Lng.pre xs t i :: List.replicate (79 - t) 0)))) _ _ ⟨0, rfl, rfl, by omega, E, C2, (by rw [zrow (by omega)] at D3; exact D3)⟩ ⟨rfl, rfl, rfl, (by first | rfl | exact congrArg some (int_val (by omega))), (by first | rfl | exact congrArg some (int_val (by omega))), rfl, (by first | rfl | exact congrArg some (int_val (by omega))), (by first | rfl | exact congrArg some (int_val (by omega))), trivial⟩ ?_
    rintro KL2 n' L wq ⟨i, rfl, rfl, hi, F, C2, D3⟩ hL2
    refine wc_seq ?_; intro K10 hK10
    refine wc_region ?_
    refine wl_y (y_lss rfl rfl) rfl ?_
    refine wl_nil ?_
    refine wq_then_norm (hK10 ?_)
    refine wc_seq ?_; intro K11 hK11
    refine wc_dec rfl (fun hc2 => ?_) (fun hc2 => ?_)
    · skip
      refine wc_skip ?_
      refine wq_then_norm (hK11 ?_)
      refine wc_seq ?_; intro K12 hK12
      refine wc_block ?_
      refine wc_seq ?_; intro K13 hK13
      have HW := ((HA.wk F).cutA (j := 8 * t) (by omega) hc).take (k := 8) (by omega)
      obtain ⟨b, off, x, hAc, hx, hcell⟩ := HW.byte (k := i) (by omega)
      have hxl2 := x.toNat_lt
      have hxe : x = xs.getD (8 * t + i) 0 := by rw [hx.out, be8_word xs t i (by omega) (by omega)]
      have hpl := Lng.pre_lt xs t i
      have hpp : 256 ^ i ≤ 72057594037927936 := Nat.pow_le_pow_right (n := 256) (by omega) (show i ≤ 7 by omega)
      have hwl := Lng.w16_length xs t
      refine wc_region ?_
      refine wl_y (y_ixs1 (show some (Value.slice (cutA A c (8 * t) 1) (8 * t + 8 - 8 * t) (c - 8 * t)) = some (Value.slice (some ⟨b, off, none⟩) (8 * t + 8 - 8 * t) (c - 8 * t)) from by rw [hAc]) rfl Try.underlying22 (by kernel_rfl) rfl (by omega)) rfl ?_
      refine wl_y (y_load1 rfl Try.underlying5 rfl hcell) rfl ?_
      refine wl_y (y_assign rfl) rfl ?_
      refine wl_nil ?_
      refine wq_then_norm (hK13 ?_)
      refine wc_region ?_
      refine wl_y (y_move rfl) rfl ?_
      refine wl_y (y_move rfl) rfl ?_
      refine wl_y (y_ixa1 rfl rfl Try.underlying110 (by kernel_rfl) rfl (by omega)) rfl ?_
      refine wl_y (y_load1 rfl Try.underlying23 rfl (D3.get (row_at _ _ _ hwl.symm))) rfl ?_
      refine wl_y (y_shl rfl rfl (by omega) (shl64 _ 8 (by omega))) rfl ?_
      refine wl_y (y_move rfl) rfl ?_
      refine wl_y (y_conv rfl Try.underlying5 Try.underlying23 (IntWalk.u64_in _ ⟨by omega, by omega⟩)) rfl ?_
      refine wl_y (y_or rfl rfl (or8 _ _ (by omega) (by omega))) rfl ?_
      refine wl_y (y_ixa1 rfl rfl Try.underlying110 (by kernel_rfl) rfl (by omega)) rfl ?_
      refine wl_ef (ef_storeB rfl rfl rfl (by kernel_rfl) D3 (Array.getElem?_eq_some_iff.1 (row_at _ _ _ hwl.symm)).1) rfl ?_
      rintro _ w5 ⟨rfl, B5, cg⟩
      rw [row_put _ _ _ _ hwl.symm] at B5; have F5 := F.chg cg hg3w; have G2 := C2.chg cg (by omega)
      refine wl_nil ?_
      refine wq_blk_norm ?_
      refine wq_then_norm (hK12 ?_)
      refine wc_region ?_
      refine wl_y (y_add rfl rfl (i64_ok (by omega) (by omega))) rfl ?_
      refine wl_y (y_move rfl) rfl ?_
      refine wl_nil ?_
      refine wq_then_norm ?_
      refine hL2 _ _ ⟨i + 1, rfl, rfl, by omega, F5, G2, (by rw [Lng.pre, ← hxe]; exact B5)⟩ (by omega) ⟨rfl, rfl, rfl, (by first | rfl | exact congrArg some (int_val (by omega))), (by first | rfl | exact congrArg some (int_val (by omega))), rfl, (by first | rfl | exact congrArg some (int_val (by omega))), (by first | rfl | exact congrArg some (int_val (by omega))), trivial⟩
    · skip
      refine wc_exit ?_
      refine wq_then_exit ?_
      refine wq_then_exit ?_
      refine wq_blk_hit ?_
      refine wq_blk_norm ?_
      refine wq_then_norm (hK7 ?_)
      obtain rfl : i = 8 := by omega
      refine wc_region ?_
      refine wl_y (y_add rfl rfl (i64_ok (by omega) (by omega))) rfl ?_
      refine wl_y (y_move rfl) rfl ?_
      refine wl_nil ?_
      refine wq_then_norm ?_
      refine hL1 _ _ ⟨t + 1, rfl, rfl, by omega, F, C2, (by show Blk _ _ _ (nums .u64 ((Lng.w16 xs t ++ [Lng.be8 xs t]) ++ _)); rw [List.append_assoc, show 80 - (t + 1) = 79 - t from by omega]; exact D3)⟩ (by omega) ⟨rfl, rfl, rfl, (by first | rfl | exact congrArg some (int_val (by omega))), trivial⟩
  · skip
    refine wc_exit ?_
    refine wq_then_exit ?_
    refine wq_then_exit ?_
    refine wq_blk_hit ?_
    refine wq_then_norm (hK3 ?_)
    refine wc_seq ?_; intro K14 hK14
    refine wc_seq ?_; intro K15 hK15
    obtain rfl : t = 16 := by omega
    refine wc_region ?_
    refine wl_y (y_assign rfl) rfl ?_
    refine wl_nil ?_
    refine wq_then_norm (hK15 ?_)
    refine wc_block ?_
    refine wc_loop (fun n' L wr => ∃ t : Nat, L = [(2, .pointer (some ⟨g2, 0, none⟩)), (3, .pointer (some ⟨g3, 0, none⟩)), (7, .int .i64 (t : Int))] ∧ n' = 80 - t ∧ (16 ≤ t ∧ t ≤ 80 ∧ Ext w wr ∧ Blk wr g2 110 (nums .u64 (zrs 80)) ∧ Blk wr g3 110 (nums .u64 (Lng.wt xs t ++ List.replicate (80 - t) 0)))) _ _ ⟨16, rfl, rfl, by omega, by omega, E, C2, D3⟩ ⟨rfl, rfl, (by first | rfl | exact congrArg some (int_val (by omega))), trivial⟩ ?_
    rintro KL3 n' L wr ⟨t, rfl, rfl, ht0, ht, E, C2, D3⟩ hL3
    refine wc_seq ?_; intro K16 hK16
    refine wc_seq ?_; intro K17 hK17
    refine wc_region ?_
    refine wl_y (y_move rfl) rfl ?_
    refine wl_y (y_lss rfl rfl) rfl ?_
    refine wl_nil ?_
    refine wq_then_norm (hK17 ?_)
    refine wc_dec rfl (fun hc3 => ?_) (fun hc3 => ?_)
    · skip
      refine wc_skip ?_
      refine wq_then_norm (hK16 ?_)
      refine wc_seq ?_; intro K18 hK18
      refine wc_block ?_
      refine wc_seq ?_; intro K19 hK19
      have hwl := Lng.wt_length xs t
      have hlt : ∀ j, (Lng.wt xs t).getD j 0 < 18446744073709551616 := Lng.getD_lt (Lng.wt_lt xs t)
      obtain ⟨v15, e15⟩ : ∃ v, v = (Lng.wt xs t).getD (t - 15) 0 := ⟨_, rfl⟩
      obtain ⟨v2, e2⟩ : ∃ v, v = (Lng.wt xs t).getD (t - 2) 0 := ⟨_, rfl⟩
      obtain ⟨v7, e7⟩ : ∃ v, v = (Lng.wt xs t).getD (t - 7) 0 := ⟨_, rfl⟩
      obtain ⟨v16, e16⟩ : ∃ v, v = (Lng.wt xs t).getD (t - 16) 0 := ⟨_, rfl⟩
      have l15 := hlt (t - 15); have l2 := hlt (t - 2); have l7 := hlt (t - 7); have l16 := hlt (t - 16)
      rw [← e15] at l15; rw [← e2] at l2; rw [← e7] at l7; rw [← e16] at l16
      refine wc_draw (by kernel_rfl) 10 rfl ?_; intro wd14 ex hd14
      replace E := E.ext ex
      replace C2 := C2.ext ex
      replace D3 := D3.ext ex
      refine wm_y 0 rfl (by kernel_rfl) (y_move rfl) rfl ?_
      refine wm_y 1 rfl (by kernel_rfl) (y_sub rfl rfl (i64_ok (by omega) (by omega))) rfl ?_
      refine wm_y 2 rfl (by kernel_rfl) (y_ixa1 rfl rfl Try.underlying110 (by kernel_rfl) (j := t - 15) (by omega) (by omega)) rfl ?_
      refine wm_y 3 rfl (by kernel_rfl) (y_load1 rfl Try.underlying23 rfl (D3.get (v := .int .u64 (v15 : Int)) (by rw [e15]; exact row_get _ _ (by omega)))) rfl ?_
      refine wm_y 4 rfl (by kernel_rfl) (y_move rfl) rfl ?_
      refine wm_y 5 rfl (by kernel_rfl) (y_sub rfl rfl (i64_ok (by omega) (by omega))) rfl ?_
      refine wm_y 6 rfl (by kernel_rfl) (y_ixa1 rfl rfl Try.underlying110 (by kernel_rfl) (j := t - 2) (by omega) (by omega)) rfl ?_
      refine wm_y 7 rfl (by kernel_rfl) (y_load1 rfl Try.underlying23 rfl (D3.get (v := .int .u64 (v2 : Int)) (by rw [e2]; exact row_get _ _ (by omega)))) rfl ?_
      refine wm_y 8 rfl (by kernel_rfl) (y_assign rfl) rfl ?_
      refine wm_y 9 rfl (by kernel_rfl) (y_assign rfl) rfl ?_
      refine wm_done (by kernel_rfl) ?_
      refine wq_nop ?_
      refine wq_then_norm (hK19 ?_)
      refine wc_draw (by kernel_rfl) 30 rfl ?_; intro wd15 ex hd15
      replace E := E.ext ex
      replace C2 := C2.ext ex
      replace D3 := D3.ext ex
      refine wm_z 0 rfl (by kernel_rfl) (fun _ => y_move rfl) rfl ?_
      refine wm_z 1 rfl (by kernel_rfl) (fun _ => y_move rfl) rfl ?_
      refine wm_z 3 rfl (by kernel_rfl) (fun _ => y_move rfl) rfl ?_
      refine wm_z 6 rfl (by kernel_rfl) (fun _ => y_move rfl) rfl ?_
      refine wm_z 7 rfl (by kernel_rfl) (fun _ => y_shr rfl rfl (by omega) (shr64 v2 6 (by omega))) rfl ?_
      refine wm_z 9 rfl (by kernel_rfl) (fun _ => y_move rfl) rfl ?_
      refine wm_z 10 rfl (by kernel_rfl) (fun _ => y_sub rfl rfl (i64_ok (by omega) (by omega))) rfl ?_
      refine wm_z 11 rfl (by kernel_rfl) (fun _ => y_ixa1 rfl rfl Try.underlying110 (by kernel_rfl) (j := t - 7) (by omega) (by omega)) rfl ?_
      refine wm_y 12 rfl (by kernel_rfl) (y_load1 rfl Try.underlying23 rfl (D3.get (v := .int .u64 (v7 : Int)) (by rw [e7]; exact row_get _ _ (by omega)))) rfl ?_
      refine wm_z 14 rfl (by kernel_rfl) (fun _ => y_move rfl) rfl ?_
      refine wm_z 16 rfl (by kernel_rfl) (fun _ => y_move rfl) rfl ?_
      refine wm_z 19 rfl (by kernel_rfl) (fun _ => y_move rfl) rfl ?_
      refine wm_z 20 rfl (by kernel_rfl) (fun _ => y_shr rfl rfl (by omega) (shr64 v15 7 (by omega))) rfl ?_
      refine wm_z 23 rfl (by kernel_rfl) (fun _ => y_move rfl) rfl ?_
      refine wm_z 24 rfl (by kernel_rfl) (fun _ => y_sub rfl rfl (i64_ok (by omega) (by omega))) rfl ?_
      refine wm_z 25 rfl (by kernel_rfl) (fun _ => y_ixa1 rfl rfl Try.underlying110 (by kernel_rfl) (j := t - 16) (by omega) (by omega)) rfl ?_
      refine wm_y 26 rfl (by kernel_rfl) (y_load1 rfl Try.underlying23 rfl (D3.get (v := .int .u64 (v16 : Int)) (by rw [e16]; exact row_get _ _ (by omega)))) rfl ?_
      refine wm_one 2 (by kernel_rfl) ?_; refine om_call rfl Try.func153 rfl rfl rfl (lright_any v2 19 _ l2 (by omega) (by omega)) rfl ?_
      rintro e w9 ⟨rfl, ex⟩
      refine ⟨_, rfl, .inr ex, ?_⟩
      replace E := E.ext ex
      replace C2 := C2.ext ex
      replace D3 := D3.ext ex
      skip
      refine wm_one 4 (by kernel_rfl) ?_; refine om_call rfl Try.func153 rfl rfl rfl (lright_any v2 61 _ l2 (by omega) (by omega)) rfl ?_
      rintro e w9 ⟨rfl, ex⟩
      refine ⟨_, rfl, .inr ex, ?_⟩
      replace E := E.ext ex
      replace C2 := C2.ext ex
      replace D3 := D3.ext ex
      skip
      refine wm_z 5 rfl (by kernel_rfl) (fun _ => y_xor rfl rfl rfl) rfl ?_
      refine wm_z 8 rfl (by kernel_rfl) (fun _ => y_xor rfl rfl (lxor3 _ _ _ (Lng.rotr_lt l2 (by omega)) (Lng.rotr_lt l2 (by omega)) (by omega))) rfl ?_
      refine wm_z 13 rfl (by kernel_rfl) (fun _ => y_add rfl rfl rfl) rfl ?_
      refine wm_one 15 (by kernel_rfl) ?_; refine om_call rfl Try.func153 rfl rfl rfl (lright_any v15 1 _ l15 (by omega) (by omega)) rfl ?_
      rintro e w9 ⟨rfl, ex⟩
      refine ⟨_, rfl, .inr ex, ?_⟩
      replace E := E.ext ex
      replace C2 := C2.ext ex
      replace D3 := D3.ext ex
      skip
      refine wm_one 17 (by kernel_rfl) ?_; refine om_call rfl Try.func153 rfl rfl rfl (lright_any v15 8 _ l15 (by omega) (by omega)) rfl ?_
      rintro e w9 ⟨rfl, ex⟩
      refine ⟨_, rfl, .inr ex, ?_⟩
      replace E := E.ext ex
      replace C2 := C2.ext ex
      replace D3 := D3.ext ex
      skip
      refine wm_z 18 rfl (by kernel_rfl) (fun _ => y_xor rfl rfl rfl) rfl ?_
      refine wm_z 21 rfl (by kernel_rfl) (fun _ => y_xor rfl rfl (lxor3 _ _ _ (Lng.rotr_lt l15 (by omega)) (Lng.rotr_lt l15 (by omega)) (by omega))) rfl ?_
      refine wm_z 22 rfl (by kernel_rfl) (fun _ => y_add rfl rfl rfl) rfl ?_
      refine wm_z 27 rfl (by kernel_rfl) (fun _ => Y.as (y_add rfl rfl rfl) (congrArg (Value.int .u64) (show _ = (((Lng.s1 v2 + v7 + Lng.s0 v15 + v16) % 18446744073709551616 : Nat) : Int) from by rw [u64w, u64w, u64w]; simp only [Lng.s1, Lng.s0, Nat.reducePow]; omega))) rfl ?_
      refine wm_z 28 rfl (by kernel_rfl) (fun _ => y_ixa1 rfl rfl Try.underlying110 (by kernel_rfl) rfl (by omega)) rfl ?_
      have D3z := D3; rw [zrow (by omega)] at D3z
      refine wm_one 29 (by kernel_rfl) ?_; refine om_ef rfl (ef_storeB rfl rfl rfl (by kernel_rfl) D3z (Array.getElem?_eq_some_iff.1 (row_at _ _ _ hwl.symm)).1) rfl ?_
      rintro _ w5 ⟨rfl, B5, cg⟩
      refine ⟨.inl rfl, ?_⟩
      rw [row_put _ _ _ _ hwl.symm] at B5; have F5 := E.chg cg hg3w; have G2 := C2.chg cg (by omega)
      refine wm_done (by kernel_rfl) ?_
      refine wq_nop ?_
      refine wq_blk_norm ?_
      refine wq_then_norm (hK18 ?_)
      refine wc_region ?_
      refine wl_y (y_move rfl) rfl ?_
      refine wl_y (y_add rfl rfl (i64_ok (by omega) (by omega))) rfl ?_
      refine wl_y (y_assign rfl) rfl ?_
      refine wl_nil ?_
      refine wq_then_norm ?_
      refine hL3 _ _ ⟨t + 1, rfl, rfl, by omega, by omega, F5, G2, (by rw [Lng.wt_high ht0, List.append_assoc, show 80 - (t + 1) = 80 - 1 - t from by omega]; unfold Lng.nextW; rw [show t - 16 + 14 = t - 2 from by omega, show t - 16 + 9 = t - 7 from by omega, show t - 16 + 1 = t - 15 from by omega, ← e2, ← e7, ← e15, ← e16]; exact B5)⟩ (by omega) ⟨rfl, rfl, (by first | rfl | exact congrArg some (int_val (by omega))), trivial⟩
    · skip
      refine wc_exit ?_
      refine wq_then_exit ?_
      refine wq_then_exit ?_
      refine wq_blk_hit ?_
      refine wq_then_norm (hK14 ?_)
      refine wc_seq ?_; intro K20 hK20
      refine wc_region ?_
      obtain rfl : t = 80 := by omega
      have D4 : Blk wr g3 110 (nums .u64 (Lng.words xs)) := by have := D3; rw [List.replicate_zero, List.append_nil, Lng.wt_words] at this; exact this
      refine wl_y (y_loadw rfl Try.underlying110 rfl (by kernel_rfl) D4) rfl ?_
      refine wl_ef (ef_storeW rfl rfl (by rw [nums_size, Lng.words_length]; kernel_rfl) C2 (by rw [nums_size, nums_size, Lng.words_length]; rfl) (nums_one _ _)) rfl ?_
      rintro _ w8 ⟨rfl, B8, cg⟩
      have G8 := E.chg cg hg2
      refine wl_nil ?_
      refine wq_then_norm (hK20 ?_)
      refine wc_ret ?_
      refine hret rfl B8 (by rw [nums_size, Lng.words_length]) ?_
      exact ⟨rfl, G8⟩
end Go.Proofs.Ytbcbihdfpkeacaa
