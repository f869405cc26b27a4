/- The long digest's roots: powers, Root. -/
import Derived.Test.YtbcbihdfpkeacaaLongF
namespace Go.Proofs.Ytbcbihdfpkeacaa
open Go.RowKit
attribute [local irreducible] Y Ef WL WC WK WQ WM OpM WN WF OpN
theorem lpower_any (A : Option Addr) (c k : Nat) (us : List Nat) (w : World) (HA : Ns .u64 w A 2 us) (hok : Wd.ok us) (hk : k = 2 ∨ k = 3) :
    Calls Try.prog 107 #[.slice A 2 c, .int .i64 (k : Int)] w fun e w' => ∃ g l, e = .returned (.slice (some ⟨g, 0, none⟩) (2 * k) (2 * k)) ∧ Row w' w.heap.size 23 (some ⟨g, 0, none⟩) (2 * k) (2 * k) (l.map (iv .u64)) ∧ Wd.ok l ∧ Wd.val l = Wd.val us ^ k ∧ Ext w w' := by
  have hl := HA.1
  refine vc_enter1 16 Try.func107 rfl rfl rfl rfl ?_
  intro Q hret
  refine wc_seq ?_; intro K1 hK1
  refine wc_region ?_
  refine wl_y (y_assign rfl) rfl ?_
  refine wl_nil ?_
  refine wq_then_norm (hK1 ?_)
  refine wc_seq ?_; intro K2 hK2
  refine wc_region ?_
  refine wl_y (y_move rfl) rfl ?_
  refine wl_y (y_assign rfl) rfl ?_
  refine wl_nil ?_
  refine wq_then_norm (hK2 ?_)
  refine wc_seq ?_; intro K3 hK3
  refine wc_seq ?_; intro K4 hK4
  refine wc_region ?_
  refine wl_y (y_move rfl) rfl ?_
  refine wl_y (y_sub rfl rfl (i64_nat (n := k - 1) (by omega) (by omega))) rfl ?_
  refine wl_y (y_move rfl) rfl ?_
  refine wl_nil ?_
  refine wq_then_norm (hK4 ?_)
  refine wc_block ?_
  refine wc_loop (fun n' L wr => ∃ (i nP cP : Nat) (AP : Option Addr) (l : List Nat), L = [(0, .slice A 2 c), (5, .slice AP nP cP), (8, .int .i64 ((k - 1 : Nat) : Int)), (9, .int .i64 (i : Int))] ∧ n' = k - 1 - i ∧ (i ≤ k - 1 ∧ Ext w wr ∧ Ns .u64 wr AP nP l ∧ Wd.ok l ∧ nP = 2 * (i + 1) ∧ Wd.val l = Wd.val us ^ (i + 1) ∧ (i = 0 ∨ ∃ g, AP = some ⟨g, 0, none⟩ ∧ cP = nP ∧ Row wr w.heap.size 23 (some ⟨g, 0, none⟩) nP nP (l.map (iv .u64))))) _ _ ⟨0, 2, c, A, us, rfl, rfl, by omega, Ext.refl _, HA, hok, rfl, (by rw [Nat.zero_add, Nat.pow_one]), .inl rfl⟩ ⟨rfl, rfl, (by first | rfl | exact congrArg some (int_val (by omega))), (by first | rfl | exact congrArg some (int_val (by omega))), trivial⟩ ?_
  rintro KL1 n' L wr ⟨i, nP, cP, AP, l, rfl, rfl, hi, E, H, ho, hn, hv, hr⟩ hL1
  refine wc_seq ?_; intro K5 hK5
  refine wc_region ?_
  refine wl_y (y_lss rfl rfl) rfl ?_
  refine wl_nil ?_
  refine wq_then_norm (hK5 ?_)
  refine wc_seq ?_; intro K6 hK6
  refine wc_dec rfl (fun hc1 => ?_) (fun hc1 => ?_)
  · skip
    refine wc_skip ?_
    refine wq_then_norm (hK6 ?_)
    refine wc_seq ?_; intro K7 hK7
    refine wc_block ?_
    refine wc_region ?_
    refine wl_y (y_move rfl) rfl ?_
    refine wl_y (y_move rfl) rfl ?_
    refine wl_call Try.func148 rfl rfl rfl (lmul_any AP A nP cP 2 c l us _ H (HA.wk E) ho hok (by omega) (by omega)) rfl ?_
    rintro e w2 ⟨g, q, rfl, R, hq, hvq, ex⟩
    refine ⟨_, rfl, ?_⟩
    have E2 := E.ext ex; have R2 := Row.lower R E.size
    refine wl_y (y_assign rfl) rfl ?_
    refine wl_nil ?_
    refine wq_blk_norm ?_
    refine wq_then_norm (hK7 ?_)
    refine wc_region ?_
    refine wl_y (y_add rfl rfl (i64_ok (by omega) (by omega))) rfl ?_
    refine wl_y (y_move rfl) rfl ?_
    refine wl_nil ?_
    refine wq_then_norm ?_
    refine hL1 _ _ ⟨i + 1, nP + 2, nP + 2, some ⟨g, 0, none⟩, q, rfl, rfl, by omega, E2, Ns.of_row R, hq, by omega, (by rw [hvq, hv, ← Nat.pow_succ]), .inr ⟨g, rfl, rfl, R2⟩⟩ (by omega) ⟨rfl, rfl, (by first | rfl | exact congrArg some (int_val (by omega))), (by first | rfl | exact congrArg some (int_val (by omega))), trivial⟩
  · skip
    refine wc_exit ?_
    refine wq_then_exit ?_
    refine wq_then_exit ?_
    refine wq_blk_hit ?_
    refine wq_then_norm (hK3 ?_)
    refine wc_seq ?_; intro K8 hK8
    refine wc_region ?_
    refine wl_y (y_move rfl) rfl ?_
    refine wl_y (y_assign rfl) rfl ?_
    refine wl_nil ?_
    refine wq_then_norm (hK8 ?_)
    refine wc_ret ?_
    refine hret rfl ?_
    obtain rfl : i = k - 1 := by omega
    obtain ⟨g, rfl, rfl, R⟩ := hr.resolve_left (by omega)
    obtain rfl : cP = 2 * k := by omega
    exact ⟨g, l, rfl, R, ho, by rw [hv, show k - 1 + 1 = k from by omega], E⟩
theorem two_val (x : Nat) : Wd.val [x % 18446744073709551616, x / 18446744073709551616] = x := by
  simp only [Wd.val]; omega
theorem two_ok {x : Nat} (h : x < 19342813113834066795298816) : Wd.ok [x % 18446744073709551616, x / 18446744073709551616] := fun d hd => by
  simp only [List.mem_cons, List.not_mem_nil, or_false] at hd
  rcases hd with rfl | rfl <;> omega
theorem shl1 (k : Nat) (h : k < 64) : IntKind.u64.wrap ((1 : Int) * 2 ^ (min ((k : Int)).toNat IntKind.u64.bits)) = ((2 ^ k : Nat) : Int) := by
  have := shl64 1 k (by omega)
  rw [show ((1 : Nat) : Int) = 1 from rfl] at this
  rw [this, Nat.one_mul, Nat.mod_eq_of_lt]
  exact Nat.lt_of_lt_of_le (Nat.pow_lt_pow_right (by omega) h) (Nat.le_refl _)
theorem lroot_no (n : Nat) (k : Int) (w : World) (hn : n < 18446744073709551616) (h : k < 2 ∨ 3 < k ∨ 1048576 < n) :
    Calls Try.prog 38 #[.int .u64 (n : Int), .int .i64 k] w fun e w' => e = .returned (.int .u64 0) ∧ Ext w w' := by
  refine vc_enter1 53 Try.func38 rfl rfl rfl rfl ?_
  intro Q hret
  refine wc_seq ?_; intro K1 hK1
  refine wc_region ?_
  refine wl_y (y_assign rfl) rfl ?_
  refine wl_nil ?_
  refine wq_then_norm (hK1 ?_)
  refine wc_scope2 0 (fun n' L w => L = [(0, .int .u64 (n : Int)), (1, .int .i64 k), (5, .slice none 0 0), (6, .slice none 0 0)] ∧ n' = 0 ∧ (False)) rfl ?_ ?_
  · rintro G n' L w ⟨rfl, rfl, hF⟩ hG0
    exact hF.elim
  · intro G hG0
    refine wc_seq ?_; intro K2 hK2
    refine wc_seq ?_; intro K3 hK3
    refine wc_region ?_
    refine wl_y (y_move rfl) rfl ?_
    refine wl_yask (y_lss rfl rfl) rfl (fun h1 => ?_) (fun h1 => ?_)
    · skip
      refine wl_y (y_move rfl) rfl ?_
      refine wl_gno 9 rfl rfl rfl rfl ?_
      refine wl_gno 9 rfl rfl rfl rfl ?_
      refine wl_y (y_pickt rfl rfl) rfl ?_
      refine wl_y (y_move rfl) rfl ?_
      refine wl_gno 13 rfl rfl rfl rfl ?_
      refine wl_gno 13 rfl rfl rfl rfl ?_
      refine wl_y (y_pickt rfl rfl) rfl ?_
      refine wl_nil ?_
      refine wq_then_norm (hK3 ?_)
      refine wc_true rfl rfl ?_
      refine wc_seq ?_; intro K4 hK4
      refine wc_region ?_
      refine wl_y (y_assign rfl) rfl ?_
      refine wl_nil ?_
      refine wq_then_norm (hK4 ?_)
      refine wc_ret ?_
      refine wq_then_ret ?_
      refine wq_jump_ret ?_
      refine hret rfl ?_
      exact ⟨rfl, Ext.refl _⟩
    · skip
      refine wl_y (y_move rfl) rfl ?_
      refine wl_gy 9 rfl rfl (y_move rfl) rfl ?_
      refine wl_gyask 9 rfl rfl (y_gtr rfl rfl) rfl (fun h2 => ?_) (fun h2 => ?_)
      · skip
        refine wl_y (y_pickf rfl rfl) rfl ?_
        refine wl_y (y_move rfl) rfl ?_
        refine wl_gno 13 rfl rfl rfl rfl ?_
        refine wl_gno 13 rfl rfl rfl rfl ?_
        refine wl_y (y_pickt rfl rfl) rfl ?_
        refine wl_nil ?_
        refine wq_then_norm (hK3 ?_)
        refine wc_true rfl rfl ?_
        refine wc_seq ?_; intro K5 hK5
        refine wc_region ?_
        refine wl_y (y_assign rfl) rfl ?_
        refine wl_nil ?_
        refine wq_then_norm (hK5 ?_)
        refine wc_ret ?_
        refine wq_then_ret ?_
        refine wq_jump_ret ?_
        refine hret rfl ?_
        exact ⟨rfl, Ext.refl _⟩
      · skip
        refine wl_y (y_pickf rfl rfl) rfl ?_
        refine wl_y (y_move rfl) rfl ?_
        refine wl_gy 13 rfl rfl (y_move rfl) rfl ?_
        refine wl_gyask 13 rfl rfl (y_gtr rfl rfl) rfl (fun h3 => ?_) (fun h3 => ?_)
        · skip
          refine wl_y (y_pickf rfl rfl) rfl ?_
          refine wl_nil ?_
          refine wq_then_norm (hK3 ?_)
          refine wc_true rfl rfl ?_
          refine wc_seq ?_; intro K6 hK6
          refine wc_region ?_
          refine wl_y (y_assign rfl) rfl ?_
          refine wl_nil ?_
          refine wq_then_norm (hK6 ?_)
          refine wc_ret ?_
          refine wq_then_ret ?_
          refine wq_jump_ret ?_
          refine hret rfl ?_
          exact ⟨rfl, Ext.refl _⟩
        · skip
          exfalso; omega
theorem orw (a b : Nat) (h : a % 2 ^ (b + 1) = 0) (ha : a < 18446744073709551616) (hb : b < 64) : bits .or .u64 ((a : Nat) : Int) ((2 ^ b : Nat) : Int) = ((a + 2 ^ b : Nat) : Int) := by
  rw [u64_or_nat _ _ ha (Nat.lt_of_lt_of_le (Nat.pow_lt_pow_right (by omega) hb) (Nat.le_refl _)), Lng.or_bit h]
theorem andw (a b : Nat) (h : a % 2 ^ (b + 1) = 0) (ha : a + 2 ^ b < 18446744073709551616) : bits .andNot .u64 ((a + 2 ^ b : Nat) : Int) ((2 ^ b : Nat) : Int) = ((a : Nat) : Int) := by
  rw [u64_andNot_nat _ _ ha (by omega), Lng.and_bit h ha]
/-- The word of a number in which bit i lies, and what becomes of it. -/
theorem bit_word {x i : Nat} (h : x % 2 ^ (i + 1) = 0) (hi : i < 84) (hx : x < 19342813113834066795298816) :
    ∃ wd, (nums .u64 [x % 18446744073709551616, x / 18446744073709551616])[0 + i / 64]? = some (.int .u64 ((wd : Nat) : Int)) ∧ wd % 2 ^ (i % 64 + 1) = 0 ∧ wd + 2 ^ (i % 64) < 18446744073709551616 ∧ x + 2 ^ i < 19342813113834066795298816
      ∧ (nums .u64 [x % 18446744073709551616, x / 18446744073709551616]).setIfInBounds (0 + i / 64) (.int .u64 ((wd + 2 ^ (i % 64) : Nat) : Int)) = nums .u64 [(x + 2 ^ i) % 18446744073709551616, (x + 2 ^ i) / 18446744073709551616]
      ∧ (nums .u64 [(x + 2 ^ i) % 18446744073709551616, (x + 2 ^ i) / 18446744073709551616])[0 + i / 64]? = some (.int .u64 ((wd + 2 ^ (i % 64) : Nat) : Int))
      ∧ (nums .u64 [(x + 2 ^ i) % 18446744073709551616, (x + 2 ^ i) / 18446744073709551616]).setIfInBounds (0 + i / 64) (.int .u64 ((wd : Nat) : Int)) = nums .u64 [x % 18446744073709551616, x / 18446744073709551616] := by
  have hy : x + 2 ^ i < 19342813113834066795298816 := by
    have hd : (2 : Nat) ^ (i + 1) ∣ 19342813113834066795298816 := by
      rw [show (19342813113834066795298816 : Nat) = 2 ^ 84 from rfl]; exact Nat.pow_dvd_pow 2 (by omega)
    obtain ⟨q, hq⟩ := hd
    obtain ⟨r, hr⟩ := Nat.dvd_of_mod_eq_zero h
    rw [hr, hq] at hx
    have hrq : r < q := Nat.lt_of_mul_lt_mul_left hx
    have h3 : (2 : Nat) ^ i < 2 ^ (i + 1) := Nat.pow_lt_pow_right (by omega) (by omega)
    have := Nat.mul_le_mul_left (2 ^ (i + 1)) hrq
    rw [Nat.mul_succ] at this
    rw [hr, hq]; omega
  rcases Nat.lt_or_ge i 64 with h64 | h64
  · obtain ⟨h1, h2, h3⟩ := Lng.put_low h h64
    refine ⟨x % 18446744073709551616, ?_⟩
    rw [show i / 64 = 0 from by omega, show i % 64 = i from by omega, h2, h3]
    exact ⟨rfl, h1, by omega, hy, rfl, rfl, rfl⟩
  · obtain ⟨h1, h2, h3⟩ := Lng.put_high h h64
    refine ⟨x / 18446744073709551616, ?_⟩
    rw [show i / 64 = 1 from by omega, show i % 64 = i - 64 from by omega, h2, h3]
    have : 2 ^ (i - 64) ≤ 2 ^ 20 := Nat.pow_le_pow_right (by omega) (by omega)
    exact ⟨rfl, h1, by omega, hy, rfl, rfl, rfl⟩
theorem val_snoc0 (l : List Nat) : Wd.val (l ++ [0]) = Wd.val l := by
  rw [Wd.val_append]; simp [Wd.val]
theorem lroot_any (n k : Nat) (w : World) (hn : n ≤ 1048576) (hk : k = 2 ∨ k = 3) :
    Calls Try.prog 38 #[.int .u64 (n : Int), .int .i64 (k : Int)] w fun e w' => e = .returned (.int .u64 ((Lng.root n k : Nat) : Int)) ∧ Ext w w' := by
  obtain ⟨T, hT⟩ : ∃ T, T = n * 2 ^ (64 * k) := ⟨_, rfl⟩
  have hTW : T = n * 18446744073709551616 ^ k := by rw [hT, Nat.pow_mul]
  refine vc_enter1 53 Try.func38 rfl rfl rfl rfl ?_
  intro Q hret
  refine wc_seq ?_; intro K1 hK1
  refine wc_region ?_
  refine wl_y (y_assign rfl) rfl ?_
  refine wl_nil ?_
  refine wq_then_norm (hK1 ?_)
  refine wc_scope2 0 (fun n' L wr => ∃ (j x g5 : Nat), L = [(0, .int .u64 (n : Int)), (1, .int .i64 (k : Int)), (5, .slice (some ⟨g5, 0, none⟩) 2 2), (6, .int .i64 (j : Int))] ∧ n' = 1 + j ∧ (j ≤ 84 ∧ w.heap.size ≤ g5 ∧ x % 2 ^ j = 0 ∧ x < 19342813113834066795298816 ∧ Ext w wr ∧ Blk wr g5 23 (nums .u64 [x % 18446744073709551616, x / 18446744073709551616]) ∧ Big.rootF T k j x = Lng.full n k)) rfl ?_ ?_
  · rintro G n' L wr ⟨j, x, g5, rfl, rfl, hj, hg5, hx, hxl, E, D5, hF⟩ hG0
    refine wc_seq ?_; intro K2 hK2
    refine wc_region ?_
    refine wl_y (y_move rfl) rfl ?_
    refine wl_y (y_sub rfl rfl (i64_ok (by omega) (by omega))) rfl ?_
    refine wl_y (y_assign rfl) rfl ?_
    refine wl_nil ?_
    refine wq_then_norm (hK2 ?_)
    refine wc_seq ?_; intro K3 hK3
    refine wc_seq ?_; intro K4 hK4
    refine wc_region ?_
    refine wl_y (y_move rfl) rfl ?_
    refine wl_y (y_geq rfl rfl) rfl ?_
    refine wl_nil ?_
    refine wq_then_norm (hK4 ?_)
    refine wc_dec rfl (fun hc2 => ?_) (fun hc2 => ?_)
    · skip
      obtain ⟨i, rfl⟩ : ∃ i, j = i + 1 := ⟨j - 1, by omega⟩
      rw [show (((i + 1 : Nat) : Int) - 1) = (i : Int) by omega]
      obtain ⟨wd, q1, q2, q3, q4, q5, q6, q7⟩ := bit_word hx (by omega) hxl
      obtain ⟨y, hy⟩ : ∃ y, y = x + 2 ^ i := ⟨_, rfl⟩
      rw [← hy] at q4 q5 q6 q7
      refine wc_seq ?_; intro K5 hK5
      refine wc_draw (by kernel_rfl) 11 rfl ?_; intro wd7 ex hd7
      replace E := E.ext ex
      replace D5 := D5.ext ex
      refine wm_z 0 rfl (by kernel_rfl) (fun _ => y_move rfl) rfl ?_
      refine wm_z 1 rfl (by kernel_rfl) (fun _ => y_move rfl) rfl ?_
      refine wm_z 2 rfl (by kernel_rfl) (fun _ => y_quo rfl rfl (by omega) (show IntKind.i64.wrap ((i : Int).tdiv 64) = ((i / 64 : Nat) : Int) from i64_nat rfl (by omega))) rfl ?_
      refine wm_z 3 rfl (by kernel_rfl) (fun _ => y_ixs1 rfl rfl Try.underlying104 (by kernel_rfl) (j := i / 64) rfl (by omega)) rfl ?_
      refine wm_y 4 rfl (by kernel_rfl) (y_load1 rfl Try.underlying23 rfl (D5.get q1)) rfl ?_
      refine wm_z 5 rfl (by kernel_rfl) (fun _ => y_move rfl) rfl ?_
      refine wm_z 6 rfl (by kernel_rfl) (fun _ => y_rem rfl rfl (by omega) (show ((i : Int).tmod 64) = ((i % 64 : Nat) : Int) from rfl)) rfl ?_
      refine wm_z 7 rfl (by kernel_rfl) (fun _ => y_shl rfl rfl (by omega) (shl1 (i % 64) (by omega))) rfl ?_
      refine wm_z 8 rfl (by kernel_rfl) (fun _ => y_or rfl rfl (orw wd (i % 64) q2 (by omega) (by omega))) rfl ?_
      refine wm_z 9 rfl (by kernel_rfl) (fun _ => y_ixs1 rfl rfl Try.underlying104 (by kernel_rfl) (j := i / 64) rfl (by omega)) rfl ?_
      refine wm_one 10 (by kernel_rfl) ?_; refine om_ef rfl (ef_storeB rfl rfl rfl (by kernel_rfl) D5 (Array.getElem?_eq_some_iff.1 q1).1) rfl ?_
      rintro _ w2 ⟨rfl, D6, cg⟩
      refine ⟨.inl rfl, ?_⟩
      rw [q5] at D6; replace E := E.chg cg hg5
      refine wm_done (by kernel_rfl) ?_
      refine wq_nop ?_
      refine wq_then_norm (hK5 ?_)
      refine wc_seq ?_; intro K6 hK6
      refine wc_seq ?_; intro K7 hK7
      refine wc_region ?_
      refine wl_y (y_move rfl) rfl ?_
      refine wl_y (y_move rfl) rfl ?_
      have hs2 := E.size; have hl6 := D6.lt
      refine wl_call Try.func107 rfl rfl rfl (lpower_any _ 2 k _ _ (Ns.blk D6 rfl) (two_ok q4) hk) rfl ?_
      rintro e w3 ⟨gp, l, rfl, R, hol, hvl, ex⟩
      refine ⟨_, rfl, ?_⟩
      replace E := E.ext ex
      replace D6 := D6.ext ex
      rw [two_val] at hvl; have hll := R.len; rw [List.length_map] at hll; have X := ex
      refine wl_ef (ef_lit (z := .int .u64 0) Try.underlying104 (by kernel_rfl) rfl rfl rfl rfl rfl) rfl ?_
      rintro _ w4 ⟨g4, rfl, B4, hg4, ex⟩
      replace E := E.ext ex
      replace D6 := D6.ext ex
      replace R := R.ext ex
      replace X := X.ext ex
      have hs4 := X.size
      refine wl_ef (ef_app rfl rfl eltU R (At.blk (vs := [0].map (iv .u64)) (B4.congr rfl)) rfl (by intro u hu; exact iv_one u hu) (by omega) (by omega) hs4) rfl ?_
      rintro _ w5 ⟨A5, c5, rfl, R5, be, gr, hl5⟩
      replace E := E.trans (be.mono hs2); replace D6 := D6.below be hl6; have R6 := R5.ivs; have hc5 := R5.cap; have hok6 : Wd.ok (l ++ [0]) := Wd.ok_append hol (fun d hd => by simp at hd; omega)
      refine wl_y (y_move rfl) rfl ?_
      refine wl_y (y_move rfl) rfl ?_
      refine wl_call Try.func106 rfl rfl rfl (over_any A5 (2 * k + 1) c5 (l ++ [0]) n k _ (Ns.of_row R6) hok6 (by omega) (by omega) hc5 (by omega)) rfl ?_
      rintro e w6 ⟨rfl, ex⟩
      refine ⟨_, rfl, ?_⟩
      replace E := E.ext ex
      replace D6 := D6.ext ex
      replace R6 := R6.ext ex
      rw [val_snoc0, hvl, ← hTW]
      refine wl_nil ?_
      refine wq_then_norm (hK7 ?_)
      refine wc_dec rfl (fun hc3 => ?_) (fun hc3 => ?_)
      · skip
        have hno : ¬ (x + 2 ^ i) ^ k ≤ T := by rw [← hy]; omega
        refine wc_draw (by kernel_rfl) 11 rfl ?_; intro wd9 ex hd9
        replace E := E.ext ex
        replace D6 := D6.ext ex
        replace R6 := R6.ext ex
        refine wm_z 0 rfl (by kernel_rfl) (fun _ => y_move rfl) rfl ?_
        refine wm_z 1 rfl (by kernel_rfl) (fun _ => y_move rfl) rfl ?_
        refine wm_z 2 rfl (by kernel_rfl) (fun _ => y_quo rfl rfl (by omega) (show IntKind.i64.wrap ((i : Int).tdiv 64) = ((i / 64 : Nat) : Int) from i64_nat rfl (by omega))) rfl ?_
        refine wm_z 3 rfl (by kernel_rfl) (fun _ => y_ixs1 rfl rfl Try.underlying104 (by kernel_rfl) (j := i / 64) rfl (by omega)) rfl ?_
        refine wm_y 4 rfl (by kernel_rfl) (y_load1 rfl Try.underlying23 rfl (D6.get q6)) rfl ?_
        refine wm_z 5 rfl (by kernel_rfl) (fun _ => y_move rfl) rfl ?_
        refine wm_z 6 rfl (by kernel_rfl) (fun _ => y_rem rfl rfl (by omega) (show ((i : Int).tmod 64) = ((i % 64 : Nat) : Int) from rfl)) rfl ?_
        refine wm_z 7 rfl (by kernel_rfl) (fun _ => y_shl rfl rfl (by omega) (shl1 (i % 64) (by omega))) rfl ?_
        refine wm_z 8 rfl (by kernel_rfl) (fun _ => y_andNot rfl rfl (andw wd (i % 64) q2 q3)) rfl ?_
        refine wm_z 9 rfl (by kernel_rfl) (fun _ => y_ixs1 rfl rfl Try.underlying104 (by kernel_rfl) (j := i / 64) rfl (by omega)) rfl ?_
        refine wm_one 10 (by kernel_rfl) ?_; refine om_ef rfl (ef_storeB rfl rfl rfl (by kernel_rfl) D6 (Array.getElem?_eq_some_iff.1 q6).1) rfl ?_
        rintro _ w7 ⟨rfl, D7, cg⟩
        refine ⟨.inl rfl, ?_⟩
        rw [q7] at D7; replace E := E.chg cg hg5
        refine wm_done (by kernel_rfl) ?_
        refine wq_nop ?_
        refine wq_then_norm (hK6 ?_)
        refine wc_goto ?_
        refine wq_then_goto ?_
        refine wq_jump_hit ?_
        refine hG0 _ _ ⟨i, x, g5, rfl, rfl, by omega, hg5, (by have := Nat.mod_mod_of_dvd x (Nat.pow_dvd_pow 2 (show i ≤ i + 1 by omega)); rw [hx, Nat.zero_mod] at this; exact this.symm), hxl, E, D7, (by rw [← hF, Big.rootF_no hno])⟩ (by omega) ⟨(by first | rfl | exact congrArg some (int_val (by omega))), (by first | rfl | exact congrArg some (int_val (by omega))), rfl, (by first | rfl | exact congrArg some (int_val (by omega))), trivial⟩
      · skip
        refine wc_skip ?_
        refine wq_then_norm (hK6 ?_)
        refine wc_goto ?_
        refine wq_then_goto ?_
        refine wq_jump_hit ?_
        refine hG0 _ _ ⟨i, y, g5, rfl, rfl, by omega, hg5, (by have := Nat.mod_mod_of_dvd x (Nat.pow_dvd_pow 2 (show i ≤ i + 1 by omega)); rw [hx, Nat.zero_mod] at this; rw [hy, Nat.add_mod_right]; exact this.symm), q4, E, D6, (by rw [← hF, Big.rootF_yes (by rw [← hy]; omega), hy])⟩ (by omega) ⟨(by first | rfl | exact congrArg some (int_val (by omega))), (by first | rfl | exact congrArg some (int_val (by omega))), rfl, (by first | rfl | exact congrArg some (int_val (by omega))), trivial⟩
    · skip
      refine wc_skip ?_
      refine wq_then_norm (hK3 ?_)
      refine wc_seq ?_; intro K8 hK8
      refine wc_region ?_
      refine wl_y (y_move rfl) rfl ?_
      refine wl_y (y_ixs1 rfl rfl Try.underlying104 (by kernel_rfl) (j := 0) rfl (by omega)) rfl ?_
      refine wl_y (y_load1 rfl Try.underlying23 rfl (D5.get (i := 0) rfl)) rfl ?_
      refine wl_y (y_assign rfl) rfl ?_
      refine wl_nil ?_
      refine wq_then_norm (hK8 ?_)
      refine wc_ret ?_
      refine wq_jump_ret ?_
      refine hret rfl ?_
      obtain rfl : j = 0 := by omega
      exact ⟨by unfold Lng.root; rw [← hF]; rfl, E⟩
  · intro G hG0
    refine wc_seq ?_; intro K9 hK9
    refine wc_seq ?_; intro K10 hK10
    refine wc_region ?_
    refine wl_y (y_move rfl) rfl ?_
    refine wl_y (Y.as (y_lss rfl rfl) (congrArg Value.bool (decide_eq_false (by omega)))) rfl ?_
    refine wl_y (y_move rfl) rfl ?_
    refine wl_gy 9 rfl rfl (y_move rfl) rfl ?_
    refine wl_gy 9 rfl rfl (Y.as (y_gtr rfl rfl) (congrArg Value.bool (decide_eq_false (by omega)))) rfl ?_
    refine wl_y (y_pickf rfl rfl) rfl ?_
    refine wl_y (y_move rfl) rfl ?_
    refine wl_gy 13 rfl rfl (y_move rfl) rfl ?_
    refine wl_gy 13 rfl rfl (Y.as (y_gtr rfl rfl) (congrArg Value.bool (decide_eq_false (by omega)))) rfl ?_
    refine wl_y (y_pickf rfl rfl) rfl ?_
    refine wl_nil ?_
    refine wq_then_norm (hK10 ?_)
    refine wc_false rfl rfl ?_
    refine wc_skip ?_
    refine wq_then_norm (hK9 ?_)
    refine wc_seq ?_; intro K11 hK11
    refine wc_region ?_
    refine wl_ef (ef_lit (z := .int .u64 0) Try.underlying104 (by kernel_rfl) rfl rfl rfl rfl rfl) rfl ?_
    rintro _ w1 ⟨g5, rfl, B5, hg5, ex⟩
    have E1 := ex
    refine wl_y (y_assign rfl) rfl ?_
    refine wl_nil ?_
    refine wq_then_norm (hK11 ?_)
    refine wc_seq ?_; intro K12 hK12
    refine wc_region ?_
    refine wl_y (y_assign rfl) rfl ?_
    refine wl_nil ?_
    refine wq_then_norm (hK12 ?_)
    refine wc_seq ?_; intro KG0 hKG0
    refine wc_label ?_
    refine wq_then_norm (hKG0 ?_)
    exact hG0 _ _ ⟨84, 0, g5, rfl, rfl, by omega, hg5, by omega, by omega, E1, B5, (by rw [hT]; rfl)⟩ ⟨(by first | rfl | exact congrArg some (int_val (by omega))), (by first | rfl | exact congrArg some (int_val (by omega))), rfl, (by first | rfl | exact congrArg some (int_val (by omega))), trivial⟩
end Go.Proofs.Ytbcbihdfpkeacaa
