/- The long digest's roots: products of words, what is over, powers, Root. -/
import Derived.Test.YtbcbihdfpkeacaaLongQ
import Derived.Test.YtbcbihdfpkeacaaLongE
import Derived.Test.YtbcbihdfpkeacaaFieldM
namespace Go.Proofs.Ytbcbihdfpkeacaa
open Go.RowKit
attribute [local irreducible] Y Ef WL WC WK WQ WM OpM WN WF OpN
theorem lmul_any (A B : Option Addr) (n c m d : Nat) (us vs : List Nat) (w : World) (HA : Ns .u64 w A n us) (HB : Ns .u64 w B m vs) (oa : Wd.ok us) (ob : Wd.ok vs) (hn : n ≤ 100) (hm : m ≤ 100) :
    Calls Try.prog 148 #[.slice A n c, .slice B m d] w fun e w' => ∃ g l, e = .returned (.slice (some ⟨g, 0, none⟩) (n + m) (n + m)) ∧ Row w' w.heap.size 23 (some ⟨g, 0, none⟩) (n + m) (n + m) (l.map (iv .u64)) ∧ Wd.ok l ∧ Wd.val l = Wd.val us * Wd.val vs ∧ Ext w w' := by
  have hla := HA.1; have hlb := HB.1
  refine vc_enter1 79 Try.func148 rfl rfl rfl rfl ?_
  intro Q hret
  refine wc_seq ?_; intro K1 hK1
  refine wc_region ?_
  refine wl_y (y_assign rfl) rfl ?_
  refine wl_nil ?_
  refine wq_then_norm (hK1 ?_)
  refine wc_seq ?_; intro K2 hK2
  refine wc_region ?_
  refine wl_y (y_move rfl) rfl ?_
  refine wl_y (y_len_slice rfl Try.underlying104) rfl ?_
  refine wl_y (y_move rfl) rfl ?_
  refine wl_y (y_len_slice rfl Try.underlying104) rfl ?_
  refine wl_y (y_add rfl rfl (i64_nat (n := n + m) (by omega) (by omega))) rfl ?_
  refine wl_ef (ef_make (n := n + m) (z := .int .u64 0) (bytes := 8) rfl rfl Try.underlying104 (by kernel_rfl) rfl rfl rfl rfl (by omega) (by omega)) rfl ?_
  rintro _ w1 ⟨g, rfl, B0, hg, ex⟩
  have E0 := ex; have B1 : Blk w1 g 23 (nums .u64 (List.replicate (n + m) 0)) := B0.congr (by simp [nums, iv])
  refine wl_y (y_assign rfl) rfl ?_
  refine wl_nil ?_
  refine wq_then_norm (hK2 ?_)
  refine wc_seq ?_; intro K3 hK3
  refine wc_seq ?_; intro K4 hK4
  refine wc_region ?_
  refine wl_y (y_move rfl) rfl ?_
  refine wl_y (y_len_slice rfl Try.underlying104) rfl ?_
  refine wl_y (y_move rfl) rfl ?_
  refine wl_nil ?_
  refine wq_then_norm (hK4 ?_)
  refine wc_block ?_
  refine wc_loop (fun n' L wr => ∃ (i : Nat) (l : List Nat), L = [(1, .slice B m d), (5, .slice (some ⟨g, 0, none⟩) (n + m) (n + m)), (20, .slice A n c), (21, .int .i64 (n : Int)), (22, .int .i64 (i : Int))] ∧ n' = n - i ∧ (i ≤ n ∧ Ext w wr ∧ Blk wr g 23 (nums .u64 l) ∧ l.length = n + m ∧ Wd.ok l ∧ Wd.val l = Wd.val (us.take i) * Wd.val vs ∧ ∀ j, i + m ≤ j → l.getD j 0 = 0)) _ _ ⟨0, List.replicate (n + m) 0, rfl, rfl, by omega, E0, B1, by simp, Wd.ok_zeros _, by rw [Wd.val_zeros, List.take_zero, Wd.val, Nat.zero_mul], fun j _ => Wd.zeros_get _ _⟩ ⟨rfl, rfl, rfl, (by first | rfl | exact congrArg some (int_val (by omega))), (by first | rfl | exact congrArg some (int_val (by omega))), trivial⟩ ?_
  rintro KL1 n' L wr ⟨i, l, rfl, rfl, hi, E, Bl, hl, hok, hv, hz⟩ hL1
  refine wc_seq ?_; intro K5 hK5
  refine wc_region ?_
  refine wl_y (y_lss rfl rfl) rfl ?_
  refine wl_nil ?_
  refine wq_then_norm (hK5 ?_)
  refine wc_seq ?_; intro K6 hK6
  refine wc_dec rfl (fun hc1 => ?_) (fun hc1 => ?_)
  · skip
    refine wc_skip ?_
    refine wq_then_norm (hK6 ?_)
    refine wc_seq ?_; intro K7 hK7
    refine wc_block ?_
    refine wc_seq ?_; intro K8 hK8
    have hin : i < n := by omega
    obtain ⟨b1, off1, x, hAe, hx', hcx⟩ := (HA.wk E).cell (i := i) (by omega)
    have hx := hx'.out
    have hxl := Wd.ok_get oa i; rw [← hx] at hxl
    refine wc_region ?_
    refine wl_y (y_move rfl) rfl ?_
    refine wl_y (y_ixs1 (show some (Value.slice A n c) = some (Value.slice (some ⟨b1, off1, none⟩) n c) from by rw [hAe]) rfl Try.underlying104 (by kernel_rfl) rfl (by omega)) rfl ?_
    refine wl_y (y_load1 rfl Try.underlying23 rfl hcx) rfl ?_
    refine wl_y (y_assign rfl) rfl ?_
    refine wl_y (y_assign rfl) rfl ?_
    refine wl_nil ?_
    refine wq_then_norm (hK8 ?_)
    refine wc_seq ?_; intro K9 hK9
    refine wc_region ?_
    refine wl_y (y_assign rfl) rfl ?_
    refine wl_nil ?_
    refine wq_then_norm (hK9 ?_)
    refine wc_seq ?_; intro K10 hK10
    refine wc_seq ?_; intro K11 hK11
    refine wc_region ?_
    refine wl_y (y_move rfl) rfl ?_
    refine wl_y (y_len_slice rfl Try.underlying104) rfl ?_
    refine wl_y (y_move rfl) rfl ?_
    refine wl_nil ?_
    refine wq_then_norm (hK11 ?_)
    refine wc_block ?_
    refine wc_loop (fun n' L wq => ∃ (k cr : Nat) (q : List Nat), L = [(1, .slice B m d), (5, .slice (some ⟨g, 0, none⟩) (n + m) (n + m)), (6, .int .i64 (i : Int)), (7, .int .u64 (x : Int)), (8, .int .u64 (cr : Int)), (20, .slice A n c), (21, .int .i64 (n : Int)), (22, .int .i64 (i : Int)), (27, .slice B m d), (28, .int .i64 (m : Int)), (29, .int .i64 (k : Int))] ∧ n' = m - k ∧ (k ≤ m ∧ cr < 18446744073709551616 ∧ Ext w wq ∧ Blk wq g 23 (nums .u64 q) ∧ q.length = n + m ∧ Wd.ok q ∧ Wd.val q + cr * (18446744073709551616 ^ i * 18446744073709551616 ^ k) = Wd.val l + x * (Wd.val (vs.take k) * 18446744073709551616 ^ i) ∧ ∀ j, i + m ≤ j → q.getD j 0 = 0)) _ _ ⟨0, 0, l, rfl, rfl, by omega, by omega, E, Bl, hl, hok, by rw [Nat.zero_mul, List.take_zero, Wd.val, Nat.zero_mul, Nat.mul_zero], hz⟩ ⟨rfl, rfl, (by first | rfl | exact congrArg some (int_val (by omega))), (by first | rfl | exact congrArg some (int_val (by omega))), (by first | rfl | exact congrArg some (int_val (by omega))), rfl, (by first | rfl | exact congrArg some (int_val (by omega))), (by first | rfl | exact congrArg some (int_val (by omega))), rfl, (by first | rfl | exact congrArg some (int_val (by omega))), (by first | rfl | exact congrArg some (int_val (by omega))), trivial⟩ ?_
    rintro KL2 n' L wq ⟨k, cr, q, rfl, rfl, hk, hcr, F, Bq, hq, hoq, hvq, hzq⟩ hL2
    refine wc_seq ?_; intro K12 hK12
    refine wc_region ?_
    refine wl_y (y_lss rfl rfl) rfl ?_
    refine wl_nil ?_
    refine wq_then_norm (hK12 ?_)
    refine wc_seq ?_; intro K13 hK13
    refine wc_dec rfl (fun hc2 => ?_) (fun hc2 => ?_)
    · skip
      refine wc_skip ?_
      refine wq_then_norm (hK13 ?_)
      refine wc_seq ?_; intro K14 hK14
      refine wc_block ?_
      refine wc_seq ?_; intro K15 hK15
      have hkm : k < m := by omega
      obtain ⟨b2, off2, y, rfl, hy', hcy⟩ := (HB.wk F).cell (i := k) (by omega)
      have hy := hy'.out
      have hyl := Wd.ok_get ob k; rw [← hy] at hyl
      obtain ⟨o, ho⟩ : ∃ o, o = q.getD (i + k) 0 := ⟨_, rfl⟩
      have hol := Wd.ok_get hoq (i + k); rw [← ho] at hol
      obtain ⟨P, hP⟩ : ∃ P, P = x * y := ⟨_, rfl⟩
      have hPl : P ≤ 18446744073709551615 * 18446744073709551615 := by rw [hP]; exact Nat.mul_le_mul (by omega) (by omega)
      obtain ⟨D, hD⟩ : ∃ D, D = o + x * y + cr := ⟨_, rfl⟩
      have hD' : D = o + P + cr := by rw [hD, hP]
      refine wc_region ?_
      refine wl_y (y_move rfl) rfl ?_
      refine wl_y (y_ixs1 rfl rfl Try.underlying104 (by kernel_rfl) rfl (by omega)) rfl ?_
      refine wl_y (y_load1 rfl Try.underlying23 rfl hcy) rfl ?_
      refine wl_y (y_assign rfl) rfl ?_
      refine wl_y (y_assign rfl) rfl ?_
      refine wl_nil ?_
      refine wq_then_norm (hK15 ?_)
      refine wc_seq ?_; intro K16 hK16
      refine wc_region ?_
      refine wl_y (y_move rfl) rfl ?_
      refine wl_y (y_move rfl) rfl ?_
      refine wl_call Try.func137 rfl rfl rfl (mul64_any x y _ hxl hyl) rfl ?_
      rintro e w3 ⟨rfl, ex⟩
      refine ⟨_, rfl, ?_⟩
      rw [← hP]; have F3 := F.ext ex; have B3 := Bq.ext ex
      refine wl_y (y_move rfl) rfl ?_
      refine wl_y (y_extract rfl rfl) rfl ?_
      refine wl_y (y_extract rfl rfl) rfl ?_
      refine wl_y (y_assign rfl) rfl ?_
      refine wl_y (y_assign rfl) rfl ?_
      refine wl_nil ?_
      refine wq_then_norm (hK16 ?_)
      refine wc_seq ?_; intro K17 hK17
      refine wc_region ?_
      refine wl_y (y_assign rfl) rfl ?_
      refine wl_nil ?_
      refine wq_then_norm (hK17 ?_)
      refine wc_seq ?_; intro K18 hK18
      refine wc_region ?_
      refine wl_y (y_move rfl) rfl ?_
      refine wl_y (y_move rfl) rfl ?_
      refine wl_y (y_move rfl) rfl ?_
      refine wl_y (y_move rfl) rfl ?_
      refine wl_y (y_add rfl rfl (i64_nat (n := i + k) (by omega) (by omega))) rfl ?_
      refine wl_y (y_ixs1 rfl rfl Try.underlying104 (by kernel_rfl) (j := i + k) rfl (by omega)) rfl ?_
      refine wl_y (y_load1 rfl Try.underlying23 rfl (B3.get (v := .int .u64 (o : Int)) (by rw [Nat.zero_add, nums_get _ _ _ (by omega), ← ho]))) rfl ?_
      refine wl_y ((ef_ext rfl (add64_run _ _ 0 (by omega)))) rfl ?_
      refine wl_y (y_move rfl) rfl ?_
      refine wl_y (y_extract rfl rfl) rfl ?_
      refine wl_y (y_extract rfl rfl) rfl ?_
      refine wl_y (y_assign rfl) rfl ?_
      refine wl_y (y_assign rfl) rfl ?_
      refine wl_nil ?_
      refine wq_then_norm (hK18 ?_)
      refine wc_seq ?_; intro K19 hK19
      refine wc_region ?_
      refine wl_y (y_move rfl) rfl ?_
      refine wl_y (y_move rfl) rfl ?_
      refine wl_y (y_add rfl rfl (u64_nat (n := P / 18446744073709551616 + (P % 18446744073709551616 + o + 0) / 18446744073709551616) (by omega) (by omega))) rfl ?_
      refine wl_y (y_assign rfl) rfl ?_
      refine wl_nil ?_
      refine wq_then_norm (hK19 ?_)
      refine wc_seq ?_; intro K20 hK20
      refine wc_region ?_
      refine wl_y (y_move rfl) rfl ?_
      refine wl_y (y_move rfl) rfl ?_
      refine wl_y ((ef_ext rfl (add64_run _ _ 0 (by omega)))) rfl ?_
      refine wl_y (y_move rfl) rfl ?_
      refine wl_y (y_extract rfl rfl) rfl ?_
      refine wl_y (y_extract rfl rfl) rfl ?_
      refine wl_y (y_assign rfl) rfl ?_
      refine wl_y (y_assign rfl) rfl ?_
      refine wl_nil ?_
      refine wq_then_norm (hK20 ?_)
      rw [show ((P % 18446744073709551616 + o + 0) % 18446744073709551616 + cr + 0) % 18446744073709551616 = D % 18446744073709551616 by omega]
      refine wc_region ?_
      refine wl_y (y_move rfl) rfl ?_
      refine wl_y (y_move rfl) rfl ?_
      refine wl_y (y_move rfl) rfl ?_
      refine wl_y (y_add rfl rfl (i64_nat (n := i + k) (by omega) (by omega))) rfl ?_
      refine wl_y (y_move rfl) rfl ?_
      refine wl_y (y_move rfl) rfl ?_
      refine wl_y (y_move rfl) rfl ?_
      refine wl_y (y_add rfl rfl (u64_nat (n := D / 18446744073709551616) (by omega) (by omega))) rfl ?_
      refine wl_y (y_ixs1 rfl rfl Try.underlying104 (by kernel_rfl) (j := i + k) rfl (by omega)) rfl ?_
      refine wl_ef (ef_storeB rfl rfl rfl (by kernel_rfl) B3 (by rw [nums_size]; omega)) rfl ?_
      rintro _ w10 ⟨rfl, B10, cg⟩
      rw [Nat.zero_add, nums_set] at B10; have F10 := F3.chg cg hg
      refine wl_y (y_assign rfl) rfl ?_
      refine wl_nil ?_
      refine wq_blk_norm ?_
      refine wq_then_norm (hK14 ?_)
      refine wc_region ?_
      refine wl_y (y_add rfl rfl (i64_ok (by omega) (by omega))) rfl ?_
      refine wl_y (y_move rfl) rfl ?_
      refine wl_nil ?_
      refine wq_then_norm ?_
      refine hL2 _ _ ⟨k + 1, D / 18446744073709551616, q.set (i + k) (D % 18446744073709551616), rfl, rfl, by omega, by omega, F10, B10, by rw [List.length_set]; exact hq, Wd.ok_set hoq _ _ (by omega), by
        have hs := Wd.val_set q (i + k) (D % 18446744073709551616) (by omega)
        rw [← ho, Nat.pow_add] at hs
        have e1 : 18446744073709551616 ^ i * 18446744073709551616 ^ (k + 1) = 18446744073709551616 ^ i * 18446744073709551616 ^ k * 18446744073709551616 := by rw [Nat.pow_succ, Nat.mul_assoc]
        have e2 : ∀ V : Nat, (V + y * 18446744073709551616 ^ k) * 18446744073709551616 ^ i = V * 18446744073709551616 ^ i + y * (18446744073709551616 ^ i * 18446744073709551616 ^ k) := fun V => by rw [Nat.add_mul, Nat.mul_assoc, Nat.mul_comm (18446744073709551616 ^ k)]
        rw [e1, Wd.val_take_succ, ← hy, e2]
        exact Wd.mul_step hD hvq hs, fun j hj => by rw [Wd.getD_set_ne _ _ _ _ (by omega)]; exact hzq j hj⟩ (by omega) ⟨rfl, rfl, (by first | rfl | exact congrArg some (int_val (by omega))), (by first | rfl | exact congrArg some (int_val (by omega))), (by first | rfl | exact congrArg some (int_val (by omega))), rfl, (by first | rfl | exact congrArg some (int_val (by omega))), (by first | rfl | exact congrArg some (int_val (by omega))), rfl, (by first | rfl | exact congrArg some (int_val (by omega))), (by first | rfl | exact congrArg some (int_val (by omega))), trivial⟩
    · skip
      refine wc_exit ?_
      refine wq_then_exit ?_
      refine wq_then_exit ?_
      refine wq_blk_hit ?_
      refine wq_then_norm (hK10 ?_)
      obtain rfl : k = m := by omega
      have h0 := hzq (i + k) (Nat.le_refl _)
      refine wc_region ?_
      refine wl_y (y_move rfl) rfl ?_
      refine wl_y (y_move rfl) rfl ?_
      refine wl_y (y_move rfl) rfl ?_
      refine wl_y (y_len_slice rfl Try.underlying104) rfl ?_
      refine wl_y (y_add rfl rfl (i64_nat (n := i + k) (by omega) (by omega))) rfl ?_
      refine wl_y (y_move rfl) rfl ?_
      refine wl_y (y_ixs1 rfl rfl Try.underlying104 (by kernel_rfl) (j := i + k) rfl (by omega)) rfl ?_
      refine wl_ef (ef_storeB rfl rfl rfl (by kernel_rfl) Bq (by rw [nums_size]; omega)) rfl ?_
      rintro _ w12 ⟨rfl, B12, cg⟩
      rw [Nat.zero_add, nums_set] at B12; have F12 := F.chg cg hg
      refine wl_nil ?_
      refine wq_blk_norm ?_
      refine wq_then_norm (hK7 ?_)
      refine wc_region ?_
      refine wl_y (y_add rfl rfl (i64_ok (by omega) (by omega))) rfl ?_
      refine wl_y (y_move rfl) rfl ?_
      refine wl_nil ?_
      refine wq_then_norm ?_
      refine hL1 _ _ ⟨i + 1, q.set (i + k) cr, rfl, rfl, by omega, F12, B12, by rw [List.length_set]; exact hq, Wd.ok_set hoq _ _ hcr, by
        have hs := Wd.val_set q (i + k) cr (by omega)
        rw [h0, Nat.zero_mul, Nat.add_zero, Nat.pow_add] at hs
        rw [hs, hvq, hv, Wd.val_take_succ, ← hx, show vs.take k = vs from List.take_of_length_le (by omega), Nat.add_mul, Nat.mul_assoc x, Nat.mul_comm (Wd.val vs)], fun j hj => by rw [Wd.getD_set_ne _ _ _ _ (by omega)]; exact hzq j (by omega)⟩ (by omega) ⟨rfl, rfl, rfl, (by first | rfl | exact congrArg some (int_val (by omega))), (by first | rfl | exact congrArg some (int_val (by omega))), trivial⟩
  · skip
    refine wc_exit ?_
    refine wq_then_exit ?_
    refine wq_then_exit ?_
    refine wq_blk_hit ?_
    refine wq_then_norm (hK3 ?_)
    refine wc_seq ?_; intro K21 hK21
    refine wc_region ?_
    refine wl_y (y_move rfl) rfl ?_
    refine wl_y (y_assign rfl) rfl ?_
    refine wl_nil ?_
    refine wq_then_norm (hK21 ?_)
    refine wc_ret ?_
    refine hret rfl ?_
    obtain rfl : i = n := by omega
    have R := Row.new Bl hg (n := i + m) (by rw [nums_size, hl]) (by unfold maxLen; omega)
    exact ⟨g, l, rfl, (by simpa [nums] using R), hok, by rw [hv, List.take_of_length_le (by omega)], E⟩
theorem indexFuncU_any (A : Option Addr) (n c : Nat) (xs : List Nat) (f : FuncId) (us : List Value) (p : Nat → Bool) (fn : Func) (b : Code) (w : World) (HA : Ns .u64 w A n xs) (hn : n ≤ 1000000) (hf : Try.prog.funcs[f]? = some fn) (hb : fn.body = some b) (hnm : (fn.name == "runtime.NumGoroutine") = false)
    (hp : ∀ (x : Nat) (w1 : World), Ext w w1 → Calls Try.prog f ([Value.int .u64 (x : Int)] ++ us).toArray w1 fun e w' => e = .returned (.bool (p x)) ∧ Ext w1 w') :
    Calls Try.prog 160 #[.slice A n c, .func (.func f) #[] us.toArray] w fun e w' => ∃ z : Int, e = .returned (.int .i64 z) ∧ (0 ≤ z ↔ xs.any p = true) ∧ Ext w w' := by
  have hl := HA.1
  refine vc_enter1 19 Try.func160 rfl rfl rfl rfl ?_
  intro Q hret
  refine wc_seq ?_; intro K1 hK1
  refine wc_region ?_
  refine wl_y (y_assign rfl) rfl ?_
  refine wl_nil ?_
  refine wq_then_norm (hK1 ?_)
  refine wc_seq ?_; intro K2 hK2
  refine wc_seq ?_; intro K3 hK3
  refine wc_region ?_
  refine wl_y (y_move rfl) rfl ?_
  refine wl_y (y_len_slice rfl Try.underlying104) rfl ?_
  refine wl_y (y_move rfl) rfl ?_
  refine wl_nil ?_
  refine wq_then_norm (hK3 ?_)
  refine wc_block ?_
  refine wc_loop (fun n' L wr => ∃ i : Nat, L = [(0, .slice A n c), (1, .func (.func f) #[] us.toArray), (7, .int .i64 (n : Int)), (8, .int .i64 (i : Int))] ∧ n' = n - i ∧ (i ≤ n ∧ Ext w wr ∧ (xs.take i).any p = false)) _ _ ⟨0, rfl, rfl, by omega, Ext.refl _, rfl⟩ ⟨rfl, rfl, (by first | rfl | exact congrArg some (int_val (by omega))), (by first | rfl | exact congrArg some (int_val (by omega))), trivial⟩ ?_
  rintro KL1 n' L wr ⟨i, rfl, rfl, hi, E, hno⟩ hL1
  refine wc_seq ?_; intro K4 hK4
  refine wc_region ?_
  refine wl_y (y_lss rfl rfl) rfl ?_
  refine wl_nil ?_
  refine wq_then_norm (hK4 ?_)
  refine wc_seq ?_; intro K5 hK5
  refine wc_dec rfl (fun hc1 => ?_) (fun hc1 => ?_)
  · skip
    refine wc_skip ?_
    refine wq_then_norm (hK5 ?_)
    refine wc_seq ?_; intro K6 hK6
    refine wc_block ?_
    refine wc_seq ?_; intro K7 hK7
    refine wc_region ?_
    refine wl_y (y_move rfl) rfl ?_
    refine wl_y (y_assign rfl) rfl ?_
    refine wl_nil ?_
    refine wq_then_norm (hK7 ?_)
    refine wc_seq ?_; intro K8 hK8
    obtain ⟨b1, off1, x, rfl, hx, hcx⟩ := (HA.wk E).cell (i := i) (by omega)
    have htk : xs.take (i + 1) = xs.take i ++ [x] := by
      rw [List.take_succ_eq_append_getElem (by omega), hx.out, List.getD_eq_getElem?_getD, List.getElem?_eq_getElem (by omega)]; rfl
    refine wc_region ?_
    refine wl_y (y_move rfl) rfl ?_
    refine wl_y (y_move rfl) rfl ?_
    refine wl_y (y_move rfl) rfl ?_
    refine wl_y (y_ixs1 rfl rfl Try.underlying104 (by kernel_rfl) rfl (by omega)) rfl ?_
    refine wl_y (y_load1 rfl Try.underlying23 rfl hcx) rfl ?_
    refine wl_ef (ef_callv (Φ := fun v w' => v = .bool (p x) ∧ Ext _ w') (xs := [_]) (vs := [.int .u64 (x : Int)]) rfl hf hb hnm rfl (hp x _ E) (fun _ _ h => ⟨_, h.1, rfl, h.2⟩)) rfl ?_
    rintro _ w2 ⟨rfl, ex⟩
    have E2 := E.ext ex
    refine wl_nil ?_
    refine wq_then_norm (hK8 ?_)
    refine wc_cond rfl (fun hc2 => ?_) (fun hc2 => ?_)
    · skip
      refine wc_seq ?_; intro K9 hK9
      refine wc_region ?_
      refine wl_y (y_move rfl) rfl ?_
      refine wl_y (y_assign rfl) rfl ?_
      refine wl_nil ?_
      refine wq_then_norm (hK9 ?_)
      refine wc_ret ?_
      refine wq_blk_ret ?_
      refine wq_then_ret ?_
      refine wq_then_ret ?_
      refine wq_blk_ret ?_
      refine wq_then_ret ?_
      refine hret rfl ?_
      refine ⟨i, rfl, ⟨fun _ => ?_, fun _ => by omega⟩, E2⟩
      rw [List.any_eq_true]
      exact ⟨x, List.mem_of_mem_take (i := i + 1) (by rw [htk]; simp), hc2⟩
    · skip
      refine wc_skip ?_
      refine wq_blk_norm ?_
      refine wq_then_norm (hK6 ?_)
      refine wc_region ?_
      refine wl_y (y_add rfl rfl (i64_ok (by omega) (by omega))) rfl ?_
      refine wl_y (y_move rfl) rfl ?_
      refine wl_nil ?_
      refine wq_then_norm ?_
      refine hL1 _ _ ⟨i + 1, rfl, rfl, by omega, E2, by rw [htk, List.any_append, hno]; simpa using hc2⟩ (by omega) ⟨rfl, rfl, (by first | rfl | exact congrArg some (int_val (by omega))), (by first | rfl | exact congrArg some (int_val (by omega))), trivial⟩
  · skip
    refine wc_exit ?_
    refine wq_then_exit ?_
    refine wq_then_exit ?_
    refine wq_blk_hit ?_
    refine wq_then_norm (hK2 ?_)
    refine wc_seq ?_; intro K10 hK10
    refine wc_region ?_
    refine wl_y (y_assign rfl) rfl ?_
    refine wl_nil ?_
    refine wq_then_norm (hK10 ?_)
    refine wc_ret ?_
    refine hret rfl ?_
    refine ⟨-1, rfl, ⟨fun h => absurd h (by omega), fun h => ?_⟩, E⟩
    rw [List.take_of_length_le (by omega)] at hno
    rw [hno] at h
    cases h
theorem containsFuncU_any (A : Option Addr) (n c : Nat) (xs : List Nat) (f : FuncId) (us : List Value) (p : Nat → Bool) (fn : Func) (b : Code) (w : World) (HA : Ns .u64 w A n xs) (hn : n ≤ 1000000) (hf : Try.prog.funcs[f]? = some fn) (hb : fn.body = some b) (hnm : (fn.name == "runtime.NumGoroutine") = false)
    (hp : ∀ (x : Nat) (w1 : World), Ext w w1 → Calls Try.prog f ([Value.int .u64 (x : Int)] ++ us).toArray w1 fun e w' => e = .returned (.bool (p x)) ∧ Ext w1 w') :
    Calls Try.prog 146 #[.slice A n c, .func (.func f) #[] us.toArray] w fun e w' => e = .returned (.bool (xs.any p)) ∧ Ext w w' := by
  refine vc_enter1 9 Try.func146 rfl rfl rfl rfl ?_
  intro Q hret
  refine wc_seq ?_; intro K1 hK1
  refine wc_region ?_
  refine wl_y (y_assign rfl) rfl ?_
  refine wl_nil ?_
  refine wq_then_norm (hK1 ?_)
  refine wc_seq ?_; intro K2 hK2
  refine wc_region ?_
  refine wl_y (y_move rfl) rfl ?_
  refine wl_y (y_move rfl) rfl ?_
  refine wl_call Try.func160 rfl rfl rfl (indexFuncU_any A n c xs f us p fn b _ HA hn hf hb hnm hp) rfl ?_
  rintro e w2 ⟨z, rfl, hz, ex⟩
  refine ⟨_, rfl, ?_⟩
  skip
  refine wl_y (y_geq rfl rfl) rfl ?_
  refine wl_y (y_assign rfl) rfl ?_
  refine wl_nil ?_
  refine wq_then_norm (hK2 ?_)
  refine wc_ret ?_
  refine hret rfl ?_
  exact ⟨(ret_bool_of hz.symm).symm, ex⟩
theorem over1_any (x : Nat) (w : World) : Calls Try.prog 147 #[.int .u64 (x : Int)] w fun e w' => e = .returned (.bool (decide (x > 0))) ∧ Ext w w' := by
  refine vc_enter1 5 Try.func147 rfl rfl rfl rfl ?_
  intro Q hret
  refine wc_seq ?_; intro K1 hK1
  refine wc_region ?_
  refine wl_y (y_assign rfl) rfl ?_
  refine wl_nil ?_
  refine wq_then_norm (hK1 ?_)
  refine wc_seq ?_; intro K2 hK2
  refine wc_region ?_
  refine wl_y (y_move rfl) rfl ?_
  refine wl_y (y_gtr rfl rfl) rfl ?_
  refine wl_y (y_assign rfl) rfl ?_
  refine wl_nil ?_
  refine wq_then_norm (hK2 ?_)
  refine wc_ret ?_
  refine hret rfl ?_
  exact ⟨ret_bool (by omega), Ext.refl _⟩
theorem Ns.cellAt {w : World} {k : IntKind} {b off n i : Nat} {xs : List Nat} (h : Ns k w (some ⟨b, off, none⟩) n xs) (hi : i < n) : w.cell? ⟨b, off + i, none⟩ = some (.int k ((xs.getD i 0 : Nat) : Int)) := by
  obtain ⟨b', off', x, e, hx, hc⟩ := h.cell hi
  injection e with e
  injection e with e1 e2 _
  subst e1; subst e2
  rw [hc, hx.out]
theorem over_any (A : Option Addr) (n c : Nat) (us : List Nat) (v k : Nat) (w : World) (HA : Ns .u64 w A n us) (hok : Wd.ok us) (hn : n ≤ 1000) (hk : k < n) (hnc : n ≤ c) (hvl : v < 18446744073709551616) :
    Calls Try.prog 106 #[.slice A n c, .int .u64 (v : Int), .int .i64 (k : Int)] w fun e w' => e = .returned (.bool (decide (v * 18446744073709551616 ^ k < Wd.val us))) ∧ Ext w w' := by
  have hl := HA.1
  obtain ⟨b0, off0, _, rfl, _⟩ := HA.cell (i := 0) (by omega)
  have hsplit : ∀ i, Wd.val (us.take (i + 1)) = Wd.val (us.take i) + us.getD i 0 * 18446744073709551616 ^ i := fun i => Wd.val_take_succ us i
  have hlow : Wd.val (us.take k) < 18446744073709551616 ^ k := by
    have := Wd.val_lt (us.take k) (Wd.ok_take hok k)
    rwa [List.length_take, show min k us.length = k from by omega] at this
  have hone : 0 < 18446744073709551616 ^ k := Nat.pow_pos (by omega)
  refine vc_enter1 37 Try.func106 rfl rfl rfl rfl ?_
  intro Q hret
  refine wc_seq ?_; intro K1 hK1
  refine wc_region ?_
  refine wl_y (y_assign rfl) rfl ?_
  refine wl_nil ?_
  refine wq_then_norm (hK1 ?_)
  refine wc_seq ?_; intro K2 hK2
  refine wc_seq ?_; intro K3 hK3
  refine wc_region ?_
  refine wl_y (y_move rfl) rfl ?_
  refine wl_y (y_len_slice rfl Try.underlying104) rfl ?_
  refine wl_y (y_sub rfl rfl (i64_nat (n := n - 1) (by omega) (by omega))) rfl ?_
  refine wl_y (y_assign rfl) rfl ?_
  refine wl_nil ?_
  refine wq_then_norm (hK3 ?_)
  refine wc_block ?_
  refine wc_loop (fun n' L wr => ∃ i : Nat, L = [(0, .slice (some ⟨b0, off0, none⟩) n c), (1, .int .u64 (v : Int)), (2, .int .i64 (k : Int)), (7, .int .i64 (i : Int))] ∧ n' = 1 + i ∧ (k ≤ i ∧ i < n ∧ Ext w wr ∧ Wd.val us = Wd.val (us.take (i + 1)))) _ _ ⟨n - 1, rfl, rfl, by omega, by omega, Ext.refl _, (by rw [List.take_of_length_le (by omega)])⟩ ⟨rfl, (by first | rfl | exact congrArg some (int_val (by omega))), (by first | rfl | exact congrArg some (int_val (by omega))), (by first | rfl | exact congrArg some (int_val (by omega))), trivial⟩ ?_
  rintro KL1 n' L wr ⟨i, rfl, rfl, hki, hin, E, hv⟩ hL1
  refine wc_seq ?_; intro K4 hK4
  refine wc_seq ?_; intro K5 hK5
  refine wc_region ?_
  refine wl_y (y_move rfl) rfl ?_
  refine wl_y (y_move rfl) rfl ?_
  refine wl_y (y_gtr rfl rfl) rfl ?_
  refine wl_nil ?_
  refine wq_then_norm (hK5 ?_)
  refine wc_dec rfl (fun hc1 => ?_) (fun hc1 => ?_)
  · skip
    refine wc_skip ?_
    refine wq_then_norm (hK4 ?_)
    refine wc_seq ?_; intro K6 hK6
    refine wc_block ?_
    refine wc_seq ?_; intro K7 hK7
    refine wc_region ?_
    refine wl_y (y_move rfl) rfl ?_
    refine wl_y (y_move rfl) rfl ?_
    refine wl_y (y_ixs1 rfl rfl Try.underlying104 (by kernel_rfl) rfl (by omega)) rfl ?_
    refine wl_y (y_load1 rfl Try.underlying23 rfl ((HA.wk E).cellAt (i := i) (by omega))) rfl ?_
    refine wl_y (y_gtr rfl rfl) rfl ?_
    refine wl_nil ?_
    refine wq_then_norm (hK7 ?_)
    refine wc_dec rfl (fun hc2 => ?_) (fun hc2 => ?_)
    · skip
      refine wc_seq ?_; intro K8 hK8
      refine wc_region ?_
      refine wl_y (y_assign rfl) rfl ?_
      refine wl_nil ?_
      refine wq_then_norm (hK8 ?_)
      refine wc_ret ?_
      refine wq_blk_ret ?_
      refine wq_then_ret ?_
      refine wq_then_ret ?_
      refine wq_blk_ret ?_
      refine wq_then_ret ?_
      refine hret rfl ?_
      have hp : 18446744073709551616 ^ (k + 1) ≤ 18446744073709551616 ^ i := Nat.pow_le_pow_right (by omega) (by omega)
      have hv1 : v * 18446744073709551616 ^ k < 18446744073709551616 ^ (k + 1) := by rw [Nat.pow_succ, Nat.mul_comm]; exact Nat.mul_lt_mul_of_pos_left hvl hone
      have hv2 : 18446744073709551616 ^ i ≤ us.getD i 0 * 18446744073709551616 ^ i := Nat.le_mul_of_pos_left _ (by omega)
      exact ⟨by rw [decide_eq_true]; rw [hv, hsplit]; omega, E⟩
    · skip
      refine wc_skip ?_
      refine wq_blk_norm ?_
      refine wq_then_norm (hK6 ?_)
      refine wc_region ?_
      refine wl_y (y_move rfl) rfl ?_
      refine wl_y (y_sub rfl rfl (i64_nat (n := i - 1) (by omega) (by omega))) rfl ?_
      refine wl_y (y_assign rfl) rfl ?_
      refine wl_nil ?_
      refine wq_then_norm ?_
      refine hL1 _ _ ⟨i - 1, rfl, rfl, by omega, by omega, E, (by rw [hv, hsplit, show us.getD i 0 = 0 from by omega, Nat.zero_mul, Nat.add_zero, show i - 1 + 1 = i from by omega])⟩ (by omega) ⟨rfl, (by first | rfl | exact congrArg some (int_val (by omega))), (by first | rfl | exact congrArg some (int_val (by omega))), (by first | rfl | exact congrArg some (int_val (by omega))), trivial⟩
  · skip
    refine wc_exit ?_
    refine wq_then_exit ?_
    refine wq_then_exit ?_
    refine wq_blk_hit ?_
    refine wq_then_norm (hK2 ?_)
    refine wc_seq ?_; intro K9 hK9
    refine wc_seq ?_; intro K10 hK10
    obtain rfl : i = k := by omega
    rw [hsplit] at hv
    refine wc_region ?_
    refine wl_y (y_move rfl) rfl ?_
    refine wl_y (y_move rfl) rfl ?_
    refine wl_y (y_ixs1 rfl rfl Try.underlying104 (by kernel_rfl) rfl (by omega)) rfl ?_
    refine wl_y (y_load1 rfl Try.underlying23 rfl ((HA.wk E).cellAt (i := i) (by omega))) rfl ?_
    refine wl_y (y_move rfl) rfl ?_
    refine wl_y (y_neq rfl rfl) rfl ?_
    refine wl_nil ?_
    refine wq_then_norm (hK10 ?_)
    refine wc_dec rfl (fun hc3 => ?_) (fun hc3 => ?_)
    · skip
      refine wc_seq ?_; intro K11 hK11
      refine wc_region ?_
      refine wl_y (y_move rfl) rfl ?_
      refine wl_y (y_move rfl) rfl ?_
      refine wl_y (y_ixs1 rfl rfl Try.underlying104 (by kernel_rfl) rfl (by omega)) rfl ?_
      refine wl_y (y_load1 rfl Try.underlying23 rfl ((HA.wk E).cellAt (i := i) (by omega))) rfl ?_
      refine wl_y (y_move rfl) rfl ?_
      refine wl_y (y_gtr rfl rfl) rfl ?_
      refine wl_y (y_assign rfl) rfl ?_
      refine wl_nil ?_
      refine wq_then_norm (hK11 ?_)
      refine wc_ret ?_
      refine wq_then_ret ?_
      refine hret rfl ?_
      exact ⟨ret_bool (by
        rw [hv]
        constructor
        · intro h
          have h2 : v + 1 ≤ us.getD i 0 := by omega
          have := Nat.mul_le_mul_right (18446744073709551616 ^ i) h2
          rw [Nat.add_mul] at this; omega
        · intro h
          rcases Nat.lt_or_ge v (us.getD i 0) with h2 | h2
          · omega
          · have h3 : us.getD i 0 + 1 ≤ v := by omega
            have := Nat.mul_le_mul_right (18446744073709551616 ^ i) h3
            rw [Nat.add_mul] at this; omega), E⟩
    · skip
      refine wc_skip ?_
      refine wq_then_norm (hK9 ?_)
      refine wc_seq ?_; intro K12 hK12
      refine wc_region ?_
      refine wl_y (y_move rfl) rfl ?_
      refine wl_y (y_move rfl) rfl ?_
      refine wl_y (y_cuth (s := 1) rfl rfl Try.underlying104 (by kernel_rfl) rfl (by omega)) rfl ?_
      refine wl_call Try.func146 rfl rfl rfl (containsFuncU_any _ i c (us.take i) 147 [] (fun x => decide (x > 0)) _ _ _ ((HA.wk E).take (by omega)) (by omega) Try.func147 rfl rfl (fun x w1 _ => over1_any x w1)) rfl ?_
      rintro e w2 ⟨rfl, ex⟩
      refine ⟨_, rfl, ?_⟩
      have E2 := E.ext ex
      refine wl_y (y_assign rfl) rfl ?_
      refine wl_nil ?_
      refine wq_then_norm (hK12 ?_)
      refine wc_ret ?_
      refine hret rfl ?_
      exact ⟨ret_bool_of (by rw [Lng.any_pos, hv, show us.getD i 0 = v from by omega]; omega), E2⟩
end Go.Proofs.Ytbcbihdfpkeacaa
