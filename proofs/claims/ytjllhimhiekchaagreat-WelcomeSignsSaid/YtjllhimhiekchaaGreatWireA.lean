/- wire's PutNum, PutLen, PutVec, and the reference's Num, Len, Vec: what each hands back, in new memory. Lengths below 2^30. -/
import Derived.Test.YtjllhimhiekchaaGreatSl
namespace Go.Proofs.YtjllhimhiekchaaGreat
open Go.RowKit
attribute [local irreducible] Y Ef WL WC WK WQ WM OpM
theorem u8_conv (x : Nat) : IntKind.u8.wrap (x : Int) = ((UInt8.ofNat x).toNat : Int) := by
 rw [IntKind.wrap_u8', UInt8.toNat_ofNat']; omega
theorem shr_bytes (n j : Nat) (hj : j ≤ 7) (b : Int) (hb : b = 8 * j) : (n : Int) / 2 ^ (min b.toNat IntKind.u64.bits) = ((n / 256 ^ j : Nat) : Int) := by
 have e : min b.toNat IntKind.u64.bits = 8 * j := by
  have : IntKind.u64.bits = 64 := rfl
  omega
 have h2 : (2 : Int) ^ (8 * j) = ((256 ^ j : Nat) : Int) := by
  rw [show (256 : Nat) = 2 ^ 8 from rfl, ← Nat.pow_mul, Int.natCast_pow]; rfl
 rw [e, h2]
 exact (Int.natCast_ediv _ _).symm
theorem may_any (n : Nat) (w : World) : Calls Tryz.prog 202 #[.int .i64 (n : Int)] w fun e w' => e = .returned (.bool (decide (n = 1 ∨ n = 2 ∨ n = 4 ∨ n = 8))) ∧ Ext w w' := by
 refine vc_enter1 17 Tryz.func202 rfl rfl rfl rfl ?_
 intro Q hret
 refine wc_seq ?_; intro K1 hK1
 refine wc_region ?_
 refine wl_y (y_assign rfl) rfl ?_
 refine wl_nil ?_
 refine wq_then_norm (hK1 ?_)
 refine wc_seq ?_; intro K2 hK2
 refine wc_region ?_
 refine wl_y (y_move rfl) rfl ?_
 refine wl_yask (y_eql rfl rfl) rfl (fun h1 => ?_) (fun h1 => ?_)
 ·skip
  refine wl_y (y_move rfl) rfl ?_
  refine wl_gno 5 rfl rfl rfl rfl ?_
  refine wl_gno 5 rfl rfl rfl rfl ?_
  refine wl_y (y_pickt rfl rfl) rfl ?_
  refine wl_y (y_move rfl) rfl ?_
  refine wl_gno 9 rfl rfl rfl rfl ?_
  refine wl_gno 9 rfl rfl rfl rfl ?_
  refine wl_y (y_pickt rfl rfl) rfl ?_
  refine wl_y (y_move rfl) rfl ?_
  refine wl_gno 13 rfl rfl rfl rfl ?_
  refine wl_gno 13 rfl rfl rfl rfl ?_
  refine wl_y (y_pickt rfl rfl) rfl ?_
  refine wl_y (y_assign rfl) rfl ?_
  refine wl_nil ?_
  refine wq_then_norm (hK2 ?_)
  refine wc_ret ?_
  refine hret rfl ?_
  exact ⟨by rw [decide_eq_true (by omega)], Ext.refl _⟩
 ·skip
  refine wl_y (y_move rfl) rfl ?_
  refine wl_gy 5 rfl rfl (y_move rfl) rfl ?_
  refine wl_gyask 5 rfl rfl (y_eql rfl rfl) rfl (fun h2 => ?_) (fun h2 => ?_)
  ·skip
   refine wl_y (y_pickf rfl rfl) rfl ?_
   refine wl_y (y_move rfl) rfl ?_
   refine wl_gno 9 rfl rfl rfl rfl ?_
   refine wl_gno 9 rfl rfl rfl rfl ?_
   refine wl_y (y_pickt rfl rfl) rfl ?_
   refine wl_y (y_move rfl) rfl ?_
   refine wl_gno 13 rfl rfl rfl rfl ?_
   refine wl_gno 13 rfl rfl rfl rfl ?_
   refine wl_y (y_pickt rfl rfl) rfl ?_
   refine wl_y (y_assign rfl) rfl ?_
   refine wl_nil ?_
   refine wq_then_norm (hK2 ?_)
   refine wc_ret ?_
   refine hret rfl ?_
   exact ⟨by rw [decide_eq_true (by omega)], Ext.refl _⟩
  ·skip
   refine wl_y (y_pickf rfl rfl) rfl ?_
   refine wl_y (y_move rfl) rfl ?_
   refine wl_gy 9 rfl rfl (y_move rfl) rfl ?_
   refine wl_gyask 9 rfl rfl (y_eql rfl rfl) rfl (fun h3 => ?_) (fun h3 => ?_)
   ·skip
    refine wl_y (y_pickf rfl rfl) rfl ?_
    refine wl_y (y_move rfl) rfl ?_
    refine wl_gno 13 rfl rfl rfl rfl ?_
    refine wl_gno 13 rfl rfl rfl rfl ?_
    refine wl_y (y_pickt rfl rfl) rfl ?_
    refine wl_y (y_assign rfl) rfl ?_
    refine wl_nil ?_
    refine wq_then_norm (hK2 ?_)
    refine wc_ret ?_
    refine hret rfl ?_
    exact ⟨by rw [decide_eq_true (by omega)], Ext.refl _⟩
   ·skip
    refine wl_y (y_pickf rfl rfl) rfl ?_
    refine wl_y (y_move rfl) rfl ?_
    refine wl_gy 13 rfl rfl (y_move rfl) rfl ?_
    refine wl_gyask 13 rfl rfl (y_eql rfl rfl) rfl (fun h4 => ?_) (fun h4 => ?_)
    ·skip
     refine wl_y (y_pickf rfl rfl) rfl ?_
     refine wl_y (y_assign rfl) rfl ?_
     refine wl_nil ?_
     refine wq_then_norm (hK2 ?_)
     refine wc_ret ?_
     refine hret rfl ?_
     exact ⟨by rw [decide_eq_true (by omega)], Ext.refl _⟩
    ·skip
     refine wl_y (y_pickf rfl rfl) rfl ?_
     refine wl_y (y_assign rfl) rfl ?_
     refine wl_nil ?_
     refine wq_then_norm (hK2 ?_)
     refine wc_ret ?_
     refine hret rfl ?_
     exact ⟨by rw [decide_eq_false (by omega)], Ext.refl _⟩
theorem lenSize_any (n : Nat) (w : World) (h : n < 1073741824) : Calls Tryz.prog 250 #[.int .i64 (n : Int)] w fun e w' => e = .returned (.int .i64 (Wire.lsz n : Nat)) ∧ Ext w w' := by
 refine vc_enter1 16 Tryz.func250 rfl rfl rfl rfl ?_
 intro Q hret
 refine wc_seq ?_; intro K1 hK1
 refine wc_region ?_
 refine wl_y (y_assign rfl) rfl ?_
 refine wl_nil ?_
 refine wq_then_norm (hK1 ?_)
 refine wc_seq ?_; intro K2 hK2
 refine wc_block ?_
 refine wc_seq ?_; intro K3 hK3
 refine wc_region ?_
 refine wl_y (y_move rfl) rfl ?_
 refine wl_y (Y.as (y_lss rfl rfl) (congrArg Value.bool (decide_eq_false (by omega)))) rfl ?_
 refine wl_y (y_move rfl) rfl ?_
 refine wl_gy 6 rfl rfl (y_move rfl) rfl ?_
 refine wl_gy 6 rfl rfl (Y.as (y_gtr rfl rfl) (congrArg Value.bool (decide_eq_false (by omega)))) rfl ?_
 refine wl_y (y_pickf rfl rfl) rfl ?_
 refine wl_y (y_assign rfl) rfl ?_
 refine wl_nil ?_
 refine wq_then_norm (hK3 ?_)
 refine wc_false rfl rfl ?_
 refine wc_seq ?_; intro K4 hK4
 refine wc_region ?_
 refine wl_y (y_move rfl) rfl ?_
 refine wl_y (y_lss rfl rfl) rfl ?_
 refine wl_y (y_assign rfl) rfl ?_
 refine wl_nil ?_
 refine wq_then_norm (hK4 ?_)
 refine wc_dec rfl (fun hc2 => ?_) (fun hc2 => ?_)
 ·skip
  refine wc_seq ?_; intro K5 hK5
  refine wc_region ?_
  refine wl_y (y_assign rfl) rfl ?_
  refine wl_nil ?_
  refine wq_then_norm (hK5 ?_)
  refine wc_ret ?_
  refine wq_blk_ret ?_
  refine wq_then_ret ?_
  refine hret rfl ?_
  exact ⟨by rw [show Wire.lsz n = 1 from by unfold Wire.lsz; rw [if_pos (by omega)]]; rfl, Ext.refl _⟩
 ·skip
  refine wc_seq ?_; intro K6 hK6
  refine wc_region ?_
  refine wl_y (y_move rfl) rfl ?_
  refine wl_y (y_lss rfl rfl) rfl ?_
  refine wl_y (y_assign rfl) rfl ?_
  refine wl_nil ?_
  refine wq_then_norm (hK6 ?_)
  refine wc_dec rfl (fun hc3 => ?_) (fun hc3 => ?_)
  ·skip
   refine wc_seq ?_; intro K7 hK7
   refine wc_region ?_
   refine wl_y (y_assign rfl) rfl ?_
   refine wl_nil ?_
   refine wq_then_norm (hK7 ?_)
   refine wc_ret ?_
   refine wq_blk_ret ?_
   refine wq_then_ret ?_
   refine hret rfl ?_
   exact ⟨by rw [show Wire.lsz n = 2 from by unfold Wire.lsz; rw [if_neg (by omega), if_pos (by omega)]]; rfl, Ext.refl _⟩
  ·skip
   refine wc_skip ?_
   refine wq_blk_norm ?_
   refine wq_then_norm (hK2 ?_)
   refine wc_seq ?_; intro K8 hK8
   refine wc_region ?_
   refine wl_y (y_assign rfl) rfl ?_
   refine wl_nil ?_
   refine wq_then_norm (hK8 ?_)
   refine wc_ret ?_
   refine hret rfl ?_
   exact ⟨by rw [show Wire.lsz n = 4 from by unfold Wire.lsz; rw [if_neg (by omega), if_neg (by omega)]]; rfl, Ext.refl _⟩
theorem putNum_any (A : Option Addr) (n c s x : Nat) (xs : List UInt8) (w : World) (HA : Bs w A n xs) (hn : n ≤ 70368744177664) (hs : s = 1 ∨ s = 2 ∨ s = 4 ∨ s = 8) (hx : x < 18446744073709551616) :
  Calls Tryz.prog 135 #[.slice A n c, .int .i64 (s : Int), .int .u64 (x : Int)] w fun e w' => ∃ A' c', e = .returned (.slice A' (n + s) c') ∧ Row w' w.heap.size 5 A' (n + s) c' ((xs ++ Wire.be s x).map bv) ∧ Ext w w' := by
 have hs8 : 1 ≤ s ∧ s ≤ 8 := by omega
 refine vc_enter1 29 Tryz.func135 rfl rfl rfl rfl ?_
 intro Q hret
 refine wc_seq ?_; intro K1 hK1
 refine wc_region ?_
 refine wl_y (y_assign rfl) rfl ?_
 refine wl_nil ?_
 refine wq_then_norm (hK1 ?_)
 refine wc_seq ?_; intro K2 hK2
 refine wc_region ?_
 refine wl_y (y_move rfl) rfl ?_
 refine wl_call Tryz.func192 rfl rfl rfl (clone_any A n c xs _ HA (by omega)) rfl ?_
 rintro e w1 ⟨A1, c1, rfl, O1, ex⟩
 refine ⟨_, rfl, ?_⟩
 have R1 : Row w1 w.heap.size 5 A1 n c1 (xs.map bv) := O1; have E := ex
 refine wl_y (y_assign rfl) rfl ?_
 refine wl_nil ?_
 refine wq_then_norm (hK2 ?_)
 refine wc_seq ?_; intro K3 hK3
 refine wc_seq ?_; intro K4 hK4
 refine wc_region ?_
 refine wl_y (y_move rfl) rfl ?_
 refine wl_call Tryz.func202 rfl rfl rfl (may_any s _) rfl ?_
 rintro e w2 ⟨rfl, ex⟩
 refine ⟨_, rfl, ?_⟩
 have R2 := R1.ext ex; have E2 := E.ext ex; rw [decide_eq_true hs]
 refine wl_y (y_not rfl) rfl ?_
 refine wl_nil ?_
 refine wq_then_norm (hK4 ?_)
 refine wc_false rfl rfl ?_
 refine wc_skip ?_
 refine wq_then_norm (hK3 ?_)
 refine wc_seq ?_; intro K5 hK5
 refine wc_seq ?_; intro K6 hK6
 refine wc_region ?_
 refine wl_y (y_move rfl) rfl ?_
 refine wl_y (y_sub rfl rfl (i64_ok (by omega) (by omega))) rfl ?_
 refine wl_y (y_assign rfl) rfl ?_
 refine wl_nil ?_
 refine wq_then_norm (hK6 ?_)
 refine wc_block ?_
 refine wc_loop (fun n' L wr => ∃ (j c5 : Nat) (A5 : Option Addr), L = [(0, .slice A5 (n + j) c5), (2, .int .u64 (x : Int)), (7, .int .i64 ((s : Int) - 1 - j))] ∧ n' = s - j ∧ (j ≤ s ∧ Ext w wr ∧ Row wr w.heap.size 5 A5 (n + j) c5 ((xs ++ Wire.be j (x / 256 ^ (s - j))).map bv))) _ _ ⟨0, c1, A1, rfl, rfl, by omega, E2, by rw [Wire.be, List.append_nil]; exact R2⟩ ⟨rfl, (by first | rfl | exact congrArg some (int_val (by omega))), (by first | rfl | exact congrArg some (int_val (by omega))), trivial⟩ ?_
 rintro KL1 n' L wr ⟨j, c5, A5, rfl, rfl, hj, F, R⟩ hL1
 refine wc_seq ?_; intro K7 hK7
 refine wc_seq ?_; intro K8 hK8
 refine wc_region ?_
 refine wl_y (y_move rfl) rfl ?_
 refine wl_y (y_geq rfl rfl) rfl ?_
 refine wl_nil ?_
 refine wq_then_norm (hK8 ?_)
 refine wc_dec rfl (fun hc2 => ?_) (fun hc2 => ?_)
 ·skip
  refine wc_skip ?_
  refine wq_then_norm (hK7 ?_)
  refine wc_seq ?_; intro K9 hK9
  refine wc_block ?_
  have hjs : j < s := by omega
  have hsF := F.size
  refine wc_region ?_
  refine wl_y (y_move rfl) rfl ?_
  refine wl_y (y_move rfl) rfl ?_
  refine wl_y (y_move rfl) rfl ?_
  refine wl_y (y_mul rfl rfl (i64_ok (by omega) (by omega))) rfl ?_
  refine wl_y (y_shr rfl rfl (by omega) (shr_bytes x (s - 1 - j) (by omega) _ (by omega))) rfl ?_
  refine wl_y (y_conv rfl Tryz.underlying38 Tryz.underlying5 (u8_conv _)) rfl ?_
  refine wl_ef (ef_lit (z := .int .u8 0) Tryz.underlying23 (by kernel_rfl) rfl rfl rfl rfl rfl) rfl ?_
  rintro _ w5 ⟨g5, rfl, B5, hg5, ex⟩
  have R5 := R.ext ex; have F5 := F.ext ex; have hs5 := F5.size
  refine wl_ef (ef_app rfl rfl eltB R5 (At.blk (vs := [UInt8.ofNat (x / 256 ^ (s - 1 - j))].map bv) (B5.congr (by rfl))) rfl (by intro u hu; exact bv_one u hu) (by omega) (by omega) hs5) rfl ?_
  rintro _ w6 ⟨A6, c6, rfl, R6, be, gr, hl⟩
  have F6 := F5.trans be; have R7 := R6.cat; rw [List.append_assoc, show Wire.be j (x / 256 ^ (s - j)) ++ [UInt8.ofNat (x / 256 ^ (s - 1 - j))] = Wire.be (j + 1) (x / 256 ^ (s - (j + 1))) from by rw [Wire.be, Nat.div_div_eq_div_mul, ← Nat.pow_succ, show (s - (j + 1)).succ = s - j from by omega, show s - (j + 1) = s - 1 - j from by omega]] at R7
  refine wl_y (y_assign rfl) rfl ?_
  refine wl_nil ?_
  refine wq_blk_norm ?_
  refine wq_then_norm (hK9 ?_)
  refine wc_region ?_
  refine wl_y (y_move rfl) rfl ?_
  refine wl_y (y_sub rfl rfl (i64_ok (by omega) (by omega))) rfl ?_
  refine wl_y (y_assign rfl) rfl ?_
  refine wl_nil ?_
  refine wq_then_norm ?_
  refine hL1 _ _ ⟨j + 1, c6, A6, rfl, rfl, by omega, F6, R7⟩ (by omega) ⟨rfl, (by first | rfl | exact congrArg some (int_val (by omega))), (by first | rfl | exact congrArg some (int_val (by omega))), trivial⟩
 ·skip
  refine wc_exit ?_
  refine wq_then_exit ?_
  refine wq_then_exit ?_
  refine wq_blk_hit ?_
  refine wq_then_norm (hK5 ?_)
  refine wc_seq ?_; intro K10 hK10
  refine wc_region ?_
  refine wl_y (y_move rfl) rfl ?_
  refine wl_y (y_assign rfl) rfl ?_
  refine wl_nil ?_
  refine wq_then_norm (hK10 ?_)
  refine wc_ret ?_
  refine hret rfl ?_
  obtain rfl : j = s := by omega
  rw [Nat.sub_self, Nat.pow_zero, Nat.div_one] at R
  exact ⟨A5, c5, rfl, R, F⟩
theorem putLen_any (A : Option Addr) (n c x : Nat) (xs : List UInt8) (w : World) (HA : Bs w A n xs) (hn : n ≤ 70368744177664) (hx : x < 1073741824) :
  Calls Tryz.prog 212 #[.slice A n c, .int .i64 (x : Int)] w fun e w' => ∃ A' c', e = .returned (.slice A' (n + Wire.lsz x) c') ∧ Row w' w.heap.size 5 A' (n + Wire.lsz x) c' ((xs ++ Wire.len x).map bv) ∧ Ext w w' := by
 have hl := Wire.lsz_le x
 obtain ⟨s, hs⟩ : ∃ s, s = Wire.lsz x := ⟨_, rfl⟩
 have hbe := Wire.len_be x hx
 rw [← hs] at hl hbe ⊢
 have hs' : s = 1 ∨ s = 2 ∨ s = 4 := by rw [hs]; unfold Wire.lsz; split <;> (try split) <;> simp
 have hor : ((s / 2 * 2 ^ (8 * s - 2) : Nat) ||| x) = s / 2 * 2 ^ (8 * s - 2) + x := by
  have hxl : x < 2 ^ (8 * s - 2) := by
   rw [hs]; unfold Wire.lsz
   split
   ·omega
   ·split <;> omega
  rw [Nat.mul_comm, Nat.two_pow_add_eq_or_of_lt hxl]
 have hlt : s / 2 * 2 ^ (8 * s - 2) + x < 18446744073709551616 := by rcases hs' with h | h | h <;> rw [h] <;> omega
 refine vc_enter1 27 Tryz.func212 rfl rfl rfl rfl ?_
 intro Q hret
 refine wc_seq ?_; intro K1 hK1
 refine wc_region ?_
 refine wl_y (y_assign rfl) rfl ?_
 refine wl_nil ?_
 refine wq_then_norm (hK1 ?_)
 refine wc_seq ?_; intro K2 hK2
 refine wc_region ?_
 refine wl_y (y_move rfl) rfl ?_
 refine wl_call Tryz.func250 rfl rfl rfl (lenSize_any x _ hx) rfl ?_
 rintro e w1 ⟨rfl, ex⟩
 refine ⟨_, rfl, ?_⟩
 replace HA := HA.ext ex
 have E := ex; rw [← hs]
 refine wl_y (y_assign rfl) rfl ?_
 refine wl_nil ?_
 refine wq_then_norm (hK2 ?_)
 refine wc_seq ?_; intro K3 hK3
 refine wc_seq ?_; intro K4 hK4
 refine wc_region ?_
 refine wl_y (y_move rfl) rfl ?_
 skip
 refine wl_y (y_eql rfl rfl) rfl ?_
 refine wl_nil ?_
 refine wq_then_norm (hK4 ?_)
 refine wc_no rfl (by omega) ?_
 refine wc_skip ?_
 refine wq_then_norm (hK3 ?_)
 refine wc_seq ?_; intro K5 hK5
 refine wc_region ?_
 refine wl_y (y_move rfl) rfl ?_
 refine wl_y (y_quo rfl rfl (by omega) (IntWalk.i64_quo _ _ (by omega))) rfl ?_
 refine wl_y (y_conv rfl Tryz.underlying3 Tryz.underlying38 (IntWalk.u64_in _ ⟨by omega, by omega⟩)) rfl ?_
 refine wl_y (y_assign rfl) rfl ?_
 refine wl_nil ?_
 refine wq_then_norm (hK5 ?_)
 refine wc_seq ?_; intro K6 hK6
 refine wc_region ?_
 refine wl_y (y_move rfl) rfl ?_
 refine wl_y (y_move rfl) rfl ?_
 refine wl_y (y_move rfl) rfl ?_
 refine wl_y (y_move rfl) rfl ?_
 refine wl_y (y_mul rfl rfl (i64_ok (by omega) (by omega))) rfl ?_
 refine wl_y (y_sub rfl rfl (i64_ok (by omega) (by omega))) rfl ?_
 refine wl_y (y_shl rfl rfl (by omega) (show IntKind.u64.wrap ((s : Int) / 2 * 2 ^ min ((8 : Int) * s - 2).toNat IntKind.u64.bits) = ((s / 2 * 2 ^ (8 * s - 2) : Nat) : Int) by rcases hs' with h | h | h <;> rw [h] <;> rfl)) rfl ?_
 refine wl_y (y_move rfl) rfl ?_
 refine wl_y (y_conv rfl Tryz.underlying3 Tryz.underlying38 (IntWalk.u64_in _ ⟨by omega, by omega⟩)) rfl ?_
 refine wl_y (y_or rfl rfl (by rw [(bits_u64 (by omega) (by omega)).2.1, hor])) rfl ?_
 refine wl_call Tryz.func135 rfl rfl rfl (putNum_any A n c s _ xs _ HA hn (by omega) hlt) rfl ?_
 rintro e w2 ⟨A2, c2, rfl, R2, ex⟩
 refine ⟨_, rfl, ?_⟩
 replace HA := HA.ext ex
 have E2 := E.ext ex; rw [hbe] at R2
 refine wl_y (y_assign rfl) rfl ?_
 refine wl_nil ?_
 refine wq_then_norm (hK6 ?_)
 refine wc_ret ?_
 refine hret rfl ?_
 exact ⟨A2, c2, rfl, R2.lower E.size, E2⟩
theorem putVec_any (A B : Option Addr) (n c m d : Nat) (xs ys : List UInt8) (w : World) (HA : Bs w A n xs) (hn : n ≤ 35184372088832) (HB : Bs w B m ys) (hm : m < 1073741824) :
  Calls Tryz.prog 145 #[.slice A n c, .slice B m d] w fun e w' => ∃ A' k c', e = .returned (.slice A' k c') ∧ Row w' w.heap.size 5 A' k c' ((xs ++ Wire.vec ys).map bv) ∧ k = n + (Wire.lsz m + m) ∧ Ext w w' := by
 have hl := Wire.lsz_le m
 refine vc_enter1 11 Tryz.func145 rfl rfl rfl rfl ?_
 intro Q hret
 refine wc_seq ?_; intro K1 hK1
 refine wc_region ?_
 refine wl_y (y_assign rfl) rfl ?_
 refine wl_nil ?_
 refine wq_then_norm (hK1 ?_)
 refine wc_seq ?_; intro K2 hK2
 refine wc_region ?_
 refine wl_y (y_move rfl) rfl ?_
 refine wl_y (y_move rfl) rfl ?_
 refine wl_y (y_len_slice rfl Tryz.underlying23) rfl ?_
 refine wl_call Tryz.func212 rfl rfl rfl (putLen_any A n c m xs _ HA (by omega) hm) rfl ?_
 rintro e w1 ⟨A1, c1, rfl, R1, ex⟩
 refine ⟨_, rfl, ?_⟩
 replace HB := HB.ext ex
 have E := ex; have hs1 := ex.size
 refine wl_y (y_move rfl) rfl ?_
 refine wl_ef (ef_app rfl rfl eltB R1 HB.2 (by rw [List.length_map, HB.1]) (by intro u hu; exact bv_one u hu) (by omega) (by omega) hs1) rfl ?_
 rintro _ w2 ⟨A2, c2, rfl, R2, be, gr, hl⟩
 have R3 := R2.cat; have E2 := E.trans be
 refine wl_y (y_assign rfl) rfl ?_
 refine wl_nil ?_
 refine wq_then_norm (hK2 ?_)
 refine wc_ret ?_
 refine hret rfl ?_
 exact ⟨A2, _, c2, rfl, by rw [Wire.vec, HB.1, ← List.append_assoc]; exact R3, by omega, E2⟩
theorem refNum_any (s x : Nat) (w : World) (hs : s ≤ 8) (hx : x < 18446744073709551616) :
  Calls Tryz.prog 59 #[.int .i64 (s : Int), .int .u64 (x : Int)] w fun e w' => ∃ A' c', e = .returned (.slice A' s c') ∧ Row w' w.heap.size 5 A' s c' ((Wire.be s x).map bv) ∧ Ext w w' := by
 refine vc_enter1 21 Tryz.func59 rfl rfl rfl rfl ?_
 intro Q hret
 refine wc_seq ?_; intro K1 hK1
 refine wc_region ?_
 refine wl_y (y_assign rfl) rfl ?_
 refine wl_nil ?_
 refine wq_then_norm (hK1 ?_)
 refine wc_seq ?_; intro K2 hK2
 refine wc_region ?_
 refine wl_y (y_assign rfl) rfl ?_
 refine wl_nil ?_
 refine wq_then_norm (hK2 ?_)
 refine wc_seq ?_; intro K3 hK3
 refine wc_seq ?_; intro K4 hK4
 refine wc_region ?_
 refine wl_y (y_assign rfl) rfl ?_
 refine wl_nil ?_
 refine wq_then_norm (hK4 ?_)
 refine wc_block ?_
 refine wc_loop (fun n' L wr => ∃ (j m q c5 : Nat) (A5 : Option Addr), L = [(0, .int .i64 (s : Int)), (1, .int .u64 (q : Int)), (5, .slice A5 m c5), (6, .int .i64 (j : Int))] ∧ n' = s - j ∧ (j ≤ s ∧ m = j ∧ q = x / 256 ^ j ∧ Ext w wr ∧ Row wr w.heap.size 5 A5 m c5 ((Wire.be j x).map bv))) _ _ ⟨0, 0, x, 0, none, rfl, rfl, by omega, rfl, by simp, Ext.refl _, Row.empty _ _ _⟩ ⟨(by first | rfl | exact congrArg some (int_val (by omega))), (by first | rfl | exact congrArg some (int_val (by omega))), rfl, (by first | rfl | exact congrArg some (int_val (by omega))), trivial⟩ ?_
 rintro KL1 n' L wr ⟨j, m, q, c5, A5, rfl, rfl, hj, hmj, hq, F, R⟩ hL1
 refine wc_seq ?_; intro K5 hK5
 refine wc_seq ?_; intro K6 hK6
 refine wc_region ?_
 refine wl_y (y_move rfl) rfl ?_
 refine wl_y (y_move rfl) rfl ?_
 refine wl_y (y_lss rfl rfl) rfl ?_
 refine wl_nil ?_
 refine wq_then_norm (hK6 ?_)
 refine wc_dec rfl (fun hc1 => ?_) (fun hc1 => ?_)
 ·skip
  refine wc_skip ?_
  refine wq_then_norm (hK5 ?_)
  refine wc_seq ?_; intro K7 hK7
  refine wc_block ?_
  refine wc_seq ?_; intro K8 hK8
  have hjs : j < s := by omega
  have hsF := F.size
  have hxj : q < 18446744073709551616 := by rw [hq]; exact Nat.lt_of_le_of_lt (Nat.div_le_self _ _) hx
  have hq2 : q / 256 = x / 256 ^ (j + 1) := by rw [hq, Nat.div_div_eq_div_mul, ← Nat.pow_succ]
  refine wc_region ?_
  refine wl_y (y_move rfl) rfl ?_
  refine wl_y (y_rem rfl rfl (by omega) (IntWalk.rem_in _ _ (by omega))) rfl ?_
  refine wl_y (y_conv rfl Tryz.underlying38 Tryz.underlying5 (show IntKind.u8.wrap _ = ((UInt8.ofNat q).toNat : Int) by rw [IntKind.wrap_u8', UInt8.toNat_ofNat']; omega)) rfl ?_
  refine wl_ef (ef_lit (z := .int .u8 0) Tryz.underlying23 (by kernel_rfl) rfl rfl rfl rfl rfl) rfl ?_
  rintro _ w5 ⟨g5, rfl, B5, hg5, ex⟩
  have R5 : Row w5 wr.heap.size 5 (some ⟨g5, 0, none⟩) 1 1 ([UInt8.ofNat q].map bv) := Row.new B5 hg5 rfl (by unfold maxLen; omega); have F5 := F.ext ex; have R1 := R.ext ex
  refine wl_y (y_move rfl) rfl ?_
  refine wl_ef (ef_app rfl rfl eltB R5 (Row.at R1) (by have := R1.len; exact this) (by intro u hu; exact bv_one u hu) (by omega) (by omega) ex.size) rfl ?_
  rintro _ w6 ⟨A6, c6, rfl, R6, be, gr, hl⟩
  have F6 := F5.trans (be.mono hsF); have R7 := R6.cat; rw [hq, ← Wire.be_front] at R7; replace R7 := R7.lower hsF
  refine wl_y (y_assign rfl) rfl ?_
  refine wl_nil ?_
  refine wq_then_norm (hK8 ?_)
  refine wc_region ?_
  refine wl_y (y_move rfl) rfl ?_
  refine wl_y (y_quo rfl rfl (by omega) (IntWalk.u64_quo _ _ (by omega))) rfl ?_
  refine wl_y (y_assign rfl) rfl ?_
  refine wl_nil ?_
  refine wq_blk_norm ?_
  refine wq_then_norm (hK7 ?_)
  refine wc_region ?_
  refine wl_y (y_move rfl) rfl ?_
  refine wl_y (y_add rfl rfl (i64_ok (by omega) (by omega))) rfl ?_
  refine wl_y (y_assign rfl) rfl ?_
  refine wl_nil ?_
  refine wq_then_norm ?_
  refine hL1 _ _ ⟨j + 1, 1 + m, q / 256, c6, A6, rfl, rfl, by omega, by omega, hq2, F6, R7⟩ (by omega) ⟨(by first | rfl | exact congrArg some (int_val (by omega))), (by first | rfl | exact congrArg some (int_val (by omega))), rfl, (by first | rfl | exact congrArg some (int_val (by omega))), trivial⟩
 ·skip
  refine wc_exit ?_
  refine wq_then_exit ?_
  refine wq_then_exit ?_
  refine wq_blk_hit ?_
  refine wq_then_norm (hK3 ?_)
  refine wc_seq ?_; intro K9 hK9
  refine wc_region ?_
  refine wl_y (y_move rfl) rfl ?_
  refine wl_y (y_assign rfl) rfl ?_
  refine wl_nil ?_
  refine wq_then_norm (hK9 ?_)
  refine wc_ret ?_
  refine hret rfl ?_
  obtain rfl : j = s := by omega
  exact ⟨A5, c5, by rw [hmj], by rw [← hmj] at R ⊢; exact R, F⟩
theorem u8_is {z : Int} {x : Nat} (h : z % 256 = (x : Int) % 256) : IntKind.u8.wrap z = ((UInt8.ofNat x).toNat : Int) := by
 rw [IntKind.wrap_u8', UInt8.toNat_ofNat']; omega
theorem refLen_any (x : Nat) (w : World) (hx : x < 1073741824) :
  Calls Tryz.prog 128 #[.int .i64 (x : Int)] w fun e w' => ∃ A' c', e = .returned (.slice A' (Wire.lsz x) c') ∧ Row w' w.heap.size 5 A' (Wire.lsz x) c' ((Wire.len x).map bv) ∧ Ext w w' := by
 refine vc_enter1 34 Tryz.func128 rfl rfl rfl rfl ?_
 intro Q hret
 refine wc_seq ?_; intro K1 hK1
 refine wc_region ?_
 refine wl_y (y_assign rfl) rfl ?_
 refine wl_nil ?_
 refine wq_then_norm (hK1 ?_)
 refine wc_seq ?_; intro K2 hK2
 refine wc_seq ?_; intro K3 hK3
 refine wc_region ?_
 refine wl_y (y_move rfl) rfl ?_
 refine wl_y (y_lss rfl rfl) rfl ?_
 refine wl_nil ?_
 refine wq_then_norm (hK3 ?_)
 refine wc_dec rfl (fun hc1 => ?_) (fun hc1 => ?_)
 ·skip
  refine wc_seq ?_; intro K4 hK4
  refine wc_region ?_
  refine wl_y (y_move rfl) rfl ?_
  refine wl_y (y_conv rfl Tryz.underlying3 Tryz.underlying5 (u8_is (x := x) (by omega))) rfl ?_
  refine wl_ef (ef_lit (z := .int .u8 0) Tryz.underlying23 (by kernel_rfl) rfl rfl rfl rfl rfl) rfl ?_
  rintro _ w5 ⟨g5, rfl, B5, hg5, ex⟩
  skip
  refine wl_y (y_assign rfl) rfl ?_
  refine wl_nil ?_
  refine wq_then_norm (hK4 ?_)
  refine wc_ret ?_
  refine wq_then_ret ?_
  refine hret rfl ?_
  exact ⟨_, 1, by rw [show Wire.lsz x = 1 from by unfold Wire.lsz; rw [if_pos (by omega)]], by rw [show Wire.lsz x = 1 from by unfold Wire.lsz; rw [if_pos (by omega)], show Wire.len x = [UInt8.ofNat x] from by unfold Wire.len; rw [if_pos (by omega)]]; exact Row.new B5 hg5 rfl (by unfold maxLen; omega), ex⟩
 ·skip
  refine wc_skip ?_
  refine wq_then_norm (hK2 ?_)
  refine wc_seq ?_; intro K5 hK5
  refine wc_seq ?_; intro K6 hK6
  refine wc_region ?_
  refine wl_y (y_move rfl) rfl ?_
  refine wl_y (y_lss rfl rfl) rfl ?_
  refine wl_nil ?_
  refine wq_then_norm (hK6 ?_)
  refine wc_dec rfl (fun hc2 => ?_) (fun hc2 => ?_)
  ·skip
   refine wc_seq ?_; intro K7 hK7
   refine wc_region ?_
   refine wl_y (y_move rfl) rfl ?_
   refine wl_y (y_quo rfl rfl (by omega) (IntWalk.i64_quo _ _ (by omega))) rfl ?_
   refine wl_y (y_add rfl rfl (i64_ok (by omega) (by omega))) rfl ?_
   refine wl_y (y_conv rfl Tryz.underlying3 Tryz.underlying5 (u8_is (x := 64 + x / 256) (by omega))) rfl ?_
   refine wl_y (y_move rfl) rfl ?_
   refine wl_y (y_rem rfl rfl (by omega) (IntWalk.rem_in _ _ (by omega))) rfl ?_
   refine wl_y (y_conv rfl Tryz.underlying3 Tryz.underlying5 (u8_is (x := x % 256) (by omega))) rfl ?_
   refine wl_ef (ef_lit (z := .int .u8 0) Tryz.underlying23 (by kernel_rfl) rfl rfl rfl rfl rfl) rfl ?_
   rintro _ w5 ⟨g5, rfl, B5, hg5, ex⟩
   skip
   refine wl_y (y_assign rfl) rfl ?_
   refine wl_nil ?_
   refine wq_then_norm (hK7 ?_)
   refine wc_ret ?_
   refine wq_then_ret ?_
   refine hret rfl ?_
   exact ⟨_, 2, by rw [show Wire.lsz x = 2 from by unfold Wire.lsz; rw [if_neg (by omega), if_pos (by omega)]], by rw [show Wire.lsz x = 2 from by unfold Wire.lsz; rw [if_neg (by omega), if_pos (by omega)], show Wire.len x = [UInt8.ofNat (64 + x / 256), UInt8.ofNat (x % 256)] from by unfold Wire.len; rw [if_neg (by omega), if_pos (by omega)]]; exact Row.new B5 hg5 rfl (by unfold maxLen; omega), ex⟩
  ·skip
   refine wc_skip ?_
   refine wq_then_norm (hK5 ?_)
   refine wc_seq ?_; intro K8 hK8
   refine wc_region ?_
   refine wl_y (y_move rfl) rfl ?_
   refine wl_y (y_quo rfl rfl (by omega) (IntWalk.i64_quo _ _ (by omega))) rfl ?_
   refine wl_y (y_add rfl rfl (i64_ok (by omega) (by omega))) rfl ?_
   refine wl_y (y_conv rfl Tryz.underlying3 Tryz.underlying5 (u8_is (x := 128 + x / 16777216) (by omega))) rfl ?_
   refine wl_y (y_move rfl) rfl ?_
   refine wl_y (y_quo rfl rfl (by omega) (IntWalk.i64_quo _ _ (by omega))) rfl ?_
   refine wl_y (y_rem rfl rfl (by omega) (IntWalk.rem_in _ _ (by omega))) rfl ?_
   refine wl_y (y_conv rfl Tryz.underlying3 Tryz.underlying5 (u8_is (x := x / 65536 % 256) (by omega))) rfl ?_
   refine wl_y (y_move rfl) rfl ?_
   refine wl_y (y_quo rfl rfl (by omega) (IntWalk.i64_quo _ _ (by omega))) rfl ?_
   refine wl_y (y_rem rfl rfl (by omega) (IntWalk.rem_in _ _ (by omega))) rfl ?_
   refine wl_y (y_conv rfl Tryz.underlying3 Tryz.underlying5 (u8_is (x := x / 256 % 256) (by omega))) rfl ?_
   refine wl_y (y_move rfl) rfl ?_
   refine wl_y (y_rem rfl rfl (by omega) (IntWalk.rem_in _ _ (by omega))) rfl ?_
   refine wl_y (y_conv rfl Tryz.underlying3 Tryz.underlying5 (u8_is (x := x % 256) (by omega))) rfl ?_
   refine wl_ef (ef_lit (z := .int .u8 0) Tryz.underlying23 (by kernel_rfl) rfl rfl rfl rfl rfl) rfl ?_
   rintro _ w5 ⟨g5, rfl, B5, hg5, ex⟩
   skip
   refine wl_y (y_assign rfl) rfl ?_
   refine wl_nil ?_
   refine wq_then_norm (hK8 ?_)
   refine wc_ret ?_
   refine hret rfl ?_
   exact ⟨_, 4, by rw [show Wire.lsz x = 4 from by unfold Wire.lsz; rw [if_neg (by omega), if_neg (by omega)]], by rw [show Wire.lsz x = 4 from by unfold Wire.lsz; rw [if_neg (by omega), if_neg (by omega)], show Wire.len x = [UInt8.ofNat (128 + x / 16777216), UInt8.ofNat (x / 65536 % 256), UInt8.ofNat (x / 256 % 256), UInt8.ofNat (x % 256)] from by unfold Wire.len; rw [if_neg (by omega), if_neg (by omega)]]; exact Row.new B5 hg5 rfl (by unfold maxLen; omega), ex⟩
theorem refVec_any (B : Option Addr) (m d : Nat) (ys : List UInt8) (w : World) (HB : Bs w B m ys) (hm : m < 1073741824) :
  Calls Tryz.prog 57 #[.slice B m d] w fun e w' => ∃ A' k c', e = .returned (.slice A' k c') ∧ Row w' w.heap.size 5 A' k c' ((Wire.vec ys).map bv) ∧ k = Wire.lsz m + m ∧ Ext w w' := by
 have hl := Wire.lsz_le m
 refine vc_enter1 8 Tryz.func57 rfl rfl rfl rfl ?_
 intro Q hret
 refine wc_seq ?_; intro K1 hK1
 refine wc_region ?_
 refine wl_y (y_assign rfl) rfl ?_
 refine wl_nil ?_
 refine wq_then_norm (hK1 ?_)
 refine wc_seq ?_; intro K2 hK2
 refine wc_region ?_
 refine wl_y (y_move rfl) rfl ?_
 refine wl_y (y_len_slice rfl Tryz.underlying23) rfl ?_
 refine wl_call Tryz.func128 rfl rfl rfl (refLen_any m _ hm) rfl ?_
 rintro e w1 ⟨A1, c1, rfl, R1, ex⟩
 refine ⟨_, rfl, ?_⟩
 replace HB := HB.ext ex
 have E := ex; have hs1 := ex.size
 refine wl_y (y_move rfl) rfl ?_
 refine wl_ef (ef_app rfl rfl eltB R1 HB.2 (by rw [List.length_map, HB.1]) (by intro u hu; exact bv_one u hu) (by omega) (by omega) hs1) rfl ?_
 rintro _ w2 ⟨A2, c2, rfl, R2, be, gr, hl⟩
 have R3 := R2.cat; have E2 := E.trans be
 refine wl_y (y_assign rfl) rfl ?_
 refine wl_nil ?_
 refine wq_then_norm (hK2 ?_)
 refine wc_ret ?_
 refine hret rfl ?_
 exact ⟨A2, _, c2, rfl, by rw [Wire.vec, HB.1]; exact R3, rfl, E2⟩
theorem mls_cat (s : ByteArray) : ((⟨#[77, 76, 83, 32, 49, 46, 48, 32]⟩ : ByteArray) ++ s).data.toList = Kdf.mls ++ s.data.toList := by
 simp [Kdf.mls]
theorem mls_size (s : ByteArray) : ((⟨#[77, 76, 83, 32, 49, 46, 48, 32]⟩ : ByteArray) ++ s).size = 8 + s.size := by
 rw [ByteArray.size_append]; rfl
end Go.Proofs.YtjllhimhiekchaaGreat
