/- The long digest: bytes with their tail, the digest, Of. -/
import Derived.Test.YtbcbihdfpkeacaaLongC
import Derived.Test.YtbcbihdfpkeacaaLongZ
import Derived.Test.YtbcbihdfpkeacaaChunkA
namespace Go.Proofs.Ytbcbihdfpkeacaa
open Go.RowKit
attribute [local irreducible] Y Ef WL WC WK WQ WM OpM WN WF OpN
theorem lbyte (x : Nat) (k : Nat) (hk : k ≤ 64) : IntKind.u8.wrap (((x / 2 ^ k : Nat)) : Int) = ((UInt8.ofNat (x / 2 ^ k)).toNat : Int) := by
  rw [UInt8.toNat_ofNat']
  show (((x / 2 ^ k : Nat) : Int) % 256) = _
  omega
theorem pows8 (x j : Nat) (h : j < 8) : UInt8.ofNat (x / 2 ^ (8 * (7 - j))) = (Lng.be64 x).getD j 0 := by
  have : j = 0 ∨ j = 1 ∨ j = 2 ∨ j = 3 ∨ j = 4 ∨ j = 5 ∨ j = 6 ∨ j = 7 := by omega
  rcases this with rfl | rfl | rfl | rfl | rfl | rfl | rfl | rfl
  all_goals simp [Lng.be64]
theorem be64_take (x j : Nat) (h : j < 8) : (Lng.be64 x).take j ++ [(Lng.be64 x).getD j 0] = (Lng.be64 x).take (j + 1) := by
  have : j = 0 ∨ j = 1 ∨ j = 2 ∨ j = 3 ∨ j = 4 ∨ j = 5 ∨ j = 6 ∨ j = 7 := by omega
  rcases this with rfl | rfl | rfl | rfl | rfl | rfl | rfl | rfl
  all_goals rfl
theorem whole_any (A : Option Addr) (n c : Nat) (xs : List UInt8) (w : World) (HA : Bs w A n xs) (hn : n ≤ 1000000) :
    Calls Try.prog 113 #[.slice A n c] w fun e w' => ∃ A' c', e = .returned (.slice A' (n + (17 + Lng.zeros n)) c') ∧ Row w' w.heap.size 5 A' (n + (17 + Lng.zeros n)) c' ((xs ++ Lng.pad n).map bv) ∧ Ext w w' := by
  have hxl := HA.1
  have hzl : Lng.zeros n < 128 := Nat.mod_lt _ (by omega)
  have hz : Lng.zeros n = (239 - n % 128) % 128 := rfl
  refine vc_enter1 34 Try.func113 rfl rfl rfl rfl ?_
  intro Q hret
  refine wc_seq ?_; intro K1 hK1
  refine wc_region ?_
  refine wl_y (y_assign rfl) rfl ?_
  refine wl_nil ?_
  refine wq_then_norm (hK1 ?_)
  refine wc_seq ?_; intro K2 hK2
  refine wc_region ?_
  refine wl_y (y_move rfl) rfl ?_
  refine wl_call Try.func151 rfl rfl rfl (clone_any A n c xs _ HA (by omega)) rfl ?_
  rintro e w1 ⟨A1, c1, rfl, O1, ex⟩
  refine ⟨_, rfl, ?_⟩
  have E1 := ex; have R1 : Row w1 w.heap.size 5 A1 n c1 (xs.map bv) := O1
  refine wl_ef (ef_lit (z := .int .u8 0) Try.underlying22 (by kernel_rfl) rfl rfl rfl rfl rfl) rfl ?_
  rintro _ w2 ⟨g2, rfl, B2, hg2, ex⟩
  have E2 := E1.ext ex; have R2 := R1.ext ex
  refine wl_ef (ef_app rfl rfl eltB R2 (At.blk (vs := [(128 : UInt8)].map bv) (B2.congr rfl)) rfl (by intro u hu; exact bv_one u hu) (by omega) (by omega) E2.size) rfl ?_
  rintro _ w3 ⟨A3, c3, rfl, R3, be, gr, hl⟩
  have E3 := E2.trans be; replace R3 := R3.cat
  refine wl_y (y_assign rfl) rfl ?_
  refine wl_nil ?_
  refine wq_then_norm (hK2 ?_)
  refine wc_seq ?_; intro K3 hK3
  refine wc_block ?_
  refine wc_loop (fun n' L wr => ∃ (k c4 : Nat) (A4 : Option Addr), L = [(0, .slice A n c), (3, .slice A4 (n + 1 + k) c4)] ∧ n' = Lng.zeros n - k ∧ (k ≤ Lng.zeros n ∧ Ext w wr ∧ Row wr w.heap.size 5 A4 (n + 1 + k) c4 ((xs ++ 128 :: List.replicate k 0).map bv))) _ _ ⟨0, c3, A3, rfl, rfl, by omega, E3, R3⟩ ⟨rfl, rfl, trivial⟩ ?_
  rintro KL1 n' L wr ⟨k, c4, A4, rfl, rfl, hk, E, R⟩ hL1
  refine wc_seq ?_; intro K4 hK4
  refine wc_seq ?_; intro K5 hK5
  refine wc_region ?_
  refine wl_y (y_move rfl) rfl ?_
  refine wl_y (y_len_slice rfl Try.underlying22) rfl ?_
  refine wl_y (y_rem rfl rfl (by omega) (show (((n + 1 + k : Nat) : Int).tmod 128) = (((n + 1 + k) % 128 : Nat) : Int) from rfl)) rfl ?_
  refine wl_y (y_neq rfl rfl) rfl ?_
  refine wl_nil ?_
  refine wq_then_norm (hK5 ?_)
  refine wc_dec rfl (fun hc1 => ?_) (fun hc1 => ?_)
  · skip
    have hkz : k < Lng.zeros n := by omega
    refine wc_skip ?_
    refine wq_then_norm (hK4 ?_)
    refine wc_block ?_
    refine wc_region ?_
    refine wl_y (y_move rfl) rfl ?_
    refine wl_ef (ef_lit (z := .int .u8 0) Try.underlying22 (by kernel_rfl) rfl rfl rfl rfl rfl) rfl ?_
    rintro _ w5 ⟨g5, rfl, B5, hg5, ex⟩
    have E5 := E.ext ex; have R5 := R.ext ex
    refine wl_ef (ef_app rfl rfl eltB R5 (At.blk (vs := [(0 : UInt8)].map bv) (B5.congr rfl)) rfl (by intro u hu; exact bv_one u hu) (by omega) (by omega) E5.size) rfl ?_
    rintro _ w6 ⟨A6, c6, rfl, R6, be, gr, hl⟩
    have E6 := E5.trans be; replace R6 := R6.cat
    refine wl_y (y_assign rfl) rfl ?_
    refine wl_nil ?_
    refine wq_blk_norm ?_
    refine wq_then_norm ?_
    refine hL1 _ _ ⟨k + 1, c6, A6, rfl, rfl, by omega, E6, (by rw [List.append_assoc, List.cons_append, ← List.replicate_succ'] at R6; exact R6)⟩ (by omega) ⟨rfl, rfl, trivial⟩
  · skip
    refine wc_exit ?_
    refine wq_then_exit ?_
    refine wq_then_exit ?_
    refine wq_blk_hit ?_
    refine wq_then_norm (hK3 ?_)
    refine wc_seq ?_; intro K6 hK6
    obtain rfl : k = Lng.zeros n := by omega
    refine wc_region ?_
    refine wl_y (y_move rfl) rfl ?_
    refine wl_ef (ef_appz (m := 8) rfl rfl eltB (kn := .i64) (by kernel_rfl) R (u := .int .u8 0) (by kernel_rfl) rfl (by omega) (by omega) (by omega) (by omega) E.size) rfl ?_
    rintro _ w7 ⟨A7, c7, rfl, R7, be, gr, hl⟩
    have E7 := E.trans be; have e7 : List.replicate 8 (Value.int .u8 0) = (List.replicate 8 (0 : UInt8)).map bv := rfl
    rw [e7] at R7
    replace R7 := R7.cat
    refine wl_y (y_assign rfl) rfl ?_
    refine wl_nil ?_
    refine wq_then_norm (hK6 ?_)
    refine wc_seq ?_; intro K7 hK7
    refine wc_seq ?_; intro K8 hK8
    refine wc_region ?_
    refine wl_y (y_assign rfl) rfl ?_
    refine wl_nil ?_
    refine wq_then_norm (hK8 ?_)
    refine wc_block ?_
    refine wc_loop (fun n' L wr => ∃ (j c8 : Nat) (A8 : Option Addr), L = [(0, .slice A n c), (3, .slice A8 (n + 1 + Lng.zeros n + 8 + j) c8), (4, .int .i64 (7 - (j : Int)))] ∧ n' = 8 - j ∧ (j ≤ 8 ∧ Ext w wr ∧ Row wr w.heap.size 5 A8 (n + 1 + Lng.zeros n + 8 + j) c8 ((xs ++ 128 :: List.replicate (Lng.zeros n) 0 ++ List.replicate 8 0 ++ (Lng.be64 (n * 8)).take j).map bv))) _ _ ⟨0, c7, A7, rfl, rfl, by omega, E7, (by rw [List.take_zero, List.append_nil]; exact R7)⟩ ⟨rfl, rfl, (by first | rfl | exact congrArg some (int_val (by omega))), trivial⟩ ?_
    rintro KL2 n' L wr ⟨j, c8, A8, rfl, rfl, hj, E, R⟩ hL2
    refine wc_seq ?_; intro K9 hK9
    refine wc_seq ?_; intro K10 hK10
    refine wc_region ?_
    refine wl_y (y_move rfl) rfl ?_
    refine wl_y (y_geq rfl rfl) rfl ?_
    refine wl_nil ?_
    refine wq_then_norm (hK10 ?_)
    refine wc_dec rfl (fun hc2 => ?_) (fun hc2 => ?_)
    · skip
      refine wc_skip ?_
      refine wq_then_norm (hK9 ?_)
      refine wc_seq ?_; intro K11 hK11
      refine wc_block ?_
      refine wc_region ?_
      refine wl_y (y_move rfl) rfl ?_
      refine wl_y (y_move rfl) rfl ?_
      refine wl_y (y_len_slice rfl Try.underlying22) rfl ?_
      refine wl_y (y_conv rfl Try.underlying3 Try.underlying23 (c := (n : Int)) (show IntKind.u64.wrap (n : Int) = (n : Int) from u64_nat rfl (by omega))) rfl ?_
      refine wl_y (y_mul rfl rfl (u64_nat (n := n * 8) (by omega) (by omega))) rfl ?_
      refine wl_y (y_move rfl) rfl ?_
      refine wl_y (y_mul rfl rfl (i64_nat (n := 8 * (7 - j)) (by omega) (by omega))) rfl ?_
      refine wl_y (y_shr rfl rfl (by omega) (shr64 (n * 8) (8 * (7 - j)) (by omega))) rfl ?_
      refine wl_y (y_conv rfl Try.underlying23 Try.underlying5 (lbyte _ _ (by omega))) rfl ?_
      refine wl_ef (ef_lit (z := .int .u8 0) Try.underlying22 (by kernel_rfl) rfl rfl rfl rfl rfl) rfl ?_
      rintro _ w9 ⟨g9, rfl, B9, hg9, ex⟩
      have E9 := E.ext ex; have R9 := R.ext ex
      refine wl_ef (ef_app rfl rfl eltB R9 (At.blk (vs := [UInt8.ofNat (n * 8 / 2 ^ (8 * (7 - j)))].map bv) (B9.congr rfl)) rfl (by intro u hu; exact bv_one u hu) (by omega) (by omega) E9.size) rfl ?_
      rintro _ w10 ⟨A10, c10, rfl, R10, be, gr, hl⟩
      have E10 := E9.trans be; replace R10 := R10.cat; rw [pows8 _ _ (by omega), List.append_assoc _ (List.take j _), be64_take _ _ (by omega)] at R10
      refine wl_y (y_assign rfl) rfl ?_
      refine wl_nil ?_
      refine wq_blk_norm ?_
      refine wq_then_norm (hK11 ?_)
      refine wc_region ?_
      refine wl_y (y_move rfl) rfl ?_
      refine wl_y (y_sub rfl rfl (i64_ok (by omega) (by omega))) rfl ?_
      refine wl_y (y_assign rfl) rfl ?_
      refine wl_nil ?_
      refine wq_then_norm ?_
      refine hL2 _ _ ⟨j + 1, c10, A10, rfl, rfl, by omega, E10, R10⟩ (by omega) ⟨rfl, rfl, (by first | rfl | exact congrArg some (int_val (by omega))), trivial⟩
    · skip
      refine wc_exit ?_
      refine wq_then_exit ?_
      refine wq_then_exit ?_
      refine wq_blk_hit ?_
      refine wq_then_norm (hK7 ?_)
      refine wc_seq ?_; intro K12 hK12
      refine wc_region ?_
      refine wl_y (y_move rfl) rfl ?_
      refine wl_y (y_assign rfl) rfl ?_
      refine wl_nil ?_
      refine wq_then_norm (hK12 ?_)
      refine wc_ret ?_
      refine hret rfl ?_
      obtain rfl : j = 8 := by omega
      exact ⟨A8, c8, (by congr 2; omega), R.congr (by omega) (by congr 1; rw [show (Lng.be64 (n * 8)).take 8 = Lng.be64 (n * 8) from rfl]; simp [Lng.pad]), E⟩
end Go.Proofs.Ytbcbihdfpkeacaa
