/- aes: the table. No conditions: contracts of functions. -/
import Derived.Test.YtjllhimhiekchaaAeA
import Derived.Test.YtjllhimhiekchaaDhC
namespace Go.Proofs.Ytjllhimhiekchaa
open Go.RowKit
attribute [local irreducible] Y Ef WL WC WK WQ WM OpM
open Ae
theorem u8_ofNat {v : Nat} (h : v < 256) : ((UInt8.ofNat v).toNat : Int) = (v : Int) := by rw [UInt8.toNat_ofNat']; omega
theorem boxes_any (w : World) : Calls Try.prog 77 #[] w fun e w' => e = .returned (.agg (bys box)) ∧ Ext w w' := by
  have F := Chs.refl [] w
  refine vc_enterc1 (s := 256) 29 Try.func77 rfl rfl rfl Try.underlying98 rfl (by kernel_rfl) rfl ?_
  intro Q hret
  refine wc_seq ?_; intro K1 hK1
  refine wc_region ?_
  refine wl_ef (ef_alloc (Z := #[.int .u8 0, .int .u8 0, .int .u8 0, .int .u8 0, .int .u8 0, .int .u8 0, .int .u8 0, .int .u8 0, .int .u8 0, .int .u8 0, .int .u8 0, .int .u8 0, .int .u8 0, .int .u8 0, .int .u8 0, .int .u8 0, .int .u8 0, .int .u8 0, .int .u8 0, .int .u8 0, .int .u8 0, .int .u8 0, .int .u8 0, .int .u8 0, .int .u8 0, .int .u8 0, .int .u8 0, .int .u8 0, .int .u8 0, .int .u8 0, .int .u8 0, .int .u8 0, .int .u8 0, .int .u8 0, .int .u8 0, .int .u8 0, .int .u8 0, .int .u8 0, .int .u8 0, .int .u8 0, .int .u8 0, .int .u8 0, .int .u8 0, .int .u8 0, .int .u8 0, .int .u8 0, .int .u8 0, .int .u8 0, .int .u8 0, .int .u8 0, .int .u8 0, .int .u8 0, .int .u8 0, .int .u8 0, .int .u8 0, .int .u8 0, .int .u8 0, .int .u8 0, .int .u8 0, .int .u8 0, .int .u8 0, .int .u8 0, .int .u8 0, .int .u8 0, .int .u8 0, .int .u8 0, .int .u8 0, .int .u8 0, .int .u8 0, .int .u8 0, .int .u8 0, .int .u8 0, .int .u8 0, .int .u8 0, .int .u8 0, .int .u8 0, .int .u8 0, .int .u8 0, .int .u8 0, .int .u8 0, .int .u8 0, .int .u8 0, .int .u8 0, .int .u8 0, .int .u8 0, .int .u8 0, .int .u8 0, .int .u8 0, .int .u8 0, .int .u8 0, .int .u8 0, .int .u8 0, .int .u8 0, .int .u8 0, .int .u8 0, .int .u8 0, .int .u8 0, .int .u8 0, .int .u8 0, .int .u8 0, .int .u8 0, .int .u8 0, .int .u8 0, .int .u8 0, .int .u8 0, .int .u8 0, .int .u8 0, .int .u8 0, .int .u8 0, .int .u8 0, .int .u8 0, .int .u8 0, .int .u8 0, .int .u8 0, .int .u8 0, .int .u8 0, .int .u8 0, .int .u8 0, .int .u8 0, .int .u8 0, .int .u8 0, .int .u8 0, .int .u8 0, .int .u8 0, .int .u8 0, .int .u8 0, .int .u8 0, .int .u8 0, .int .u8 0, .int .u8 0, .int .u8 0, .int .u8 0, .int .u8 0, .int .u8 0, .int .u8 0, .int .u8 0, .int .u8 0, .int .u8 0, .int .u8 0, .int .u8 0, .int .u8 0, .int .u8 0, .int .u8 0, .int .u8 0, .int .u8 0, .int .u8 0, .int .u8 0, .int .u8 0, .int .u8 0, .int .u8 0, .int .u8 0, .int .u8 0, .int .u8 0, .int .u8 0, .int .u8 0, .int .u8 0, .int .u8 0, .int .u8 0, .int .u8 0, .int .u8 0, .int .u8 0, .int .u8 0, .int .u8 0, .int .u8 0, .int .u8 0, .int .u8 0, .int .u8 0, .int .u8 0, .int .u8 0, .int .u8 0, .int .u8 0, .int .u8 0, .int .u8 0, .int .u8 0, .int .u8 0, .int .u8 0, .int .u8 0, .int .u8 0, .int .u8 0, .int .u8 0, .int .u8 0, .int .u8 0, .int .u8 0, .int .u8 0, .int .u8 0, .int .u8 0, .int .u8 0, .int .u8 0, .int .u8 0, .int .u8 0, .int .u8 0, .int .u8 0, .int .u8 0, .int .u8 0, .int .u8 0, .int .u8 0, .int .u8 0, .int .u8 0, .int .u8 0, .int .u8 0, .int .u8 0, .int .u8 0, .int .u8 0, .int .u8 0, .int .u8 0, .int .u8 0, .int .u8 0, .int .u8 0, .int .u8 0, .int .u8 0, .int .u8 0, .int .u8 0, .int .u8 0, .int .u8 0, .int .u8 0, .int .u8 0, .int .u8 0, .int .u8 0, .int .u8 0, .int .u8 0, .int .u8 0, .int .u8 0, .int .u8 0, .int .u8 0, .int .u8 0, .int .u8 0, .int .u8 0, .int .u8 0, .int .u8 0, .int .u8 0, .int .u8 0, .int .u8 0, .int .u8 0, .int .u8 0, .int .u8 0, .int .u8 0, .int .u8 0, .int .u8 0, .int .u8 0, .int .u8 0, .int .u8 0, .int .u8 0, .int .u8 0, .int .u8 0, .int .u8 0, .int .u8 0, .int .u8 0, .int .u8 0, .int .u8 0, .int .u8 0, .int .u8 0, .int .u8 0, .int .u8 0, .int .u8 0, .int .u8 0, .int .u8 0]) (by kernel_rfl)) rfl ?_
  rintro _ wB0 ⟨gB0, rfl, B0, hgB0, ex⟩
  have lB0 := B0.lt; have zB0 := ex.size
  replace F := F.grow ex hgB0
  refine wl_nil ?_
  refine wq_then_norm (hK1 ?_)
  refine wc_seq ?_; intro K2 hK2
  refine wc_region ?_
  refine wl_ef (ef_alloc (Z := #[.int .u8 0, .int .u8 0, .int .u8 0, .int .u8 0, .int .u8 0, .int .u8 0, .int .u8 0, .int .u8 0, .int .u8 0, .int .u8 0, .int .u8 0, .int .u8 0, .int .u8 0, .int .u8 0, .int .u8 0, .int .u8 0, .int .u8 0, .int .u8 0, .int .u8 0, .int .u8 0, .int .u8 0, .int .u8 0, .int .u8 0, .int .u8 0, .int .u8 0, .int .u8 0, .int .u8 0, .int .u8 0, .int .u8 0, .int .u8 0, .int .u8 0, .int .u8 0, .int .u8 0, .int .u8 0, .int .u8 0, .int .u8 0, .int .u8 0, .int .u8 0, .int .u8 0, .int .u8 0, .int .u8 0, .int .u8 0, .int .u8 0, .int .u8 0, .int .u8 0, .int .u8 0, .int .u8 0, .int .u8 0, .int .u8 0, .int .u8 0, .int .u8 0, .int .u8 0, .int .u8 0, .int .u8 0, .int .u8 0, .int .u8 0, .int .u8 0, .int .u8 0, .int .u8 0, .int .u8 0, .int .u8 0, .int .u8 0, .int .u8 0, .int .u8 0, .int .u8 0, .int .u8 0, .int .u8 0, .int .u8 0, .int .u8 0, .int .u8 0, .int .u8 0, .int .u8 0, .int .u8 0, .int .u8 0, .int .u8 0, .int .u8 0, .int .u8 0, .int .u8 0, .int .u8 0, .int .u8 0, .int .u8 0, .int .u8 0, .int .u8 0, .int .u8 0, .int .u8 0, .int .u8 0, .int .u8 0, .int .u8 0, .int .u8 0, .int .u8 0, .int .u8 0, .int .u8 0, .int .u8 0, .int .u8 0, .int .u8 0, .int .u8 0, .int .u8 0, .int .u8 0, .int .u8 0, .int .u8 0, .int .u8 0, .int .u8 0, .int .u8 0, .int .u8 0, .int .u8 0, .int .u8 0, .int .u8 0, .int .u8 0, .int .u8 0, .int .u8 0, .int .u8 0, .int .u8 0, .int .u8 0, .int .u8 0, .int .u8 0, .int .u8 0, .int .u8 0, .int .u8 0, .int .u8 0, .int .u8 0, .int .u8 0, .int .u8 0, .int .u8 0, .int .u8 0, .int .u8 0, .int .u8 0, .int .u8 0, .int .u8 0, .int .u8 0, .int .u8 0, .int .u8 0, .int .u8 0, .int .u8 0, .int .u8 0, .int .u8 0, .int .u8 0, .int .u8 0, .int .u8 0, .int .u8 0, .int .u8 0, .int .u8 0, .int .u8 0, .int .u8 0, .int .u8 0, .int .u8 0, .int .u8 0, .int .u8 0, .int .u8 0, .int .u8 0, .int .u8 0, .int .u8 0, .int .u8 0, .int .u8 0, .int .u8 0, .int .u8 0, .int .u8 0, .int .u8 0, .int .u8 0, .int .u8 0, .int .u8 0, .int .u8 0, .int .u8 0, .int .u8 0, .int .u8 0, .int .u8 0, .int .u8 0, .int .u8 0, .int .u8 0, .int .u8 0, .int .u8 0, .int .u8 0, .int .u8 0, .int .u8 0, .int .u8 0, .int .u8 0, .int .u8 0, .int .u8 0, .int .u8 0, .int .u8 0, .int .u8 0, .int .u8 0, .int .u8 0, .int .u8 0, .int .u8 0, .int .u8 0, .int .u8 0, .int .u8 0, .int .u8 0, .int .u8 0, .int .u8 0, .int .u8 0, .int .u8 0, .int .u8 0, .int .u8 0, .int .u8 0, .int .u8 0, .int .u8 0, .int .u8 0, .int .u8 0, .int .u8 0, .int .u8 0, .int .u8 0, .int .u8 0, .int .u8 0, .int .u8 0, .int .u8 0, .int .u8 0, .int .u8 0, .int .u8 0, .int .u8 0, .int .u8 0, .int .u8 0, .int .u8 0, .int .u8 0, .int .u8 0, .int .u8 0, .int .u8 0, .int .u8 0, .int .u8 0, .int .u8 0, .int .u8 0, .int .u8 0, .int .u8 0, .int .u8 0, .int .u8 0, .int .u8 0, .int .u8 0, .int .u8 0, .int .u8 0, .int .u8 0, .int .u8 0, .int .u8 0, .int .u8 0, .int .u8 0, .int .u8 0, .int .u8 0, .int .u8 0, .int .u8 0, .int .u8 0, .int .u8 0, .int .u8 0, .int .u8 0, .int .u8 0, .int .u8 0, .int .u8 0, .int .u8 0, .int .u8 0, .int .u8 0, .int .u8 0, .int .u8 0, .int .u8 0, .int .u8 0, .int .u8 0, .int .u8 0, .int .u8 0, .int .u8 0]) (by kernel_rfl)) rfl ?_
  rintro _ wB1 ⟨gB1, rfl, B1, hgB1, ex⟩
  have lB1 := B1.lt; have zB1 := ex.size
  have nB0_1 : gB0 < gB1 := Nat.lt_of_lt_of_le B0.lt hgB1
  replace F := F.grow ex hgB1
  replace B0 := B0.grow ex hgB1
  refine wl_nil ?_
  refine wq_then_norm (hK2 ?_)
  refine wc_seq ?_; intro K3 hK3
  refine wc_region ?_
  refine wl_y (y_assign rfl) rfl ?_
  refine wl_y (y_assign rfl) rfl ?_
  refine wl_nil ?_
  refine wq_then_norm (hK3 ?_)
  refine wc_seq ?_; intro K4 hK4
  replace B1 := B1.congr (cs' := bys (List.replicate 256 0)) (by kernel_rfl)
  refine wc_region ?_
  refine wl_y (y_ixa1 rfl rfl Try.underlying98 (by kernel_rfl) (j := 0) (by omega) (by omega)) rfl ?_
  refine wl_ef (ef_storeB rfl rfl rfl (by kernel_rfl) B1 (by rw [bys_size, List.length_replicate]; omega)) rfl ?_
  rintro _ w3 ⟨rfl, D1, cg⟩
  have ex := Chs.one cg
  clear cg; rw [show (99 : Int) = (((99 : UInt8).toNat : Nat) : Int) from rfl, bys_put] at D1
  replace F := F.chs ex
  replace B0 := B0.chs ex
  refine wl_nil ?_
  refine wq_then_norm (hK4 ?_)
  refine wc_seq ?_; intro K5 hK5
  refine wc_seq ?_; intro K6 hK6
  refine wc_region ?_
  refine wl_y (y_move rfl) rfl ?_
  refine wl_nil ?_
  refine wq_then_norm (hK6 ?_)
  refine wc_block ?_
  have B1 : Blk w3 gB1 98 (bys (tab 0)) := D1
  have q0 := B0.lt; have q1 := B1.lt; have qF := F.size
  replace B0 := B0.congr (cs' := bys (List.replicate 256 0)) (by kernel_rfl)
  refine wc_loop (fun n' L wr => ∃ (i : Nat), L = [(0, .pointer (some ⟨gB0, 0, none⟩)), (1, .pointer (some ⟨gB1, 0, none⟩)), (2, .int .u8 ((bp i : Nat) : Int)), (3, .int .u8 ((bq i : Nat) : Int)), (7, .int .i64 (i : Int))] ∧ n' = 255 - i ∧ (i ≤ 255 ∧ bp i < 256 ∧ bq i < 256 ∧ Chs [gB1, gB0] w wr ∧ Blk wr gB0 98 (bys (List.replicate 256 0)) ∧ Blk wr gB1 98 (bys (tab i)))) _ _ ⟨0, rfl, rfl, Nat.zero_le _, (by decide), (by decide), F, B0, B1⟩ ⟨rfl, rfl, (by first | rfl | exact congrArg some (int_val (by omega))), (by first | rfl | exact congrArg some (int_val (by omega))), (by first | rfl | exact congrArg some (int_val (by omega))), trivial⟩ ?_
  rintro KL1 n' L wr ⟨i, rfl, rfl, hi, hp, hq, F, B0, B1⟩ hL1
  refine wc_seq ?_; intro K7 hK7
  refine wc_region ?_
  refine wl_y (y_lss rfl rfl) rfl ?_
  refine wl_nil ?_
  refine wq_then_norm (hK7 ?_)
  refine wc_seq ?_; intro K8 hK8
  refine wc_dec rfl (fun hc1 => ?_) (fun hc1 => ?_)
  · skip
    refine wc_skip ?_
    refine wq_then_norm (hK8 ?_)
    refine wc_seq ?_; intro K9 hK9
    refine wc_block ?_
    refine wc_seq ?_; intro K10 hK10
    refine wc_region ?_
    refine wl_y (y_move rfl) rfl ?_
    refine wl_call Try.func93 rfl rfl rfl (times_any (bp i) 3 hp (by omega) _) rfl ?_
    rintro e w6 ⟨rfl, hp2, ex⟩
    refine ⟨_, rfl, ?_⟩
    replace F := F.ext ex
    replace B0 := B0.ext ex
    replace B1 := B1.ext ex
    skip
    refine wl_y (y_assign rfl) rfl ?_
    refine wl_nil ?_
    refine wq_then_norm (hK10 ?_)
    refine wc_seq ?_; intro K11 hK11
    refine wc_region ?_
    refine wl_y (y_move rfl) rfl ?_
    refine wl_call Try.func93 rfl rfl rfl (times_any (bq i) 246 hq (by omega) _) rfl ?_
    rintro e w7 ⟨rfl, hq2, ex⟩
    refine ⟨_, rfl, ?_⟩
    replace F := F.ext ex
    replace B0 := B0.ext ex
    replace B1 := B1.ext ex
    skip
    refine wl_y (y_assign rfl) rfl ?_
    refine wl_nil ?_
    refine wq_then_norm (hK11 ?_)
    refine wc_seq ?_; intro K12 hK12
    refine wc_region ?_
    refine wl_y (y_move rfl) rfl ?_
    refine wl_y (y_assign rfl) rfl ?_
    refine wl_nil ?_
    refine wq_then_norm (hK12 ?_)
    refine wc_seq ?_; intro K13 hK13
    refine wc_seq ?_; intro K14 hK14
    refine wc_region ?_
    refine wl_y (y_assign rfl) rfl ?_
    refine wl_nil ?_
    refine wq_then_norm (hK14 ?_)
    refine wc_block ?_
    refine wc_loop (fun n' L ws => ∃ (n : Nat), L = [(0, .pointer (some ⟨gB0, 0, none⟩)), (1, .pointer (some ⟨gB1, 0, none⟩)), (2, .int .u8 ((bp (i + 1) : Nat) : Int)), (3, .int .u8 ((bq (i + 1) : Nat) : Int)), (4, .int .u8 ((bx (bq (i + 1)) n : Nat) : Int)), (5, .int .i64 ((n : Int) + 1)), (7, .int .i64 (i : Int))] ∧ n' = 4 - n ∧ (n ≤ 4 ∧ Chs [gB1, gB0] w ws ∧ Blk ws gB0 98 (bys (List.replicate 256 0)) ∧ Blk ws gB1 98 (bys (tab i)))) _ _ ⟨0, rfl, rfl, Nat.zero_le _, F, B0, B1⟩ ⟨rfl, rfl, (by first | rfl | exact congrArg some (int_val (by omega))), (by first | rfl | exact congrArg some (int_val (by omega))), (by first | rfl | exact congrArg some (int_val (by omega))), (by first | rfl | exact congrArg some (int_val (by omega))), (by first | rfl | exact congrArg some (int_val (by omega))), trivial⟩ ?_
    rintro KL2 n' L ws ⟨n, rfl, rfl, hn, F, B0, B1⟩ hL2
    refine wc_seq ?_; intro K15 hK15
    refine wc_seq ?_; intro K16 hK16
    refine wc_region ?_
    refine wl_y (y_move rfl) rfl ?_
    refine wl_y (y_leq rfl rfl) rfl ?_
    refine wl_nil ?_
    refine wq_then_norm (hK16 ?_)
    refine wc_dec rfl (fun hc2 => ?_) (fun hc2 => ?_)
    · skip
      refine wc_skip ?_
      refine wq_then_norm (hK15 ?_)
      refine wc_seq ?_; intro K17 hK17
      refine wc_block ?_
      refine wc_region ?_
      refine wl_y (y_move rfl) rfl ?_
      refine wl_y (y_move rfl) rfl ?_
      refine wl_y (y_move rfl) rfl ?_
      refine wl_call Try.func94 rfl rfl rfl (rot8_any (bq (i + 1)) (n + 1) hq2 (by omega) _) rfl ?_
      rintro e w12 ⟨rfl, ex⟩
      refine ⟨_, rfl, ?_⟩
      replace F := F.ext ex
      replace B0 := B0.ext ex
      replace B1 := B1.ext ex
      skip
      refine wl_y (y_xor rfl rfl ((bits_u8 (bx_lt hq2 n) (rot_lt hq2)).2.2)) rfl ?_
      refine wl_y (y_assign rfl) rfl ?_
      refine wl_nil ?_
      refine wq_blk_norm ?_
      refine wq_then_norm (hK17 ?_)
      refine wc_region ?_
      refine wl_y (y_move rfl) rfl ?_
      refine wl_y (y_add rfl rfl (i64_ok (by omega) (by omega))) rfl ?_
      refine wl_y (y_assign rfl) rfl ?_
      refine wl_nil ?_
      refine wq_then_norm ?_
      refine hL2 _ _ ⟨n + 1, rfl, rfl, by omega, F, B0, B1⟩ (by omega) ⟨rfl, rfl, (by first | rfl | exact congrArg some (int_val (by omega))), (by first | rfl | exact congrArg some (int_val (by omega))), (by first | rfl | exact congrArg some (int_val (by omega))), (by first | rfl | exact congrArg some (int_val (by omega))), (by first | rfl | exact congrArg some (int_val (by omega))), trivial⟩
    · skip
      refine wc_exit ?_
      refine wq_then_exit ?_
      refine wq_then_exit ?_
      refine wq_blk_hit ?_
      refine wq_then_norm (hK13 ?_)
      obtain rfl : n = 4 := by omega
      have hp3 : bp (i + 1) < 256 := hp2
      have hv : bx (bq (i + 1)) 4 ^^^ 99 < 256 := Nat.xor_lt_two_pow (n := 8) (bx_lt hq2 4) (by omega)
      refine wc_region ?_
      refine wl_y (y_move rfl) rfl ?_
      refine wl_y (y_move rfl) rfl ?_
      refine wl_y (y_xor rfl rfl ((bits_u8 (q := 99) (bx_lt hq2 4) (show 99 < 256 by omega)).2.2)) rfl ?_
      refine wl_y (y_ixa1 rfl rfl Try.underlying98 (by kernel_rfl) (j := bp (i + 1)) (by omega) (by omega)) rfl ?_
      refine wl_ef (ef_storeB rfl rfl rfl (by kernel_rfl) B1 (by rw [bys_size, tab_length]; omega)) rfl ?_
      rintro _ w13 ⟨rfl, D1, cg⟩
      have ex := Chs.one cg
      clear cg; rw [← u8_ofNat (v := bx (tm (bq i) 246) 4 ^^^ 99) hv, bys_put, Nat.zero_add] at D1
      replace F := F.chs ex
      replace B0 := B0.chs ex
      refine wl_nil ?_
      refine wq_blk_norm ?_
      refine wq_then_norm (hK9 ?_)
      refine wc_region ?_
      refine wl_y (y_add rfl rfl (i64_ok (by omega) (by omega))) rfl ?_
      refine wl_y (y_move rfl) rfl ?_
      refine wl_nil ?_
      refine wq_then_norm ?_
      refine hL1 _ _ ⟨i + 1, rfl, rfl, by omega, hp2, hq2, F, B0, D1⟩ (by omega) ⟨rfl, rfl, (by first | rfl | exact congrArg some (int_val (by omega))), (by first | rfl | exact congrArg some (int_val (by omega))), (by first | rfl | exact congrArg some (int_val (by omega))), trivial⟩
  · skip
    refine wc_exit ?_
    refine wq_then_exit ?_
    refine wq_then_exit ?_
    refine wq_blk_hit ?_
    refine wq_then_norm (hK5 ?_)
    refine wc_seq ?_; intro K18 hK18
    obtain rfl : i = 255 := by omega
    obtain ⟨T, hT⟩ : ∃ T, T = tab 255 := ⟨_, rfl⟩
    have hTl : T.length = 256 := by rw [hT]; exact tab_length _
    rw [← hT] at B1
    refine wc_region ?_
    refine wl_y (y_loadw rfl Try.underlying98 rfl (by rw [bys_size, hTl]; kernel_rfl) B1) rfl ?_
    refine wl_ef (ef_storeW rfl rfl (by rw [bys_size, hTl]; kernel_rfl) B0 (by rw [bys_size, bys_size, hTl, List.length_replicate]) (bys_one _)) rfl ?_
    rintro _ w15 ⟨rfl, D0, cg⟩
    have ex := Chs.one cg
    clear cg
    replace F := F.chs ex
    replace B1 := B1.chs ex
    refine wl_nil ?_
    refine wq_then_norm (hK18 ?_)
    refine wc_ret ?_
    refine hret rfl D0 (by rw [bys_size, hTl]) ?_
    rw [hT]; exact ⟨rfl, (F.drop (by omega)).drop (by omega) |>.toExt (by simp)⟩
end Go.Proofs.Ytjllhimhiekchaa
