/- gcm: pairs of words. No conditions: contracts of functions. -/
import Derived.Test.YtjllhimhiekchaaAeE
namespace Go.Proofs.Ytjllhimhiekchaa
open Go.RowKit
attribute [local irreducible] Y Ef WL WC WK WQ WM OpM WN WF OpN WJ OpJ
open Ae
namespace Gm
def pv (a b : Nat) : Array Value := #[.int .u64 (a : Int), .int .u64 (b : Int)]
def pf (xs : List UInt8) : Nat → Nat
  | 0 => 0
  | i + 1 => if i < 8 then (pf xs i * 256 % 18446744073709551616 ||| cell xs i) else pf xs i
def ps (xs : List UInt8) : Nat → Nat
  | 0 => 0
  | i + 1 => if i < 8 then ps xs i else (ps xs i * 256 % 18446744073709551616 ||| cell xs i)
theorem or64 {a b : Nat} (ha : a < 18446744073709551616) (hb : b < 18446744073709551616) : a ||| b < 18446744073709551616 := Nat.or_lt_two_pow (n := 64) ha hb
theorem x64 {a b : Nat} (ha : a < 18446744073709551616) (hb : b < 18446744073709551616) : a ^^^ b < 18446744073709551616 := Nat.xor_lt_two_pow (n := 64) ha hb
theorem pf_lt (xs : List UInt8) : ∀ i, pf xs i < 18446744073709551616
  | 0 => by rw [pf]; omega
  | i + 1 => by
    have := pf_lt xs i
    rw [pf]; split
    · exact or64 (Nat.mod_lt _ (by omega)) (by have := c8 xs i; omega)
    · exact this
theorem ps_lt (xs : List UInt8) : ∀ i, ps xs i < 18446744073709551616
  | 0 => by rw [ps]; omega
  | i + 1 => by
    have := ps_lt xs i
    rw [ps]; split
    · exact this
    · exact or64 (Nat.mod_lt _ (by omega)) (by have := c8 xs i; omega)
theorem shlW8 (a : Nat) : IntKind.u64.wrap ((a : Int) * 2 ^ min (8 : Int).toNat IntKind.u64.bits) = ((a * 256 % 18446744073709551616 : Nat) : Int) := by
  show (((a : Int) * 2 ^ 8) % 18446744073709551616 : Int) = _
  omega
end Gm
open Gm
theorem bsgetO {w : World} {g o n k : Nat} {xs : List UInt8} (H : Bs w (some ⟨g, o, none⟩) n xs) (h : k < n) : w.cell? ⟨g, o + k, none⟩ = some (.int .u8 ((Ae.cell xs k : Nat) : Int)) := by
  obtain ⟨b', o', e, _, hc⟩ := H.get h
  injection e with e
  injection e with e1 e2 _
  subst e1; subst e2
  rw [hc]; unfold Ae.cell
  rw [List.getD_eq_getElem?_getD, List.getElem?_eq_getElem (by rw [H.1]; exact h)]
  try rfl
  try simp [bv]
theorem pxor_any (a b c d : Nat) (ha : a < 18446744073709551616) (hb : b < 18446744073709551616) (hc : c < 18446744073709551616) (hd : d < 18446744073709551616) (w : World) :
    Calls Try.prog 61 #[.agg (pv a b), .agg (pv c d)] w fun e w' => e = .returned (.agg (pv (a ^^^ c) (b ^^^ d))) ∧ Ext w w' := by
  have F := Chs.refl [] w
  refine vc_enterc1 (s := 2) 16 Try.func61 rfl rfl rfl Try.underlying77 rfl (by kernel_rfl) rfl ?_
  intro Q hret
  refine wc_seq ?_; intro K1 hK1
  refine wc_region ?_
  refine wl_ef (ef_box rfl rfl) rfl ?_
  rintro _ wB2 ⟨gB2, rfl, B2, hgB2, ex⟩
  have lB2 := B2.lt; have zB2 := ex.size
  replace F := F.ext ex
  refine wl_ef (ef_box rfl rfl) rfl ?_
  rintro _ wB3 ⟨gB3, rfl, B3, hgB3, ex⟩
  have lB3 := B3.lt; have zB3 := ex.size
  replace F := F.ext ex
  replace B2 := B2.ext ex
  refine wl_ef (ef_alloc (Z := #[.int .u64 0, .int .u64 0]) (by kernel_rfl)) rfl ?_
  rintro _ wB4 ⟨gB4, rfl, B4, hgB4, ex⟩
  have lB4 := B4.lt; have zB4 := ex.size
  replace F := F.grow ex hgB4
  replace B2 := B2.grow ex hgB4
  replace B3 := B3.grow ex hgB4
  refine wl_nil ?_
  refine wq_then_norm (hK1 ?_)
  refine wc_seq ?_; intro K2 hK2
  refine wc_region ?_
  refine wl_y (y_fieldAddr (o := 0) (s := 1) (off := 0) (o' := 0) rfl Try.underlying77 rfl (by kernel_rfl) rfl rfl) rfl ?_
  refine wl_y (y_load1 rfl Try.underlying52 rfl (B2.get (i := 0) rfl)) rfl ?_
  refine wl_y (y_fieldAddr (o := 0) (s := 1) (off := 0) (o' := 0) rfl Try.underlying77 rfl (by kernel_rfl) rfl rfl) rfl ?_
  refine wl_y (y_load1 rfl Try.underlying52 rfl (B3.get (i := 0) rfl)) rfl ?_
  refine wl_y (y_xor rfl rfl ((bits_u64 ha hc).2.2)) rfl ?_
  refine wl_y (y_fieldAddr (o := 1) (s := 1) (off := 0) (o' := 1) rfl Try.underlying77 rfl (by kernel_rfl) rfl rfl) rfl ?_
  refine wl_y (y_load1 rfl Try.underlying52 rfl (B2.get (i := 1) rfl)) rfl ?_
  refine wl_y (y_fieldAddr (o := 1) (s := 1) (off := 0) (o' := 1) rfl Try.underlying77 rfl (by kernel_rfl) rfl rfl) rfl ?_
  refine wl_y (y_load1 rfl Try.underlying52 rfl (B3.get (i := 1) rfl)) rfl ?_
  refine wl_y (y_xor rfl rfl ((bits_u64 hb hd).2.2)) rfl ?_
  refine wl_y (y_build rfl (cells := pv (a ^^^ c) (b ^^^ d)) (by kernel_rfl)) rfl ?_
  refine wl_ef (ef_storeP (o := 0) rfl rfl (by kernel_rfl) B4 (Nat.le_of_ble_eq_true rfl) (all_ones rfl)) rfl ?_
  rintro _ wS1_11 ⟨rfl, D, cg⟩
  have ex := Chs.one cg
  clear cg
  replace F := F.chs ex
  replace B2 := B2.chs ex
  replace B3 := B3.chs ex
  replace B4 := D; clear D
  replace B4 := B4.congr (cs' := pv (a ^^^ c) (b ^^^ d)) rfl
  refine wl_nil ?_
  refine wq_then_norm (hK2 ?_)
  refine wc_ret ?_
  refine hret rfl B4 rfl ?_
  exact ⟨rfl, F.drop (by omega) |>.toExt (by simp)⟩
theorem pairOf_any {A : Option Addr} {c : Nat} {xs : List UInt8} (w : World) (HA : Bs w A 16 xs) :
    Calls Try.prog 59 #[.slice A 16 c] w fun e w' => e = .returned (.agg (pv (pf xs 16) (ps xs 16))) ∧ Ext w w' := by
  have F := Chs.refl [] w
  have KA : Kp w.heap.size [] (fun w => Bs w A 16 xs) w := Kp.bs HA (by simp)
  obtain ⟨ga, oa, rfl, _, _⟩ := HA.get (k := 0) (by omega)
  refine vc_enterc1 (s := 2) 31 Try.func59 rfl rfl rfl Try.underlying77 rfl (by kernel_rfl) rfl ?_
  intro Q hret
  refine wc_seq ?_; intro K1 hK1
  refine wc_region ?_
  refine wl_ef (ef_alloc (Z := #[.int .u64 0, .int .u64 0]) (by kernel_rfl)) rfl ?_
  rintro _ wB2 ⟨gB2, rfl, B2, hgB2, ex⟩
  have lB2 := B2.lt; have zB2 := ex.size
  replace F := F.grow ex hgB2
  replace KA := KA.grow ex hgB2
  refine wl_nil ?_
  refine wq_then_norm (hK1 ?_)
  refine wc_seq ?_; intro K2 hK2
  refine wc_region ?_
  refine wl_ef (ef_alloc (Z := #[.int .u64 0, .int .u64 0]) (by kernel_rfl)) rfl ?_
  rintro _ wB3 ⟨gB3, rfl, B3, hgB3, ex⟩
  have lB3 := B3.lt; have zB3 := ex.size
  have nB2_3 : gB2 < gB3 := Nat.lt_of_lt_of_le B2.lt hgB3
  replace F := F.grow ex hgB3
  replace KA := KA.grow ex hgB3
  replace B2 := B2.grow ex hgB3
  refine wl_nil ?_
  refine wq_then_norm (hK2 ?_)
  refine wc_seq ?_; intro K3 hK3
  refine wc_seq ?_; intro K4 hK4
  refine wc_region ?_
  refine wl_y (y_move rfl) rfl ?_
  refine wl_y (y_len_slice rfl Try.underlying22) rfl ?_
  refine wl_y (y_move rfl) rfl ?_
  refine wl_nil ?_
  refine wq_then_norm (hK4 ?_)
  refine wc_block ?_
  replace B2 := B2.congr (cs' := pv 0 0) rfl
  replace B3 := B3.congr (cs' := pv 0 0) rfl
  refine wc_loop (fun n' L wr => ∃ (i : Nat), L = [(2, .pointer (some ⟨gB2, 0, none⟩)), (3, .pointer (some ⟨gB3, 0, none⟩)), (6, .slice (some ⟨ga, oa, none⟩) 16 c), (7, .int .i64 16), (8, .int .i64 (i : Int))] ∧ n' = 16 - i ∧ (i ≤ 16 ∧ Chs [gB3, gB2] w wr ∧ Kp w.heap.size [gB3, gB2] (fun w => Bs w (some ⟨ga, oa, none⟩) 16 xs) wr ∧ Blk wr gB2 77 (pv 0 0) ∧ Blk wr gB3 77 (pv (pf xs i) (ps xs i)))) _ _ ⟨0, rfl, rfl, Nat.zero_le _, F, KA, B2, B3⟩ ⟨rfl, rfl, rfl, (by first | rfl | exact congrArg some (int_val (by omega))), (by first | rfl | exact congrArg some (int_val (by omega))), trivial⟩ ?_
  rintro KL1 n' L wr ⟨i, rfl, rfl, hi, F, KA, B2, B3⟩ hL1
  refine wc_seq ?_; intro K5 hK5
  refine wc_region ?_
  refine wl_y (y_lss rfl rfl) rfl ?_
  refine wl_nil ?_
  refine wq_then_norm (hK5 ?_)
  refine wc_seq ?_; intro K6 hK6
  refine wc_dec rfl (fun hc1 => ?_) (fun hc1 => ?_)
  · skip
    refine wc_skip ?_
    refine wq_then_norm (hK6 ?_)
    refine wc_seq ?_; intro K7 hK7
    refine wc_block ?_
    refine wc_seq ?_; intro K8 hK8
    have hf := pf_lt xs i
    have hs := ps_lt xs i
    refine wc_region ?_
    refine wl_y (y_move rfl) rfl ?_
    refine wl_y (y_ixs1 rfl rfl Try.underlying22 (by kernel_rfl) (j := i) (by omega) (by omega)) rfl ?_
    refine wl_y (y_load1 rfl Try.underlying5 rfl (show _ = some (.int .u8 ((cell xs i : Nat) : Int)) from bsgetO KA.out (k := i) (by omega))) rfl ?_
    refine wl_y (y_assign rfl) rfl ?_
    refine wl_y (y_assign rfl) rfl ?_
    refine wl_nil ?_
    refine wq_then_norm (hK8 ?_)
    refine wc_seq ?_; intro K9 hK9
    refine wc_region ?_
    refine wl_y (y_move rfl) rfl ?_
    refine wl_y (y_lss rfl rfl) rfl ?_
    refine wl_nil ?_
    refine wq_then_norm (hK9 ?_)
    refine wc_dec rfl (fun hc2 => ?_) (fun hc2 => ?_)
    · skip
      refine wc_region ?_
      refine wl_y (y_fieldAddr (o := 0) (s := 1) (off := 0) (o' := 0) rfl Try.underlying77 rfl (by kernel_rfl) rfl rfl) rfl ?_
      refine wl_y (y_load1 rfl Try.underlying52 rfl (B3.get (i := 0) rfl)) rfl ?_
      refine wl_y (y_shl rfl rfl (by omega) (shlW8 _)) rfl ?_
      refine wl_y (y_move rfl) rfl ?_
      refine wl_y (y_conv rfl Try.underlying5 Try.underlying52 (IntWalk.u64_in _ ⟨by omega, by have := c8 xs i; omega⟩)) rfl ?_
      refine wl_y (y_or rfl rfl ((bits_u64 (Nat.mod_lt _ (by omega)) (by have := c8 xs i; omega)).2.1)) rfl ?_
      refine wl_y (y_fieldAddr (o := 0) (s := 1) (off := 0) (o' := 0) rfl Try.underlying77 rfl (by kernel_rfl) rfl rfl) rfl ?_
      refine wl_ef (ef_storeB (i := 0) rfl rfl rfl (by kernel_rfl) B3 (Nat.le_of_ble_eq_true rfl)) rfl ?_
      rintro _ wS6_7 ⟨rfl, D, cg⟩
      have ex := Chs.one cg
      clear cg
      replace F := F.chs ex
      replace KA := KA.chs ex
      replace B2 := B2.chs ex
      replace B3 := D; clear D
      replace B3 := B3.congr (cs' := pv (pf xs (i + 1)) (ps xs (i + 1))) (by rw [pf, ps, if_pos (by omega), if_pos (by omega)]; rfl)
      refine wl_nil ?_
      refine wq_blk_norm ?_
      refine wq_then_norm (hK7 ?_)
      refine wc_region ?_
      refine wl_y (y_add rfl rfl (i64_ok (by omega) (by omega))) rfl ?_
      refine wl_y (y_move rfl) rfl ?_
      refine wl_nil ?_
      refine wq_then_norm ?_
      refine hL1 _ _ ⟨i + 1, rfl, rfl, by omega, F, KA, B2, B3⟩ (by omega) ⟨rfl, rfl, rfl, (by first | rfl | exact congrArg some (int_val (by omega))), (by first | rfl | exact congrArg some (int_val (by omega))), trivial⟩
    · skip
      refine wc_region ?_
      refine wl_y (y_fieldAddr (o := 1) (s := 1) (off := 0) (o' := 1) rfl Try.underlying77 rfl (by kernel_rfl) rfl rfl) rfl ?_
      refine wl_y (y_load1 rfl Try.underlying52 rfl (B3.get (i := 1) rfl)) rfl ?_
      refine wl_y (y_shl rfl rfl (by omega) (shlW8 _)) rfl ?_
      refine wl_y (y_move rfl) rfl ?_
      refine wl_y (y_conv rfl Try.underlying5 Try.underlying52 (IntWalk.u64_in _ ⟨by omega, by have := c8 xs i; omega⟩)) rfl ?_
      refine wl_y (y_or rfl rfl ((bits_u64 (Nat.mod_lt _ (by omega)) (by have := c8 xs i; omega)).2.1)) rfl ?_
      refine wl_y (y_fieldAddr (o := 1) (s := 1) (off := 0) (o' := 1) rfl Try.underlying77 rfl (by kernel_rfl) rfl rfl) rfl ?_
      refine wl_ef (ef_storeB (i := 1) rfl rfl rfl (by kernel_rfl) B3 (Nat.le_of_ble_eq_true rfl)) rfl ?_
      rintro _ wS7_7 ⟨rfl, D, cg⟩
      have ex := Chs.one cg
      clear cg
      replace F := F.chs ex
      replace KA := KA.chs ex
      replace B2 := B2.chs ex
      replace B3 := D; clear D
      replace B3 := B3.congr (cs' := pv (pf xs (i + 1)) (ps xs (i + 1))) (by rw [pf, ps, if_neg (by omega), if_neg (by omega)]; rfl)
      refine wl_nil ?_
      refine wq_blk_norm ?_
      refine wq_then_norm (hK7 ?_)
      refine wc_region ?_
      refine wl_y (y_add rfl rfl (i64_ok (by omega) (by omega))) rfl ?_
      refine wl_y (y_move rfl) rfl ?_
      refine wl_nil ?_
      refine wq_then_norm ?_
      refine hL1 _ _ ⟨i + 1, rfl, rfl, by omega, F, KA, B2, B3⟩ (by omega) ⟨rfl, rfl, rfl, (by first | rfl | exact congrArg some (int_val (by omega))), (by first | rfl | exact congrArg some (int_val (by omega))), trivial⟩
  · skip
    refine wc_exit ?_
    refine wq_then_exit ?_
    refine wq_then_exit ?_
    refine wq_blk_hit ?_
    refine wq_then_norm (hK3 ?_)
    refine wc_seq ?_; intro K10 hK10
    obtain rfl : i = 16 := by omega
    refine wc_region ?_
    refine wl_y (y_loadw rfl Try.underlying77 rfl (by kernel_rfl) B3) rfl ?_
    refine wl_ef (ef_storeP (o := 0) rfl rfl (by kernel_rfl) B2 (Nat.le_of_ble_eq_true rfl) (all_ones rfl)) rfl ?_
    rintro _ wS9_1 ⟨rfl, D, cg⟩
    have ex := Chs.one cg
    clear cg
    replace F := F.chs ex
    replace KA := KA.chs ex
    replace B3 := B3.chs ex
    replace B2 := D; clear D
    replace B2 := B2.congr (cs' := pv (pf xs 16) (ps xs 16)) rfl
    refine wl_nil ?_
    refine wq_then_norm (hK10 ?_)
    refine wc_ret ?_
    refine hret rfl B2 rfl ?_
    exact ⟨rfl, (F.drop (by omega)).drop (by omega) |>.toExt (by simp)⟩
end Go.Proofs.Ytjllhimhiekchaa
