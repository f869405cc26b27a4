/- gcm: products of pairs. No conditions: contracts of functions. -/
import Derived.Test.YtjllhimhiekchaaGmA
namespace Go.Proofs.Ytjllhimhiekchaa
open Go.RowKit
attribute [local irreducible] Y Ef WL WC WK WQ WM OpM WN WF OpN WJ OpJ
open Ae Gm
namespace Gm
def bit (a b n : Nat) : Nat := if n < 64 then a / 2 ^ (63 - n) % 2 else b / 2 ^ (127 - n) % 2
def qs (c d : Nat) : Nat → Nat × Nat
  | 0 => (c, d)
  | n + 1 => ((qs c d n).1 / 2 ^^^ ((qs c d n).2 % 2 * 225 * 72057594037927936 % 18446744073709551616), (qs c d n).2 / 2 ||| ((qs c d n).1 * 9223372036854775808 % 18446744073709551616))
def os (a b c d : Nat) : Nat → Nat × Nat
  | 0 => (0, 0)
  | n + 1 => if bit a b n = 1 then ((os a b c d n).1 ^^^ (qs c d n).1, (os a b c d n).2 ^^^ (qs c d n).2) else os a b c d n
def mul (a b c d : Nat) : Nat × Nat := os a b c d 128
theorem qs_lt {c d : Nat} (hc : c < 18446744073709551616) (hd : d < 18446744073709551616) : ∀ n, (qs c d n).1 < 18446744073709551616 ∧ (qs c d n).2 < 18446744073709551616
  | 0 => ⟨hc, hd⟩
  | n + 1 => by
    obtain ⟨h1, h2⟩ := qs_lt hc hd n
    rw [qs]
    exact ⟨x64 (by omega) (Nat.mod_lt _ (by omega)), or64 (by omega) (Nat.mod_lt _ (by omega))⟩
theorem os_lt {a b c d : Nat} (hc : c < 18446744073709551616) (hd : d < 18446744073709551616) : ∀ n, (os a b c d n).1 < 18446744073709551616 ∧ (os a b c d n).2 < 18446744073709551616
  | 0 => by rw [os]; exact ⟨by show 0 < _; omega, by show 0 < _; omega⟩
  | n + 1 => by
    obtain ⟨h1, h2⟩ := qs_lt hc hd n
    obtain ⟨h3, h4⟩ := os_lt (a := a) (b := b) hc hd n
    rw [os]; split
    · exact ⟨x64 h3 h1, x64 h4 h2⟩
    · exact ⟨h3, h4⟩
theorem shrn (a k : Nat) {z : Int} (hz : z = (k : Int)) (hk : k ≤ 63) : ((a : Nat) : Int) / 2 ^ min z.toNat IntKind.u64.bits = ((a / 2 ^ k : Nat) : Int) := by
  subst hz
  rw [Int.toNat_natCast, show IntKind.u64.bits = 64 from rfl, Nat.min_eq_left (by omega)]
  simp
theorem and1w (x : Nat) (hx : x < 18446744073709551616) : bits .and .u64 ((x : Nat) : Int) 1 = ((x % 2 : Nat) : Int) := by
  have := (bits_u64 (p := x) (q := 1) hx (by omega)).1
  rw [Nat.and_one_is_mod] at this; exact this
theorem shlW63 (a : Nat) : IntKind.u64.wrap ((a : Int) * 2 ^ min (63 : Int).toNat IntKind.u64.bits) = ((a * 9223372036854775808 % 18446744073709551616 : Nat) : Int) := by
  show (((a : Int) * 2 ^ 63) % 18446744073709551616 : Int) = _
  omega
theorem shlW56 (a : Nat) : IntKind.u64.wrap ((a : Int) * 2 ^ min (56 : Int).toNat IntKind.u64.bits) = ((a * 72057594037927936 % 18446744073709551616 : Nat) : Int) := by
  show (((a : Int) * 2 ^ 56) % 18446744073709551616 : Int) = _
  omega
theorem shr1w (a : Nat) : ((a : Nat) : Int) / 2 ^ min (1 : Int).toNat IntKind.u64.bits = ((a / 2 : Nat) : Int) := by
  show ((a : Int) / 2 ^ 1 : Int) = _
  omega
end Gm
set_option maxHeartbeats 2000000 in
theorem ptimes_any (a b c d : Nat) (ha : a < 18446744073709551616) (hb : b < 18446744073709551616) (hc : c < 18446744073709551616) (hd : d < 18446744073709551616) (w : World) :
    Calls Try.prog 62 #[.agg (pv a b), .agg (pv c d)] w fun e w' => e = .returned (.agg (pv (Gm.mul a b c d).1 (Gm.mul a b c d).2)) ∧ Ext w w' := by
  have F := Chs.refl [] w
  refine vc_enterc1 (s := 2) 61 Try.func62 rfl rfl rfl Try.underlying77 rfl (by kernel_rfl) rfl ?_
  intro Q hret
  refine wc_seq ?_; intro K1 hK1
  refine wc_region ?_
  refine wl_ef (ef_box rfl rfl) rfl ?_
  rintro _ wB2 ⟨gB2, rfl, B2, hgB2, ex⟩
  have lB2 := B2.lt; have zB2 := ex.size
  replace F := F.ext ex
  refine wl_ef (ef_box rfl rfl) rfl ?_
  rintro _ wB3 ⟨gB3, rfl, B3, hgB3, ex⟩
  have lB3 := B3.lt; have zB3 := ex.size
  replace F := F.grow ex hgB3
  replace B2 := B2.grow ex hgB3
  refine wl_ef (ef_alloc (Z := #[.int .u64 0, .int .u64 0]) (by kernel_rfl)) rfl ?_
  rintro _ wB4 ⟨gB4, rfl, B4, hgB4, ex⟩
  have lB4 := B4.lt; have zB4 := ex.size
  have nB3_4 : gB3 < gB4 := Nat.lt_of_lt_of_le B3.lt hgB4
  replace F := F.grow ex hgB4
  replace B2 := B2.grow ex hgB4
  replace B3 := B3.grow ex hgB4
  refine wl_nil ?_
  refine wq_then_norm (hK1 ?_)
  refine wc_scope2 0 (fun n' L wr => ∃ (n gB5 : Nat), L = [(2, .pointer (some ⟨gB2, 0, none⟩)), (3, .pointer (some ⟨gB3, 0, none⟩)), (4, .pointer (some ⟨gB4, 0, none⟩)), (5, .pointer (some ⟨gB5, 0, none⟩)), (6, .int .i64 (n : Int))] ∧ n' = 127 - n ∧ (n ≤ 127 ∧ gB2 < gB3 ∧ gB3 < gB4 ∧ gB4 < gB5 ∧ w.heap.size ≤ gB2 ∧ Chs [gB5, gB4, gB3] w wr ∧ Blk wr gB2 77 (pv a b) ∧ Blk wr gB3 77 (pv (qs c d n).1 (qs c d n).2) ∧ Blk wr gB4 77 (pv 0 0) ∧ Blk wr gB5 77 (pv (os a b c d n).1 (os a b c d n).2))) rfl ?_ ?_
  · rintro G n' L wr ⟨n, gB5, rfl, rfl, hn, n23, n34, n45, hw2, F, B2, B3, B4, B5⟩ hG0
    obtain ⟨hq1, hq2⟩ := qs_lt hc hd n
    obtain ⟨ho1, ho2⟩ := os_lt (a := a) (b := b) hc hd n
    refine wc_seq ?_; intro K2 hK2
    refine wc_seq ?_; intro K3 hK3
    refine wc_region ?_
    refine wl_y (y_move rfl) rfl ?_
    refine wl_yask (y_lss rfl rfl) rfl (fun a1 => ?_) (fun a1 => ?_)
    · skip
      refine wl_y (y_move rfl) rfl ?_
      refine wl_gy 10 rfl rfl (y_fieldAddr (o := 0) (s := 1) (off := 0) (o' := 0) rfl Try.underlying77 rfl (by kernel_rfl) rfl rfl) rfl ?_
      refine wl_gy 10 rfl rfl (y_load1 rfl Try.underlying52 rfl (B2.get (i := 0) rfl)) rfl ?_
      refine wl_gy 10 rfl rfl (y_move rfl) rfl ?_
      refine wl_gy 10 rfl rfl (y_sub rfl rfl (i64_ok (by omega) (by omega))) rfl ?_
      refine wl_gy 10 rfl rfl (y_shr rfl rfl (by omega) (shrn a (63 - n) (by omega) (by omega))) rfl ?_
      refine wl_gy 10 rfl rfl (y_and rfl rfl (and1w _ (Nat.lt_of_le_of_lt (Nat.div_le_self _ _) ha))) rfl ?_
      refine wl_gyask 10 rfl rfl (y_eql rfl rfl) rfl (fun b1 => ?_) (fun b1 => ?_)
      · skip
        refine wl_y (y_pickt rfl rfl) rfl ?_
        refine wl_y (y_move rfl) rfl ?_
        refine wl_gno 19 rfl rfl rfl rfl ?_
        refine wl_gno 19 rfl rfl rfl rfl ?_
        refine wl_gno 19 rfl rfl rfl rfl ?_
        refine wl_gun 22 rfl rfl rfl ?_
        refine wl_gun 22 rfl rfl rfl ?_
        refine wl_gun 22 rfl rfl rfl ?_
        refine wl_gun 22 rfl rfl rfl ?_
        refine wl_gun 22 rfl rfl rfl ?_
        refine wl_gun 22 rfl rfl rfl ?_
        refine wl_gun 22 rfl rfl rfl ?_
        refine wl_gno 19 rfl rfl rfl rfl ?_
        refine wl_y (y_pickt rfl rfl) rfl ?_
        refine wl_nil ?_
        refine wq_then_norm (hK3 ?_)
        refine wc_true rfl rfl ?_
        refine wc_region ?_
        refine wl_y (y_loadw rfl Try.underlying77 rfl (by kernel_rfl) B5) rfl ?_
        refine wl_y (y_loadw rfl Try.underlying77 rfl (by kernel_rfl) B3) rfl ?_
        refine wl_call Try.func61 rfl rfl rfl (pxor_any _ _ _ _ ho1 ho2 hq1 hq2 _) rfl ?_
        rintro e w4 ⟨rfl, ex⟩
        refine ⟨_, rfl, ?_⟩
        replace F := F.ext ex
        replace B2 := B2.ext ex
        replace B3 := B3.ext ex
        replace B4 := B4.ext ex
        replace B5 := B5.ext ex
        skip
        refine wl_ef (ef_storeP (o := 0) rfl rfl (by kernel_rfl) B5 (Nat.le_of_ble_eq_true rfl) (all_ones rfl)) rfl ?_
        rintro _ wS4_3 ⟨rfl, D, cg⟩
        have ex := Chs.one cg
        clear cg
        replace F := F.chs ex
        replace B2 := B2.chs ex
        replace B3 := B3.chs ex
        replace B4 := B4.chs ex
        replace B5 := D; clear D
        replace B5 := B5.congr (cs' := pv ((os a b c d n).1 ^^^ (qs c d n).1) ((os a b c d n).2 ^^^ (qs c d n).2)) rfl
        refine wl_nil ?_
        refine wq_then_norm (hK2 ?_)
        refine wc_seq ?_; intro K4 hK4
        have hbit : bit a b n = 1 := by unfold bit; rw [if_pos (by omega)]; omega
        replace B5 := B5.congr (cs' := pv (os a b c d (n + 1)).1 (os a b c d (n + 1)).2) (by rw [os, if_pos hbit])
        refine wc_region ?_
        refine wl_y (y_fieldAddr (o := 1) (s := 1) (off := 0) (o' := 1) rfl Try.underlying77 rfl (by kernel_rfl) rfl rfl) rfl ?_
        refine wl_y (y_load1 rfl Try.underlying52 rfl (B3.get (i := 1) rfl)) rfl ?_
        refine wl_y (y_and rfl rfl (and1w _ hq2)) rfl ?_
        refine wl_y (y_assign rfl) rfl ?_
        refine wl_nil ?_
        refine wq_then_norm (hK4 ?_)
        refine wc_seq ?_; intro K5 hK5
        refine wc_region ?_
        refine wl_y (y_fieldAddr (o := 0) (s := 1) (off := 0) (o' := 0) rfl Try.underlying77 rfl (by kernel_rfl) rfl rfl) rfl ?_
        refine wl_y (y_load1 rfl Try.underlying52 rfl (B3.get (i := 0) rfl)) rfl ?_
        refine wl_y (y_shr rfl rfl (by omega) (shr1w _)) rfl ?_
        refine wl_y (y_fieldAddr (o := 1) (s := 1) (off := 0) (o' := 1) rfl Try.underlying77 rfl (by kernel_rfl) rfl rfl) rfl ?_
        refine wl_y (y_load1 rfl Try.underlying52 rfl (B3.get (i := 1) rfl)) rfl ?_
        refine wl_y (y_shr rfl rfl (by omega) (shr1w _)) rfl ?_
        refine wl_y (y_fieldAddr (o := 0) (s := 1) (off := 0) (o' := 0) rfl Try.underlying77 rfl (by kernel_rfl) rfl rfl) rfl ?_
        refine wl_y (y_load1 rfl Try.underlying52 rfl (B3.get (i := 0) rfl)) rfl ?_
        refine wl_y (y_shl rfl rfl (by omega) (shlW63 _)) rfl ?_
        refine wl_y (y_or rfl rfl ((bits_u64 (by omega) (Nat.mod_lt _ (by omega))).2.1)) rfl ?_
        refine wl_y (y_build rfl (cells := pv ((qs c d n).1 / 2) ((qs c d n).2 / 2 ||| ((qs c d n).1 * 9223372036854775808 % 18446744073709551616))) (by kernel_rfl)) rfl ?_
        refine wl_ef (ef_storeP (o := 0) rfl rfl (by kernel_rfl) B3 (Nat.le_of_ble_eq_true rfl) (all_ones rfl)) rfl ?_
        rintro _ wS6_11 ⟨rfl, D, cg⟩
        have ex := Chs.one cg
        clear cg
        replace F := F.chs ex
        replace B2 := B2.chs ex
        replace B4 := B4.chs ex
        replace B5 := B5.chs ex
        replace B3 := D; clear D
        replace B3 := B3.congr (cs' := pv ((qs c d n).1 / 2) ((qs c d n).2 / 2 ||| ((qs c d n).1 * 9223372036854775808 % 18446744073709551616))) rfl
        refine wl_nil ?_
        refine wq_then_norm (hK5 ?_)
        refine wc_seq ?_; intro K6 hK6
        refine wc_region ?_
        refine wl_y (y_fieldAddr (o := 0) (s := 1) (off := 0) (o' := 0) rfl Try.underlying77 rfl (by kernel_rfl) rfl rfl) rfl ?_
        refine wl_y (y_load1 rfl Try.underlying52 rfl (B3.get (i := 0) rfl)) rfl ?_
        refine wl_y (y_move rfl) rfl ?_
        refine wl_y (y_mul rfl rfl (show _ = (((qs c d n).2 % 2 * 225 : Nat) : Int) from IntWalk.u64_in _ ⟨by omega, by omega⟩)) rfl ?_
        refine wl_y (y_shl rfl rfl (by omega) (shlW56 _)) rfl ?_
        refine wl_y (y_xor rfl rfl ((bits_u64 (by omega) (Nat.mod_lt _ (by omega))).2.2)) rfl ?_
        refine wl_y (y_fieldAddr (o := 0) (s := 1) (off := 0) (o' := 0) rfl Try.underlying77 rfl (by kernel_rfl) rfl rfl) rfl ?_
        refine wl_ef (ef_storeB (i := 0) rfl rfl rfl (by kernel_rfl) B3 (Nat.le_of_ble_eq_true rfl)) rfl ?_
        rintro _ wS7_7 ⟨rfl, D, cg⟩
        have ex := Chs.one cg
        clear cg
        replace F := F.chs ex
        replace B2 := B2.chs ex
        replace B4 := B4.chs ex
        replace B5 := B5.chs ex
        replace B3 := D; clear D
        replace B3 := B3.congr (cs' := pv (qs c d (n + 1)).1 (qs c d (n + 1)).2) rfl
        refine wl_nil ?_
        refine wq_then_norm (hK6 ?_)
        refine wc_seq ?_; intro K7 hK7
        refine wc_seq ?_; intro K8 hK8
        refine wc_region ?_
        refine wl_y (y_move rfl) rfl ?_
        refine wl_y (y_add rfl rfl (i64_ok (by omega) (by omega))) rfl ?_
        refine wl_y (y_assign rfl) rfl ?_
        refine wl_nil ?_
        refine wq_then_norm (hK8 ?_)
        refine wc_seq ?_; intro K9 hK9
        refine wc_region ?_
        refine wl_y (y_move rfl) rfl ?_
        refine wl_y (y_lss rfl rfl) rfl ?_
        refine wl_nil ?_
        refine wq_then_norm (hK9 ?_)
        refine wc_dec rfl (fun hc2 => ?_) (fun hc2 => ?_)
        · skip
          refine wc_goto ?_
          refine wq_then_goto ?_
          refine wq_jump_hit ?_
          refine hG0 _ _ ⟨n + 1, gB5, rfl, rfl, by omega, n23, n34, n45, hw2, F, B2, B3, B4, B5⟩ (by omega) ⟨rfl, rfl, rfl, rfl, (by first | rfl | exact congrArg some (int_val (by omega))), trivial⟩
        · skip
          refine wc_skip ?_
          refine wq_then_norm (hK7 ?_)
          refine wc_seq ?_; intro K10 hK10
          obtain rfl : n = 127 := by omega
          refine wc_region ?_
          refine wl_y (y_loadw rfl Try.underlying77 rfl (by kernel_rfl) B5) rfl ?_
          refine wl_ef (ef_storeP (o := 0) rfl rfl (by kernel_rfl) B4 (Nat.le_of_ble_eq_true rfl) (all_ones rfl)) rfl ?_
          rintro _ wS10_1 ⟨rfl, D, cg⟩
          have ex := Chs.one cg
          clear cg
          replace F := F.chs ex
          replace B2 := B2.chs ex
          replace B3 := B3.chs ex
          replace B5 := B5.chs ex
          replace B4 := D; clear D
          replace B4 := B4.congr (cs' := pv (os a b c d 128).1 (os a b c d 128).2) rfl
          refine wl_nil ?_
          refine wq_then_norm (hK10 ?_)
          refine wc_ret ?_
          refine wq_jump_ret ?_
          refine hret rfl B4 rfl ?_
          exact ⟨rfl, ((F.drop (by omega)).drop (by omega)).drop (by omega) |>.toExt (by simp)⟩
      · skip
        refine wl_y (y_pickt rfl rfl) rfl ?_
        refine wl_y (y_move rfl) rfl ?_
        refine wl_gy 19 rfl rfl (y_move rfl) rfl ?_
        refine wl_gy 19 rfl rfl (Y.as (y_geq rfl rfl) (congrArg Value.bool (decide_eq_false (by omega)))) rfl ?_
        refine wl_gy 19 rfl rfl (y_move rfl) rfl ?_
        refine wl_gno 22 rfl rfl rfl rfl ?_
        refine wl_gno 22 rfl rfl rfl rfl ?_
        refine wl_gno 22 rfl rfl rfl rfl ?_
        refine wl_gno 22 rfl rfl rfl rfl ?_
        refine wl_gno 22 rfl rfl rfl rfl ?_
        refine wl_gno 22 rfl rfl rfl rfl ?_
        refine wl_gno 22 rfl rfl rfl rfl ?_
        refine wl_gy 19 rfl rfl (y_pickf rfl rfl) rfl ?_
        refine wl_y (y_pickf rfl rfl) rfl ?_
        refine wl_nil ?_
        refine wq_then_norm (hK3 ?_)
        refine wc_false rfl rfl ?_
        refine wc_skip ?_
        refine wq_then_norm (hK2 ?_)
        refine wc_seq ?_; intro K11 hK11
        have hbit : ¬ bit a b n = 1 := by unfold bit; rw [if_pos (by omega)]; omega
        replace B5 := B5.congr (cs' := pv (os a b c d (n + 1)).1 (os a b c d (n + 1)).2) (by rw [os, if_neg hbit])
        refine wc_region ?_
        refine wl_y (y_fieldAddr (o := 1) (s := 1) (off := 0) (o' := 1) rfl Try.underlying77 rfl (by kernel_rfl) rfl rfl) rfl ?_
        refine wl_y (y_load1 rfl Try.underlying52 rfl (B3.get (i := 1) rfl)) rfl ?_
        refine wl_y (y_and rfl rfl (and1w _ hq2)) rfl ?_
        refine wl_y (y_assign rfl) rfl ?_
        refine wl_nil ?_
        refine wq_then_norm (hK11 ?_)
        refine wc_seq ?_; intro K12 hK12
        refine wc_region ?_
        refine wl_y (y_fieldAddr (o := 0) (s := 1) (off := 0) (o' := 0) rfl Try.underlying77 rfl (by kernel_rfl) rfl rfl) rfl ?_
        refine wl_y (y_load1 rfl Try.underlying52 rfl (B3.get (i := 0) rfl)) rfl ?_
        refine wl_y (y_shr rfl rfl (by omega) (shr1w _)) rfl ?_
        refine wl_y (y_fieldAddr (o := 1) (s := 1) (off := 0) (o' := 1) rfl Try.underlying77 rfl (by kernel_rfl) rfl rfl) rfl ?_
        refine wl_y (y_load1 rfl Try.underlying52 rfl (B3.get (i := 1) rfl)) rfl ?_
        refine wl_y (y_shr rfl rfl (by omega) (shr1w _)) rfl ?_
        refine wl_y (y_fieldAddr (o := 0) (s := 1) (off := 0) (o' := 0) rfl Try.underlying77 rfl (by kernel_rfl) rfl rfl) rfl ?_
        refine wl_y (y_load1 rfl Try.underlying52 rfl (B3.get (i := 0) rfl)) rfl ?_
        refine wl_y (y_shl rfl rfl (by omega) (shlW63 _)) rfl ?_
        refine wl_y (y_or rfl rfl ((bits_u64 (by omega) (Nat.mod_lt _ (by omega))).2.1)) rfl ?_
        refine wl_y (y_build rfl (cells := pv ((qs c d n).1 / 2) ((qs c d n).2 / 2 ||| ((qs c d n).1 * 9223372036854775808 % 18446744073709551616))) (by kernel_rfl)) rfl ?_
        refine wl_ef (ef_storeP (o := 0) rfl rfl (by kernel_rfl) B3 (Nat.le_of_ble_eq_true rfl) (all_ones rfl)) rfl ?_
        rintro _ wS6_11 ⟨rfl, D, cg⟩
        have ex := Chs.one cg
        clear cg
        replace F := F.chs ex
        replace B2 := B2.chs ex
        replace B4 := B4.chs ex
        replace B5 := B5.chs ex
        replace B3 := D; clear D
        replace B3 := B3.congr (cs' := pv ((qs c d n).1 / 2) ((qs c d n).2 / 2 ||| ((qs c d n).1 * 9223372036854775808 % 18446744073709551616))) rfl
        refine wl_nil ?_
        refine wq_then_norm (hK12 ?_)
        refine wc_seq ?_; intro K13 hK13
        refine wc_region ?_
        refine wl_y (y_fieldAddr (o := 0) (s := 1) (off := 0) (o' := 0) rfl Try.underlying77 rfl (by kernel_rfl) rfl rfl) rfl ?_
        refine wl_y (y_load1 rfl Try.underlying52 rfl (B3.get (i := 0) rfl)) rfl ?_
        refine wl_y (y_move rfl) rfl ?_
        refine wl_y (y_mul rfl rfl (show _ = (((qs c d n).2 % 2 * 225 : Nat) : Int) from IntWalk.u64_in _ ⟨by omega, by omega⟩)) rfl ?_
        refine wl_y (y_shl rfl rfl (by omega) (shlW56 _)) rfl ?_
        refine wl_y (y_xor rfl rfl ((bits_u64 (by omega) (Nat.mod_lt _ (by omega))).2.2)) rfl ?_
        refine wl_y (y_fieldAddr (o := 0) (s := 1) (off := 0) (o' := 0) rfl Try.underlying77 rfl (by kernel_rfl) rfl rfl) rfl ?_
        refine wl_ef (ef_storeB (i := 0) rfl rfl rfl (by kernel_rfl) B3 (Nat.le_of_ble_eq_true rfl)) rfl ?_
        rintro _ wS7_7 ⟨rfl, D, cg⟩
        have ex := Chs.one cg
        clear cg
        replace F := F.chs ex
        replace B2 := B2.chs ex
        replace B4 := B4.chs ex
        replace B5 := B5.chs ex
        replace B3 := D; clear D
        replace B3 := B3.congr (cs' := pv (qs c d (n + 1)).1 (qs c d (n + 1)).2) rfl
        refine wl_nil ?_
        refine wq_then_norm (hK13 ?_)
        refine wc_seq ?_; intro K14 hK14
        refine wc_seq ?_; intro K15 hK15
        refine wc_region ?_
        refine wl_y (y_move rfl) rfl ?_
        refine wl_y (y_add rfl rfl (i64_ok (by omega) (by omega))) rfl ?_
        refine wl_y (y_assign rfl) rfl ?_
        refine wl_nil ?_
        refine wq_then_norm (hK15 ?_)
        refine wc_seq ?_; intro K16 hK16
        refine wc_region ?_
        refine wl_y (y_move rfl) rfl ?_
        refine wl_y (y_lss rfl rfl) rfl ?_
        refine wl_nil ?_
        refine wq_then_norm (hK16 ?_)
        refine wc_dec rfl (fun hc2 => ?_) (fun hc2 => ?_)
        · skip
          refine wc_goto ?_
          refine wq_then_goto ?_
          refine wq_jump_hit ?_
          refine hG0 _ _ ⟨n + 1, gB5, rfl, rfl, by omega, n23, n34, n45, hw2, F, B2, B3, B4, B5⟩ (by omega) ⟨rfl, rfl, rfl, rfl, (by first | rfl | exact congrArg some (int_val (by omega))), trivial⟩
        · skip
          refine wc_skip ?_
          refine wq_then_norm (hK14 ?_)
          refine wc_seq ?_; intro K17 hK17
          obtain rfl : n = 127 := by omega
          refine wc_region ?_
          refine wl_y (y_loadw rfl Try.underlying77 rfl (by kernel_rfl) B5) rfl ?_
          refine wl_ef (ef_storeP (o := 0) rfl rfl (by kernel_rfl) B4 (Nat.le_of_ble_eq_true rfl) (all_ones rfl)) rfl ?_
          rintro _ wS10_1 ⟨rfl, D, cg⟩
          have ex := Chs.one cg
          clear cg
          replace F := F.chs ex
          replace B2 := B2.chs ex
          replace B3 := B3.chs ex
          replace B5 := B5.chs ex
          replace B4 := D; clear D
          replace B4 := B4.congr (cs' := pv (os a b c d 128).1 (os a b c d 128).2) rfl
          refine wl_nil ?_
          refine wq_then_norm (hK17 ?_)
          refine wc_ret ?_
          refine wq_jump_ret ?_
          refine hret rfl B4 rfl ?_
          exact ⟨rfl, ((F.drop (by omega)).drop (by omega)).drop (by omega) |>.toExt (by simp)⟩
    · skip
      refine wl_y (y_move rfl) rfl ?_
      refine wl_gno 10 rfl rfl rfl rfl ?_
      refine wl_gno 10 rfl rfl rfl rfl ?_
      refine wl_gno 10 rfl rfl rfl rfl ?_
      refine wl_gno 10 rfl rfl rfl rfl ?_
      refine wl_gno 10 rfl rfl rfl rfl ?_
      refine wl_gno 10 rfl rfl rfl rfl ?_
      refine wl_gno 10 rfl rfl rfl rfl ?_
      refine wl_y (y_pickf rfl rfl) rfl ?_
      refine wl_y (y_move rfl) rfl ?_
      refine wl_gy 19 rfl rfl (y_move rfl) rfl ?_
      refine wl_gy 19 rfl rfl (Y.as (y_geq rfl rfl) (congrArg Value.bool (decide_eq_true (by omega)))) rfl ?_
      refine wl_gy 19 rfl rfl (y_move rfl) rfl ?_
      refine wl_gy 22 rfl rfl (y_fieldAddr (o := 1) (s := 1) (off := 0) (o' := 1) rfl Try.underlying77 rfl (by kernel_rfl) rfl rfl) rfl ?_
      refine wl_gy 22 rfl rfl (y_load1 rfl Try.underlying52 rfl (B2.get (i := 1) rfl)) rfl ?_
      refine wl_gy 22 rfl rfl (y_move rfl) rfl ?_
      refine wl_gy 22 rfl rfl (y_sub rfl rfl (i64_ok (by omega) (by omega))) rfl ?_
      refine wl_gy 22 rfl rfl (y_shr rfl rfl (by omega) (shrn b (127 - n) (by omega) (by omega))) rfl ?_
      refine wl_gy 22 rfl rfl (y_and rfl rfl (and1w _ (Nat.lt_of_le_of_lt (Nat.div_le_self _ _) hb))) rfl ?_
      refine wl_gyask 22 rfl rfl (y_eql rfl rfl) rfl (fun b2 => ?_) (fun b2 => ?_)
      · skip
        refine wl_gy 19 rfl rfl (y_pickt rfl rfl) rfl ?_
        refine wl_y (y_pickf rfl rfl) rfl ?_
        refine wl_nil ?_
        refine wq_then_norm (hK3 ?_)
        refine wc_true rfl rfl ?_
        refine wc_region ?_
        refine wl_y (y_loadw rfl Try.underlying77 rfl (by kernel_rfl) B5) rfl ?_
        refine wl_y (y_loadw rfl Try.underlying77 rfl (by kernel_rfl) B3) rfl ?_
        refine wl_call Try.func61 rfl rfl rfl (pxor_any _ _ _ _ ho1 ho2 hq1 hq2 _) rfl ?_
        rintro e w4 ⟨rfl, ex⟩
        refine ⟨_, rfl, ?_⟩
        replace F := F.ext ex
        replace B2 := B2.ext ex
        replace B3 := B3.ext ex
        replace B4 := B4.ext ex
        replace B5 := B5.ext ex
        skip
        refine wl_ef (ef_storeP (o := 0) rfl rfl (by kernel_rfl) B5 (Nat.le_of_ble_eq_true rfl) (all_ones rfl)) rfl ?_
        rintro _ wS4_3 ⟨rfl, D, cg⟩
        have ex := Chs.one cg
        clear cg
        replace F := F.chs ex
        replace B2 := B2.chs ex
        replace B3 := B3.chs ex
        replace B4 := B4.chs ex
        replace B5 := D; clear D
        replace B5 := B5.congr (cs' := pv ((os a b c d n).1 ^^^ (qs c d n).1) ((os a b c d n).2 ^^^ (qs c d n).2)) rfl
        refine wl_nil ?_
        refine wq_then_norm (hK2 ?_)
        refine wc_seq ?_; intro K18 hK18
        have hbit : bit a b n = 1 := by unfold bit; rw [if_neg (by omega)]; omega
        replace B5 := B5.congr (cs' := pv (os a b c d (n + 1)).1 (os a b c d (n + 1)).2) (by rw [os, if_pos hbit])
        refine wc_region ?_
        refine wl_y (y_fieldAddr (o := 1) (s := 1) (off := 0) (o' := 1) rfl Try.underlying77 rfl (by kernel_rfl) rfl rfl) rfl ?_
        refine wl_y (y_load1 rfl Try.underlying52 rfl (B3.get (i := 1) rfl)) rfl ?_
        refine wl_y (y_and rfl rfl (and1w _ hq2)) rfl ?_
        refine wl_y (y_assign rfl) rfl ?_
        refine wl_nil ?_
        refine wq_then_norm (hK18 ?_)
        refine wc_seq ?_; intro K19 hK19
        refine wc_region ?_
        refine wl_y (y_fieldAddr (o := 0) (s := 1) (off := 0) (o' := 0) rfl Try.underlying77 rfl (by kernel_rfl) rfl rfl) rfl ?_
        refine wl_y (y_load1 rfl Try.underlying52 rfl (B3.get (i := 0) rfl)) rfl ?_
        refine wl_y (y_shr rfl rfl (by omega) (shr1w _)) rfl ?_
        refine wl_y (y_fieldAddr (o := 1) (s := 1) (off := 0) (o' := 1) rfl Try.underlying77 rfl (by kernel_rfl) rfl rfl) rfl ?_
        refine wl_y (y_load1 rfl Try.underlying52 rfl (B3.get (i := 1) rfl)) rfl ?_
        refine wl_y (y_shr rfl rfl (by omega) (shr1w _)) rfl ?_
        refine wl_y (y_fieldAddr (o := 0) (s := 1) (off := 0) (o' := 0) rfl Try.underlying77 rfl (by kernel_rfl) rfl rfl) rfl ?_
        refine wl_y (y_load1 rfl Try.underlying52 rfl (B3.get (i := 0) rfl)) rfl ?_
        refine wl_y (y_shl rfl rfl (by omega) (shlW63 _)) rfl ?_
        refine wl_y (y_or rfl rfl ((bits_u64 (by omega) (Nat.mod_lt _ (by omega))).2.1)) rfl ?_
        refine wl_y (y_build rfl (cells := pv ((qs c d n).1 / 2) ((qs c d n).2 / 2 ||| ((qs c d n).1 * 9223372036854775808 % 18446744073709551616))) (by kernel_rfl)) rfl ?_
        refine wl_ef (ef_storeP (o := 0) rfl rfl (by kernel_rfl) B3 (Nat.le_of_ble_eq_true rfl) (all_ones rfl)) rfl ?_
        rintro _ wS6_11 ⟨rfl, D, cg⟩
        have ex := Chs.one cg
        clear cg
        replace F := F.chs ex
        replace B2 := B2.chs ex
        replace B4 := B4.chs ex
        replace B5 := B5.chs ex
        replace B3 := D; clear D
        replace B3 := B3.congr (cs' := pv ((qs c d n).1 / 2) ((qs c d n).2 / 2 ||| ((qs c d n).1 * 9223372036854775808 % 18446744073709551616))) rfl
        refine wl_nil ?_
        refine wq_then_norm (hK19 ?_)
        refine wc_seq ?_; intro K20 hK20
        refine wc_region ?_
        refine wl_y (y_fieldAddr (o := 0) (s := 1) (off := 0) (o' := 0) rfl Try.underlying77 rfl (by kernel_rfl) rfl rfl) rfl ?_
        refine wl_y (y_load1 rfl Try.underlying52 rfl (B3.get (i := 0) rfl)) rfl ?_
        refine wl_y (y_move rfl) rfl ?_
        refine wl_y (y_mul rfl rfl (show _ = (((qs c d n).2 % 2 * 225 : Nat) : Int) from IntWalk.u64_in _ ⟨by omega, by omega⟩)) rfl ?_
        refine wl_y (y_shl rfl rfl (by omega) (shlW56 _)) rfl ?_
        refine wl_y (y_xor rfl rfl ((bits_u64 (by omega) (Nat.mod_lt _ (by omega))).2.2)) rfl ?_
        refine wl_y (y_fieldAddr (o := 0) (s := 1) (off := 0) (o' := 0) rfl Try.underlying77 rfl (by kernel_rfl) rfl rfl) rfl ?_
        refine wl_ef (ef_storeB (i := 0) rfl rfl rfl (by kernel_rfl) B3 (Nat.le_of_ble_eq_true rfl)) rfl ?_
        rintro _ wS7_7 ⟨rfl, D, cg⟩
        have ex := Chs.one cg
        clear cg
        replace F := F.chs ex
        replace B2 := B2.chs ex
        replace B4 := B4.chs ex
        replace B5 := B5.chs ex
        replace B3 := D; clear D
        replace B3 := B3.congr (cs' := pv (qs c d (n + 1)).1 (qs c d (n + 1)).2) rfl
        refine wl_nil ?_
        refine wq_then_norm (hK20 ?_)
        refine wc_seq ?_; intro K21 hK21
        refine wc_seq ?_; intro K22 hK22
        refine wc_region ?_
        refine wl_y (y_move rfl) rfl ?_
        refine wl_y (y_add rfl rfl (i64_ok (by omega) (by omega))) rfl ?_
        refine wl_y (y_assign rfl) rfl ?_
        refine wl_nil ?_
        refine wq_then_norm (hK22 ?_)
        refine wc_seq ?_; intro K23 hK23
        refine wc_region ?_
        refine wl_y (y_move rfl) rfl ?_
        refine wl_y (y_lss rfl rfl) rfl ?_
        refine wl_nil ?_
        refine wq_then_norm (hK23 ?_)
        refine wc_dec rfl (fun hc2 => ?_) (fun hc2 => ?_)
        · skip
          refine wc_goto ?_
          refine wq_then_goto ?_
          refine wq_jump_hit ?_
          refine hG0 _ _ ⟨n + 1, gB5, rfl, rfl, by omega, n23, n34, n45, hw2, F, B2, B3, B4, B5⟩ (by omega) ⟨rfl, rfl, rfl, rfl, (by first | rfl | exact congrArg some (int_val (by omega))), trivial⟩
        · skip
          refine wc_skip ?_
          refine wq_then_norm (hK21 ?_)
          refine wc_seq ?_; intro K24 hK24
          obtain rfl : n = 127 := by omega
          refine wc_region ?_
          refine wl_y (y_loadw rfl Try.underlying77 rfl (by kernel_rfl) B5) rfl ?_
          refine wl_ef (ef_storeP (o := 0) rfl rfl (by kernel_rfl) B4 (Nat.le_of_ble_eq_true rfl) (all_ones rfl)) rfl ?_
          rintro _ wS10_1 ⟨rfl, D, cg⟩
          have ex := Chs.one cg
          clear cg
          replace F := F.chs ex
          replace B2 := B2.chs ex
          replace B3 := B3.chs ex
          replace B5 := B5.chs ex
          replace B4 := D; clear D
          replace B4 := B4.congr (cs' := pv (os a b c d 128).1 (os a b c d 128).2) rfl
          refine wl_nil ?_
          refine wq_then_norm (hK24 ?_)
          refine wc_ret ?_
          refine wq_jump_ret ?_
          refine hret rfl B4 rfl ?_
          exact ⟨rfl, ((F.drop (by omega)).drop (by omega)).drop (by omega) |>.toExt (by simp)⟩
      · skip
        refine wl_gy 19 rfl rfl (y_pickt rfl rfl) rfl ?_
        refine wl_y (y_pickf rfl rfl) rfl ?_
        refine wl_nil ?_
        refine wq_then_norm (hK3 ?_)
        refine wc_false rfl rfl ?_
        refine wc_skip ?_
        refine wq_then_norm (hK2 ?_)
        refine wc_seq ?_; intro K25 hK25
        have hbit : ¬ bit a b n = 1 := by unfold bit; rw [if_neg (by omega)]; omega
        replace B5 := B5.congr (cs' := pv (os a b c d (n + 1)).1 (os a b c d (n + 1)).2) (by rw [os, if_neg hbit])
        refine wc_region ?_
        refine wl_y (y_fieldAddr (o := 1) (s := 1) (off := 0) (o' := 1) rfl Try.underlying77 rfl (by kernel_rfl) rfl rfl) rfl ?_
        refine wl_y (y_load1 rfl Try.underlying52 rfl (B3.get (i := 1) rfl)) rfl ?_
        refine wl_y (y_and rfl rfl (and1w _ hq2)) rfl ?_
        refine wl_y (y_assign rfl) rfl ?_
        refine wl_nil ?_
        refine wq_then_norm (hK25 ?_)
        refine wc_seq ?_; intro K26 hK26
        refine wc_region ?_
        refine wl_y (y_fieldAddr (o := 0) (s := 1) (off := 0) (o' := 0) rfl Try.underlying77 rfl (by kernel_rfl) rfl rfl) rfl ?_
        refine wl_y (y_load1 rfl Try.underlying52 rfl (B3.get (i := 0) rfl)) rfl ?_
        refine wl_y (y_shr rfl rfl (by omega) (shr1w _)) rfl ?_
        refine wl_y (y_fieldAddr (o := 1) (s := 1) (off := 0) (o' := 1) rfl Try.underlying77 rfl (by kernel_rfl) rfl rfl) rfl ?_
        refine wl_y (y_load1 rfl Try.underlying52 rfl (B3.get (i := 1) rfl)) rfl ?_
        refine wl_y (y_shr rfl rfl (by omega) (shr1w _)) rfl ?_
        refine wl_y (y_fieldAddr (o := 0) (s := 1) (off := 0) (o' := 0) rfl Try.underlying77 rfl (by kernel_rfl) rfl rfl) rfl ?_
        refine wl_y (y_load1 rfl Try.underlying52 rfl (B3.get (i := 0) rfl)) rfl ?_
        refine wl_y (y_shl rfl rfl (by omega) (shlW63 _)) rfl ?_
        refine wl_y (y_or rfl rfl ((bits_u64 (by omega) (Nat.mod_lt _ (by omega))).2.1)) rfl ?_
        refine wl_y (y_build rfl (cells := pv ((qs c d n).1 / 2) ((qs c d n).2 / 2 ||| ((qs c d n).1 * 9223372036854775808 % 18446744073709551616))) (by kernel_rfl)) rfl ?_
        refine wl_ef (ef_storeP (o := 0) rfl rfl (by kernel_rfl) B3 (Nat.le_of_ble_eq_true rfl) (all_ones rfl)) rfl ?_
        rintro _ wS6_11 ⟨rfl, D, cg⟩
        have ex := Chs.one cg
        clear cg
        replace F := F.chs ex
        replace B2 := B2.chs ex
        replace B4 := B4.chs ex
        replace B5 := B5.chs ex
        replace B3 := D; clear D
        replace B3 := B3.congr (cs' := pv ((qs c d n).1 / 2) ((qs c d n).2 / 2 ||| ((qs c d n).1 * 9223372036854775808 % 18446744073709551616))) rfl
        refine wl_nil ?_
        refine wq_then_norm (hK26 ?_)
        refine wc_seq ?_; intro K27 hK27
        refine wc_region ?_
        refine wl_y (y_fieldAddr (o := 0) (s := 1) (off := 0) (o' := 0) rfl Try.underlying77 rfl (by kernel_rfl) rfl rfl) rfl ?_
        refine wl_y (y_load1 rfl Try.underlying52 rfl (B3.get (i := 0) rfl)) rfl ?_
        refine wl_y (y_move rfl) rfl ?_
        refine wl_y (y_mul rfl rfl (show _ = (((qs c d n).2 % 2 * 225 : Nat) : Int) from IntWalk.u64_in _ ⟨by omega, by omega⟩)) rfl ?_
        refine wl_y (y_shl rfl rfl (by omega) (shlW56 _)) rfl ?_
        refine wl_y (y_xor rfl rfl ((bits_u64 (by omega) (Nat.mod_lt _ (by omega))).2.2)) rfl ?_
        refine wl_y (y_fieldAddr (o := 0) (s := 1) (off := 0) (o' := 0) rfl Try.underlying77 rfl (by kernel_rfl) rfl rfl) rfl ?_
        refine wl_ef (ef_storeB (i := 0) rfl rfl rfl (by kernel_rfl) B3 (Nat.le_of_ble_eq_true rfl)) rfl ?_
        rintro _ wS7_7 ⟨rfl, D, cg⟩
        have ex := Chs.one cg
        clear cg
        replace F := F.chs ex
        replace B2 := B2.chs ex
        replace B4 := B4.chs ex
        replace B5 := B5.chs ex
        replace B3 := D; clear D
        replace B3 := B3.congr (cs' := pv (qs c d (n + 1)).1 (qs c d (n + 1)).2) rfl
        refine wl_nil ?_
        refine wq_then_norm (hK27 ?_)
        refine wc_seq ?_; intro K28 hK28
        refine wc_seq ?_; intro K29 hK29
        refine wc_region ?_
        refine wl_y (y_move rfl) rfl ?_
        refine wl_y (y_add rfl rfl (i64_ok (by omega) (by omega))) rfl ?_
        refine wl_y (y_assign rfl) rfl ?_
        refine wl_nil ?_
        refine wq_then_norm (hK29 ?_)
        refine wc_seq ?_; intro K30 hK30
        refine wc_region ?_
        refine wl_y (y_move rfl) rfl ?_
        refine wl_y (y_lss rfl rfl) rfl ?_
        refine wl_nil ?_
        refine wq_then_norm (hK30 ?_)
        refine wc_dec rfl (fun hc2 => ?_) (fun hc2 => ?_)
        · skip
          refine wc_goto ?_
          refine wq_then_goto ?_
          refine wq_jump_hit ?_
          refine hG0 _ _ ⟨n + 1, gB5, rfl, rfl, by omega, n23, n34, n45, hw2, F, B2, B3, B4, B5⟩ (by omega) ⟨rfl, rfl, rfl, rfl, (by first | rfl | exact congrArg some (int_val (by omega))), trivial⟩
        · skip
          refine wc_skip ?_
          refine wq_then_norm (hK28 ?_)
          refine wc_seq ?_; intro K31 hK31
          obtain rfl : n = 127 := by omega
          refine wc_region ?_
          refine wl_y (y_loadw rfl Try.underlying77 rfl (by kernel_rfl) B5) rfl ?_
          refine wl_ef (ef_storeP (o := 0) rfl rfl (by kernel_rfl) B4 (Nat.le_of_ble_eq_true rfl) (all_ones rfl)) rfl ?_
          rintro _ wS10_1 ⟨rfl, D, cg⟩
          have ex := Chs.one cg
          clear cg
          replace F := F.chs ex
          replace B2 := B2.chs ex
          replace B3 := B3.chs ex
          replace B5 := B5.chs ex
          replace B4 := D; clear D
          replace B4 := B4.congr (cs' := pv (os a b c d 128).1 (os a b c d 128).2) rfl
          refine wl_nil ?_
          refine wq_then_norm (hK31 ?_)
          refine wc_ret ?_
          refine wq_jump_ret ?_
          refine hret rfl B4 rfl ?_
          exact ⟨rfl, ((F.drop (by omega)).drop (by omega)).drop (by omega) |>.toExt (by simp)⟩
  · intro G hG0
    refine wc_seq ?_; intro K32 hK32
    refine wc_region ?_
    refine wl_ef (ef_alloc (Z := #[.int .u64 0, .int .u64 0]) (by kernel_rfl)) rfl ?_
    rintro _ wB5 ⟨gB5, rfl, B5, hgB5, ex⟩
    have lB5 := B5.lt; have zB5 := ex.size
    have nB3_5 : gB3 < gB5 := Nat.lt_of_lt_of_le B3.lt hgB5
    have nB4_5 : gB4 < gB5 := Nat.lt_of_lt_of_le B4.lt hgB5
    replace F := F.grow ex hgB5
    replace B2 := B2.grow ex hgB5
    replace B3 := B3.grow ex hgB5
    replace B4 := B4.grow ex hgB5
    refine wl_nil ?_
    refine wq_then_norm (hK32 ?_)
    refine wc_seq ?_; intro K33 hK33
    refine wc_region ?_
    refine wl_y (y_assign rfl) rfl ?_
    refine wl_nil ?_
    refine wq_then_norm (hK33 ?_)
    refine wc_seq ?_; intro KG0 hKG0
    refine wc_label ?_
    refine wq_then_norm (hKG0 ?_)
    exact hG0 _ _ ⟨0, gB5, rfl, rfl, Nat.zero_le _, (by omega), (by omega), (by omega), (by omega), F, B2, B3, B4, B5⟩ ⟨rfl, rfl, rfl, rfl, (by first | rfl | exact congrArg some (int_val (by omega))), trivial⟩
end Go.Proofs.Ytjllhimhiekchaa
