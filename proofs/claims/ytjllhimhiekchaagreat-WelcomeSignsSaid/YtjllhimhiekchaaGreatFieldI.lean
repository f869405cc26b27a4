/- The field's Bytes: what it hands back. The field's reference: numbers modulo the prime: what each hands back. The field's reference: Of, First, Bytes, Mul, Add, Sub, Same: what each hands back. The field's reference: Bytes and First; the law's 'is' and 'alive'. -/
import Derived.Test.YtjllhimhiekchaaGreatFieldL
import Derived.Test.YtjllhimhiekchaaGreatKdfC
namespace Go.Proofs.YtjllhimhiekchaaGreat
section
open Go.RowKit
attribute [local irreducible] Y Ef WL WC WK WQ WM OpM
def bt (f : Nat → Nat) : Array Value := nums .u8 (Fp.fn 32 f)
theorem bt_size (f : Nat → Nat) : (bt f).size = 32 := by rw [bt, nums_size, Fp.fn_length]
theorem bt_get (f : Nat → Nat) {i j : Nat} (hi : i = j) (h : j < 32) : (bt f)[i]? = some (.int .u8 (f j : Nat)) := by
 subst hi; rw [bt, nums_get _ _ _ (by rw [Fp.fn_length]; exact h), Fp.fn_get f h]
theorem bt_set (f : Nat → Nat) (i x : Nat) : (bt f).setIfInBounds i (.int .u8 (x : Int)) = bt (fun j => if j = i then x else f j) := by
 rw [bt, nums_set, Fp.fn_set, bt]
theorem bt_congr {f g : Nat → Nat} (h : ∀ j, j < 32 → f j = g j) : bt f = bt g := by unfold bt; rw [Fp.fn_congr h]
theorem bt_le (x : Nat) : bt (fun j => x / 256 ^ j % 256) = bys (Fp.le 32 x) := by
 unfold bt nums bys Fp.fn Fp.le
 rw [List.map_map, List.map_map]
 congr 1
 apply List.map_congr_left
 intro j _
 simp only [Function.comp_apply, iv, bv, UInt8.toNat_ofNat']
 congr 2
 omega
theorem shrv (x k : Nat) (hk : k ≤ 64) : (x : Int) / 2 ^ (min (k : Int).toNat IntKind.u64.bits) = ((x / 2 ^ k : Nat) : Int) := by
 have e : min (k : Int).toNat IntKind.u64.bits = k := by
  have : IntKind.u64.bits = 64 := rfl
  omega
 rw [e, show (2 : Int) ^ k = ((2 ^ k : Nat) : Int) from by rw [Int.natCast_pow]; rfl]
 exact (Int.natCast_ediv _ _).symm
theorem shlv (b s : Nat) (hs : s < 8) (hb : b * 2 ^ s < 256) : IntKind.u8.wrap ((b : Int) * 2 ^ (min (s : Int).toNat IntKind.u8.bits)) = ((b * 2 ^ s : Nat) : Int) := by
 have e : min (s : Int).toNat IntKind.u8.bits = s := by
  have : IntKind.u8.bits = 8 := rfl
  omega
 rw [e, show (2 : Int) ^ s = ((2 ^ s : Nat) : Int) from by rw [Int.natCast_pow]; rfl, ← Int.natCast_mul, IntKind.wrap_u8']
 omega
theorem orv (old b s : Nat) (ho : old < 2 ^ s) (h : old + b * 2 ^ s < 256) : bits .or .u8 (old : Int) ((b * 2 ^ s : Nat) : Int) = ((old + b * 2 ^ s : Nat) : Int) := by
 have h2 := (bits_u8 (p := old) (q := b * 2 ^ s) (by omega) (by omega)).2.1
 rw [h2, Nat.or_comm, Nat.mul_comm b, ← Nat.two_pow_add_eq_or_of_lt ho, Nat.add_comm]
theorem fbytes_any {cs : Array Value} {a : Nat} (ha : Fe cs a) (w : World) :
  Calls Tryz.prog 162 #[.agg cs] w fun e w' => ∃ g, e = .returned (.slice (some ⟨g, 0, none⟩) 32 32) ∧ w.heap.size ≤ g ∧ Blk w' g 5 (bys (Fp.le 32 a)) ∧ Ext w w' := by
 have hal := ha.lt
 obtain ⟨f, rfl, hf, hfa⟩ := ha
 refine vc_enter1 44 Tryz.func162 rfl rfl rfl rfl ?_
 intro Q hret
 refine wc_seq ?_; intro K1 hK1
 refine wc_region ?_
 refine wl_ef (ef_box (cs := fe f) rfl rfl) rfl ?_
 rintro _ w1 ⟨g1, rfl, B1, hg1, ex⟩
 have E1 := ex
 refine wl_y (y_assign rfl) rfl ?_
 refine wl_nil ?_
 refine wq_then_norm (hK1 ?_)
 refine wc_seq ?_; intro K2 hK2
 refine wc_region ?_
 refine wl_y (y_loadw rfl Tryz.underlying135 rfl (by kernel_rfl) B1) rfl ?_
 refine wl_call Tryz.func225 rfl rfl rfl (least_any f _ hf) rfl ?_
 rintro e w2 ⟨rfl, ex⟩
 refine ⟨_, rfl, ?_⟩
 rw [hfa]; have E2 := E1.ext ex; have C1 := B1.ext ex
 refine wl_ef (ef_storeW rfl rfl (by rw [fe_size]; kernel_rfl) C1 (by rw [fe_size, fe_size]) (fe_one _)) rfl ?_
 rintro _ w3 ⟨rfl, B3, cg⟩
 have E3 := E2.chg cg hg1
 refine wl_nil ?_
 refine wq_then_norm (hK2 ?_)
 refine wc_seq ?_; intro K3 hK3
 refine wc_region ?_
 refine wl_ef (ef_make (n := 32) (z := .int .u8 0) (bytes := 1) rfl rfl Tryz.underlying23 (by kernel_rfl) rfl rfl rfl rfl (by omega) (by omega)) rfl ?_
 rintro _ w4 ⟨g2, rfl, B4, hg2, ex⟩
 have E4 := E3.ext ex; have C3 := B3.ext ex; have hg2' : w.heap.size ≤ g2 := Nat.le_trans E3.size hg2; replace B4 : Blk w4 g2 5 (bt (fun j => a % 2 ^ (51 * 0) / 256 ^ j % 256)) := B4.congr (by rw [bt_congr (g := fun _ => 0) fun j _ => by rw [Nat.mul_zero, Nat.pow_zero, Nat.mod_one, Nat.zero_div]]; rfl)
 refine wl_y (y_assign rfl) rfl ?_
 refine wl_nil ?_
 refine wq_then_norm (hK3 ?_)
 refine wc_seq ?_; intro K4 hK4
 refine wc_seq ?_; intro K5 hK5
 refine wc_region ?_
 refine wl_y (y_fieldAddr (o := 0) (s := 5) (off := 0) (o' := 0) rfl Tryz.underlying135 rfl (by kernel_rfl) rfl rfl) rfl ?_
 refine wl_y (y_loadw rfl Tryz.underlying133 rfl (by kernel_rfl) C3) rfl ?_
 refine wl_y (y_move rfl) rfl ?_
 refine wl_nil ?_
 refine wq_then_norm (hK5 ?_)
 refine wc_block ?_
 refine wc_loop (fun n' L wr => ∃ i : Nat, L = [(3, .slice (some ⟨g2, 0, none⟩) 32 32), (12, .agg (fe (Fp.limb a))), (13, .int .i64 (i : Int))] ∧ n' = 5 - i ∧ (i ≤ 5 ∧ Ext w wr ∧ Blk wr g2 5 (bt (fun j => a % 2 ^ (51 * i) / 256 ^ j % 256)))) _ _ ⟨0, rfl, rfl, by omega, E4, B4⟩ ⟨rfl, rfl, (by first | rfl | exact congrArg some (int_val (by omega))), trivial⟩ ?_
 rintro KL1 n' L wr ⟨i, rfl, rfl, hi, F, C2⟩ hL1
 refine wc_seq ?_; intro K6 hK6
 refine wc_region ?_
 refine wl_y (y_lss rfl rfl) rfl ?_
 refine wl_nil ?_
 refine wq_then_norm (hK6 ?_)
 refine wc_seq ?_; intro K7 hK7
 refine wc_dec rfl (fun hc1 => ?_) (fun hc1 => ?_)
 ·skip
  refine wc_skip ?_
  refine wq_then_norm (hK7 ?_)
  refine wc_seq ?_; intro K8 hK8
  refine wc_block ?_
  refine wc_seq ?_; intro K9 hK9
  refine wc_region ?_
  refine wl_y (y_move rfl) rfl ?_
  refine wl_y (y_ix1 rfl rfl Tryz.underlying133 Tryz.underlying38 rfl (by kernel_rfl) rfl (by omega) (fe_get _ rfl (by omega))) rfl ?_
  refine wl_y (y_assign rfl) rfl ?_
  refine wl_y (y_assign rfl) rfl ?_
  refine wl_nil ?_
  refine wq_then_norm (hK9 ?_)
  refine wc_seq ?_; intro K10 hK10
  refine wc_region ?_
  refine wl_y (y_move rfl) rfl ?_
  refine wl_y (y_mul rfl rfl (i64_nat (n := 51 * i) (by omega) (by omega))) rfl ?_
  refine wl_y (y_assign rfl) rfl ?_
  refine wl_nil ?_
  refine wq_then_norm (hK10 ?_)
  refine wc_seq ?_; intro K11 hK11
  refine wc_region ?_
  refine wl_y (y_move rfl) rfl ?_
  refine wl_nil ?_
  refine wq_then_norm (hK11 ?_)
  refine wc_block ?_
  refine wc_loop (fun n' L wq => ∃ k : Nat, L = [(3, .slice (some ⟨g2, 0, none⟩) 32 32), (5, .int .u64 ((Fp.limb a i : Nat) : Int)), (6, .int .i64 ((51 * i : Nat) : Int)), (12, .agg (fe (Fp.limb a))), (13, .int .i64 (i : Int)), (19, .int .i64 (k : Int))] ∧ n' = 51 - k ∧ (k ≤ 51 ∧ Ext w wq ∧ Blk wq g2 5 (bt (fun j => a % 2 ^ (51 * i + k) / 256 ^ j % 256)))) _ _ ⟨0, rfl, rfl, by omega, F, C2⟩ ⟨rfl, (by first | rfl | exact congrArg some (int_val (by omega))), (by first | rfl | exact congrArg some (int_val (by omega))), rfl, (by first | rfl | exact congrArg some (int_val (by omega))), (by first | rfl | exact congrArg some (int_val (by omega))), trivial⟩ ?_
  rintro KL2 n' L wq ⟨k, rfl, rfl, hk, G, K2⟩ hL2
  refine wc_seq ?_; intro K12 hK12
  refine wc_region ?_
  refine wl_y (y_lss rfl rfl) rfl ?_
  refine wl_nil ?_
  refine wq_then_norm (hK12 ?_)
  refine wc_seq ?_; intro K13 hK13
  refine wc_dec rfl (fun hc2 => ?_) (fun hc2 => ?_)
  ·skip
   refine wc_skip ?_
   refine wq_then_norm (hK13 ?_)
   refine wc_seq ?_; intro K14 hK14
   refine wc_block ?_
   refine wc_seq ?_; intro K15 hK15
   refine wc_region ?_
   refine wl_y (y_move rfl) rfl ?_
   refine wl_y (y_assign rfl) rfl ?_
   refine wl_nil ?_
   refine wq_then_norm (hK15 ?_)
   obtain ⟨T, hT⟩ : ∃ T, T = 51 * i + k := ⟨_, rfl⟩
   rw [← hT] at K2
   have hi5 : i < 5 := by omega
   have hTl : T < 255 := by omega
   have hlim := Fp.limb_lt a i
   have hx := Nat.mod_lt a (Nat.pow_pos (n := T) (show 0 < 2 by omega))
   have hbit := Fp.limb_bit a i k (by omega)
   rw [← hT] at hbit
   obtain ⟨bt0, hb0⟩ : ∃ b, b = Fp.limb a i / 2 ^ k % 2 := ⟨_, rfl⟩
   have hb1 : bt0 ≤ 1 := by omega
   have hlt := Fp.byte_lt hx; have hp8 := Fp.pow8_le T
   have hm : bt0 * 2 ^ (T % 8) ≤ 1 * 2 ^ (T % 8) := Nat.mul_le_mul_right _ hb1
   have hdl : Fp.limb a i / 2 ^ k < 18446744073709551616 := Nat.lt_of_le_of_lt (Nat.div_le_self _ _) (by omega)
   refine wc_draw (by kernel_rfl) 20 rfl ?_; intro wd10 ex hd10
   replace G := G.ext ex; replace K2 := K2.ext ex
   refine wm_z 0 rfl (by kernel_rfl) (fun _ => y_move rfl) rfl ?_
   refine wm_z 1 rfl (by kernel_rfl) (fun _ => y_move rfl) rfl ?_
   refine wm_z 2 rfl (by kernel_rfl) (fun _ => y_move rfl) rfl ?_
   refine wm_z 3 rfl (by kernel_rfl) (fun _ => y_add rfl rfl (i64_nat (n := T) (by omega) (by omega))) rfl ?_
   refine wm_z 4 rfl (by kernel_rfl) (fun _ => y_quo rfl rfl (by omega) (show IntKind.i64.wrap ((T : Int).tdiv 8) = ((T / 8 : Nat) : Int) from i64_nat rfl (by omega))) rfl ?_
   refine wm_z 5 rfl (by kernel_rfl) (fun _ => y_ixs1 rfl rfl Tryz.underlying23 (by kernel_rfl) rfl (by omega)) rfl ?_
   refine wm_y 6 rfl (by kernel_rfl) (y_load1 rfl Tryz.underlying5 rfl (K2.get (v := .int .u8 ((a % 2 ^ T / 256 ^ (T / 8) : Nat) : Int)) (by rw [Nat.zero_add, bt_get _ rfl (by omega), Nat.mod_eq_of_lt (a := a % 2 ^ T / 256 ^ (T / 8)) (by omega)]))) rfl ?_
   refine wm_z 7 rfl (by kernel_rfl) (fun _ => y_move rfl) rfl ?_
   refine wm_z 8 rfl (by kernel_rfl) (fun _ => y_move rfl) rfl ?_
   refine wm_z 9 rfl (by kernel_rfl) (fun _ => y_shr rfl rfl (by omega) (shrv _ k (by omega))) rfl ?_
   refine wm_z 10 rfl (by kernel_rfl) (fun _ => y_and rfl rfl (show bits .and .u64 ((Fp.limb a i / 2 ^ k : Nat) : Int) 1 = (bt0 : Int) by rw [hb0]; exact and1 _ hdl)) rfl ?_
   refine wm_y 11 rfl (by kernel_rfl) (y_conv rfl Tryz.underlying38 Tryz.underlying5 (IntWalk.u8_in _ ⟨by omega, by omega⟩)) rfl ?_
   refine wm_z 12 rfl (by kernel_rfl) (fun _ => y_move rfl) rfl ?_
   refine wm_z 13 rfl (by kernel_rfl) (fun _ => y_move rfl) rfl ?_
   refine wm_z 14 rfl (by kernel_rfl) (fun _ => y_add rfl rfl (i64_nat (n := T) (by omega) (by omega))) rfl ?_
   refine wm_z 15 rfl (by kernel_rfl) (fun _ => y_rem rfl rfl (by omega) (show ((T : Int).tmod 8 = ((T % 8 : Nat) : Int)) from rfl)) rfl ?_
   refine wm_z 16 rfl (by kernel_rfl) (fun _ => y_shl rfl rfl (by omega) (shlv bt0 (T % 8) (by omega) (by omega))) rfl ?_
   refine wm_z 17 rfl (by kernel_rfl) (fun _ => y_or rfl rfl (orv _ _ _ hlt (by omega))) rfl ?_
   refine wm_z 18 rfl (by kernel_rfl) (fun _ => y_ixs1 rfl rfl Tryz.underlying23 (by kernel_rfl) rfl (by omega)) rfl ?_
   refine wm_one 19 (by kernel_rfl) ?_; refine om_ef rfl (ef_storeB rfl rfl rfl (by kernel_rfl) K2 (by rw [bt_size]; omega)) rfl ?_
   rintro _ w5 ⟨rfl, B5, cg⟩
   refine ⟨.inl rfl, ?_⟩
   rw [Nat.zero_add, bt_set] at B5; have G5 := G.chg cg hg2'
   refine wm_done (by kernel_rfl) ?_
   refine wq_nop ?_
   refine wq_blk_norm ?_
   refine wq_then_norm (hK14 ?_)
   refine wc_region ?_
   refine wl_y (y_add rfl rfl (i64_ok (by omega) (by omega))) rfl ?_
   refine wl_y (y_move rfl) rfl ?_
   refine wl_nil ?_
   refine wq_then_norm ?_
   refine hL2 _ _ ⟨k + 1, rfl, rfl, by omega, G5, B5.congr (bt_congr fun j _ => by
    rw [show 51 * i + (k + 1) = T + 1 by omega, Nat.mod_pow_succ, ← hbit, ← hb0, Nat.mul_comm (2 ^ T)]
    exact Fp.bit_step j hx hb1)⟩ (by omega) ⟨rfl, (by first | rfl | exact congrArg some (int_val (by omega))), (by first | rfl | exact congrArg some (int_val (by omega))), rfl, (by first | rfl | exact congrArg some (int_val (by omega))), (by first | rfl | exact congrArg some (int_val (by omega))), trivial⟩
  ·skip
   refine wc_exit ?_
   refine wq_then_exit ?_
   refine wq_then_exit ?_
   refine wq_blk_hit ?_
   refine wq_blk_norm ?_
   refine wq_then_norm (hK8 ?_)
   refine wc_region ?_
   refine wl_y (y_add rfl rfl (i64_ok (by omega) (by omega))) rfl ?_
   refine wl_y (y_move rfl) rfl ?_
   refine wl_nil ?_
   refine wq_then_norm ?_
   refine hL1 _ _ ⟨i + 1, rfl, rfl, by omega, G, K2.congr (bt_congr fun j _ => by rw [show 51 * (i + 1) = 51 * i + k by omega])⟩ (by omega) ⟨rfl, rfl, (by first | rfl | exact congrArg some (int_val (by omega))), trivial⟩
 ·skip
  refine wc_exit ?_
  refine wq_then_exit ?_
  refine wq_then_exit ?_
  refine wq_blk_hit ?_
  refine wq_then_norm (hK4 ?_)
  refine wc_seq ?_; intro K16 hK16
  refine wc_region ?_
  refine wl_y (y_move rfl) rfl ?_
  refine wl_y (y_assign rfl) rfl ?_
  refine wl_nil ?_
  refine wq_then_norm (hK16 ?_)
  refine wc_ret ?_
  refine hret rfl ?_
  obtain rfl : i = 5 := by omega
  refine ⟨g2, rfl, hg2', C2.congr ?_, F⟩
  rw [← bt_le]
  refine bt_congr fun j _ => ?_
  rw [Nat.mod_eq_of_lt (show a < 2 ^ (51 * 5) by unfold Fp.p at hal; omega)]
end
section
open Go.RowKit
attribute [local irreducible] Y Ef WL WC WK WQ WM OpM
end
section
open Go.RowKit
attribute [local irreducible] Y Ef WL WC WK WQ WM OpM
end
section
open Go.RowKit
attribute [local irreducible] Y Ef WL WC WK WQ WM OpM
end
end Go.Proofs.YtjllhimhiekchaaGreat
