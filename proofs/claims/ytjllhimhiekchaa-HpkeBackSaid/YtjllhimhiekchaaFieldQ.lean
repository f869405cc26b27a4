/- The field's Inv and Root, the reference's Pow and Inv: what each hands back. -/
import Derived.Test.YtjllhimhiekchaaRow
import Derived.Test.YtjllhimhiekchaaFieldD
import Derived.Test.YtjllhimhiekchaaFieldL
/- ratlineref01.Same: are two lists of bytes the same? Lengths within an int. -/
namespace Go.Proofs.Ytjllhimhiekchaa
open Go.RowKit
theorem same_step {xs ys : List UInt8} {n k : Nat} (hx : xs.length = n) (hy : ys.length = n) (hk : k < n) (h : xs.take k = ys.take k) (e : xs.getD k 0 = ys.getD k 0) : xs.take (k + 1) = ys.take (k + 1) := by
  rw [List.take_succ_eq_append_getElem (by omega), List.take_succ_eq_append_getElem (by omega), h]
  congr 1
  simpa [hx, hy, hk] using e
theorem same_at {xs ys : List UInt8} {k : Nat} (e : xs.getD k 0 ≠ ys.getD k 0) : xs ≠ ys := fun h => e (by rw [h])
set_option maxHeartbeats 400000 in
theorem same_any (A B : Option Addr) (n m c d : Nat) (xs ys : List UInt8) (w : World) (ha : Bs w A n xs) (hb : Bs w B m ys) (hn : n ≤ 140737488355328) (hm : m ≤ 140737488355328) :
    Calls Try.prog 13 #[.slice A n c, .slice B m d] w fun e w' => e = .returned (.bool (decide (xs = ys))) ∧ ∃ k, w' = w.drewN k := by
  by_cases hnm : n = m
  · subst hnm
    have HA := Lib.hid ha; have HB := Lib.hid hb
    clear ha hb
    go_enter Try.func13, Try.ntmps13
    go_wp2
    go_loopw [5] (fun i wr => ∃ k q : Nat, k ≤ n ∧ i = .int .i64 k ∧ wr = w.drewN q ∧ xs.take k = ys.take k) (fun i _ => n - (intOf i).toNat)
    case atStart => exact ⟨0, 0, Nat.zero_le _, rfl, rfl, rfl⟩
    case round =>
      obtain ⟨k, q, hk, rfl, rfl, heq⟩ := hrel
      have HE := Lib.hid heq
      clear heq
      by_cases hlt : k < n
      · obtain ⟨b, off, x, rfl, hx, hcx⟩ := HA.out.byte hlt
        obtain ⟨b', off', y, rfl, hy, hcy⟩ := HB.out.byte hlt
        by_cases he : x = y
        · subst he
          go_wp2_with fail
          go_quiet (fail)
          go_wp2
          go_roundw
          case rel => exact ⟨k + 1, _, by omega, by go_num, rfl, same_step HA.out.1 HB.out.1 hlt HE.out (hx.out.symm.trans hy.out)⟩
          case measure => simp [intOf]; omega
        · have hne : ((x.toNat : Int) != (y.toNat : Int)) = true := by
            rw [bne_iff_ne]
            intro h
            exact he (UInt8.toNat_inj.1 (by omega))
          have hxy : xs ≠ ys := same_at (k := k) (by rw [← hx.out, ← hy.out]; exact he)
          have HXY := Lib.hid hxy
          clear hxy he
          go_wp2_with fail
          go_quiet (fail)
          go_wp2
          go_ret
          exact ⟨by rw [decide_eq_false HXY.out]; rfl, _, by rw [World.drewN_drewN]⟩
      · go_wp2
        go_ret
        have h := HE.out
        rw [List.take_of_length_le (by rw [HA.out.1]; omega), List.take_of_length_le (by rw [HB.out.1]; omega)] at h
        exact ⟨by rw [decide_eq_true h]; rfl, _, rfl⟩
  · have hxy : xs ≠ ys := fun e => hnm (by rw [← ha.1, ← hb.1, e])
    have HXY := Lib.hid hxy
    clear hxy ha hb
    go_enter Try.func13, Try.ntmps13
    go_wp2
    go_ret
    exact ⟨by rw [decide_eq_false HXY.out]; rfl, 0, rfl⟩
end Go.Proofs.Ytjllhimhiekchaa

/- The field's Bytes: what it hands back. The field's reference: numbers modulo the prime: what each hands back. The field's reference: Of, First, Bytes, Mul, Add, Sub, Same: what each hands back. The field's reference: Bytes and First; the law's 'is' and 'alive'. -/
namespace Go.Proofs.Ytjllhimhiekchaa
section
open Go.RowKit
attribute [local irreducible] Y Ef WL WC WK WQ WM OpM
/-- Bytes by a function. -/
def bt (f : Nat → Nat) : Array Value := nums .u8 (Fp.fn 32 f)
theorem bt_size (f : Nat → Nat) : (bt f).size = 32 := by rw [bt, nums_size, Fp.fn_length]
theorem bt_get (f : Nat → Nat) {i j : Nat} (hi : i = j) (h : j < 32) : (bt f)[i]? = some (.int .u8 (f j : Nat)) := by
  subst hi; rw [bt, nums_get _ _ _ (by rw [Fp.fn_length]; exact h), Fp.fn_get f h]
theorem bt_set (f : Nat → Nat) (i x : Nat) : (bt f).setIfInBounds i (.int .u8 (x : Int)) = bt (fun j => if j = i then x else f j) := by
  rw [bt, nums_set, Fp.fn_set, bt]
theorem bt_congr {f g : Nat → Nat} (h : ∀ j, j < 32 → f j = g j) : bt f = bt g := by unfold bt; rw [Fp.fn_congr h]
theorem bt_le (x : Nat) : bt (fun j => x / 256 ^ j % 256) = bys (Fp.le 32 x) := by
  unfold bt nums bys Fp.fn Fp.le
  rw [List.map_map, List.map_map]
  congr 1
  apply List.map_congr_left
  intro j _
  simp only [Function.comp_apply, iv, bv, UInt8.toNat_ofNat']
  congr 2
  omega
theorem shrv (x k : Nat) (hk : k ≤ 64) : (x : Int) / 2 ^ (min (k : Int).toNat IntKind.u64.bits) = ((x / 2 ^ k : Nat) : Int) := by
  have e : min (k : Int).toNat IntKind.u64.bits = k := by
    have : IntKind.u64.bits = 64 := rfl
    omega
  rw [e, show (2 : Int) ^ k = ((2 ^ k : Nat) : Int) from by rw [Int.natCast_pow]; rfl]
  exact (Int.natCast_ediv _ _).symm
theorem shlv (b s : Nat) (hs : s < 8) (hb : b * 2 ^ s < 256) : IntKind.u8.wrap ((b : Int) * 2 ^ (min (s : Int).toNat IntKind.u8.bits)) = ((b * 2 ^ s : Nat) : Int) := by
  have e : min (s : Int).toNat IntKind.u8.bits = s := by
    have : IntKind.u8.bits = 8 := rfl
    omega
  rw [e, show (2 : Int) ^ s = ((2 ^ s : Nat) : Int) from by rw [Int.natCast_pow]; rfl, ← Int.natCast_mul, IntKind.wrap_u8']
  omega
theorem orv (old b s : Nat) (ho : old < 2 ^ s) (h : old + b * 2 ^ s < 256) : bits .or .u8 (old : Int) ((b * 2 ^ s : Nat) : Int) = ((old + b * 2 ^ s : Nat) : Int) := by
  have h2 := (bits_u8 (p := old) (q := b * 2 ^ s) (by omega) (by omega)).2.1
  rw [h2, Nat.or_comm, Nat.mul_comm b, ← Nat.two_pow_add_eq_or_of_lt ho, Nat.add_comm]
theorem fbytes_any {cs : Array Value} {a : Nat} (ha : Fe cs a) (w : World) :
    Calls Try.prog 33 #[.agg cs] w fun e w' => ∃ g, e = .returned (.slice (some ⟨g, 0, none⟩) 32 32) ∧ w.heap.size ≤ g ∧ Blk w' g 5 (bys (Fp.le 32 a)) ∧ Ext w w' := by
  have hal := ha.lt
  obtain ⟨f, rfl, hf, hfa⟩ := ha
  refine vc_enter1 44 Try.func33 rfl rfl rfl rfl ?_
  intro Q hret
  refine wc_seq ?_; intro K1 hK1
  refine wc_region ?_
  refine wl_ef (ef_box (cs := fe f) rfl rfl) rfl ?_
  rintro _ w1 ⟨g1, rfl, B1, hg1, ex⟩
  have E1 := ex
  refine wl_y (y_assign rfl) rfl ?_
  refine wl_nil ?_
  refine wq_then_norm (hK1 ?_)
  refine wc_seq ?_; intro K2 hK2
  refine wc_region ?_
  refine wl_y (y_loadw rfl Try.underlying55 rfl (by kernel_rfl) B1) rfl ?_
  refine wl_call Try.func55 rfl rfl rfl (least_any f _ hf) rfl ?_
  rintro e w2 ⟨rfl, ex⟩
  refine ⟨_, rfl, ?_⟩
  rw [hfa]; have E2 := E1.ext ex; have C1 := B1.ext ex
  refine wl_ef (ef_storeW rfl rfl (by rw [fe_size]; kernel_rfl) C1 (by rw [fe_size, fe_size]) (fe_one _)) rfl ?_
  rintro _ w3 ⟨rfl, B3, cg⟩
  have E3 := E2.chg cg hg1
  refine wl_nil ?_
  refine wq_then_norm (hK2 ?_)
  refine wc_seq ?_; intro K3 hK3
  refine wc_region ?_
  refine wl_ef (ef_make (n := 32) (z := .int .u8 0) (bytes := 1) rfl rfl Try.underlying22 (by kernel_rfl) rfl rfl rfl rfl (by omega) (by omega)) rfl ?_
  rintro _ w4 ⟨g2, rfl, B4, hg2, ex⟩
  have E4 := E3.ext ex; have C3 := B3.ext ex; have hg2' : w.heap.size ≤ g2 := Nat.le_trans E3.size hg2; replace B4 : Blk w4 g2 5 (bt (fun j => a % 2 ^ (51 * 0) / 256 ^ j % 256)) := B4.congr (by rw [bt_congr (g := fun _ => 0) fun j _ => by rw [Nat.mul_zero, Nat.pow_zero, Nat.mod_one, Nat.zero_div]]; rfl)
  refine wl_y (y_assign rfl) rfl ?_
  refine wl_nil ?_
  refine wq_then_norm (hK3 ?_)
  refine wc_seq ?_; intro K4 hK4
  refine wc_seq ?_; intro K5 hK5
  refine wc_region ?_
  refine wl_y (y_fieldAddr (o := 0) (s := 5) (off := 0) (o' := 0) rfl Try.underlying55 rfl (by kernel_rfl) rfl rfl) rfl ?_
  refine wl_y (y_loadw rfl Try.underlying53 rfl (by kernel_rfl) C3) rfl ?_
  refine wl_y (y_move rfl) rfl ?_
  refine wl_nil ?_
  refine wq_then_norm (hK5 ?_)
  refine wc_block ?_
  refine wc_loop (fun n' L wr => ∃ i : Nat, L = [(3, .slice (some ⟨g2, 0, none⟩) 32 32), (12, .agg (fe (Fp.limb a))), (13, .int .i64 (i : Int))] ∧ n' = 5 - i ∧ (i ≤ 5 ∧ Ext w wr ∧ Blk wr g2 5 (bt (fun j => a % 2 ^ (51 * i) / 256 ^ j % 256)))) _ _ ⟨0, rfl, rfl, by omega, E4, B4⟩ ⟨rfl, rfl, (by first | rfl | exact congrArg some (int_val (by omega))), trivial⟩ ?_
  rintro KL1 n' L wr ⟨i, rfl, rfl, hi, F, C2⟩ hL1
  refine wc_seq ?_; intro K6 hK6
  refine wc_region ?_
  refine wl_y (y_lss rfl rfl) rfl ?_
  refine wl_nil ?_
  refine wq_then_norm (hK6 ?_)
  refine wc_seq ?_; intro K7 hK7
  refine wc_dec rfl (fun hc1 => ?_) (fun hc1 => ?_)
  · skip
    refine wc_skip ?_
    refine wq_then_norm (hK7 ?_)
    refine wc_seq ?_; intro K8 hK8
    refine wc_block ?_
    refine wc_seq ?_; intro K9 hK9
    refine wc_region ?_
    refine wl_y (y_move rfl) rfl ?_
    refine wl_y (y_ix1 rfl rfl Try.underlying53 Try.underlying52 rfl (by kernel_rfl) rfl (by omega) (fe_get _ rfl (by omega))) rfl ?_
    refine wl_y (y_assign rfl) rfl ?_
    refine wl_y (y_assign rfl) rfl ?_
    refine wl_nil ?_
    refine wq_then_norm (hK9 ?_)
    refine wc_seq ?_; intro K10 hK10
    refine wc_region ?_
    refine wl_y (y_move rfl) rfl ?_
    refine wl_y (y_mul rfl rfl (i64_nat (n := 51 * i) (by omega) (by omega))) rfl ?_
    refine wl_y (y_assign rfl) rfl ?_
    refine wl_nil ?_
    refine wq_then_norm (hK10 ?_)
    refine wc_seq ?_; intro K11 hK11
    refine wc_region ?_
    refine wl_y (y_move rfl) rfl ?_
    refine wl_nil ?_
    refine wq_then_norm (hK11 ?_)
    refine wc_block ?_
    refine wc_loop (fun n' L wq => ∃ k : Nat, L = [(3, .slice (some ⟨g2, 0, none⟩) 32 32), (5, .int .u64 ((Fp.limb a i : Nat) : Int)), (6, .int .i64 ((51 * i : Nat) : Int)), (12, .agg (fe (Fp.limb a))), (13, .int .i64 (i : Int)), (19, .int .i64 (k : Int))] ∧ n' = 51 - k ∧ (k ≤ 51 ∧ Ext w wq ∧ Blk wq g2 5 (bt (fun j => a % 2 ^ (51 * i + k) / 256 ^ j % 256)))) _ _ ⟨0, rfl, rfl, by omega, F, C2⟩ ⟨rfl, (by first | rfl | exact congrArg some (int_val (by omega))), (by first | rfl | exact congrArg some (int_val (by omega))), rfl, (by first | rfl | exact congrArg some (int_val (by omega))), (by first | rfl | exact congrArg some (int_val (by omega))), trivial⟩ ?_
    rintro KL2 n' L wq ⟨k, rfl, rfl, hk, G, K2⟩ hL2
    refine wc_seq ?_; intro K12 hK12
    refine wc_region ?_
    refine wl_y (y_lss rfl rfl) rfl ?_
    refine wl_nil ?_
    refine wq_then_norm (hK12 ?_)
    refine wc_seq ?_; intro K13 hK13
    refine wc_dec rfl (fun hc2 => ?_) (fun hc2 => ?_)
    · skip
      refine wc_skip ?_
      refine wq_then_norm (hK13 ?_)
      refine wc_seq ?_; intro K14 hK14
      refine wc_block ?_
      refine wc_seq ?_; intro K15 hK15
      refine wc_region ?_
      refine wl_y (y_move rfl) rfl ?_
      refine wl_y (y_assign rfl) rfl ?_
      refine wl_nil ?_
      refine wq_then_norm (hK15 ?_)
      obtain ⟨T, hT⟩ : ∃ T, T = 51 * i + k := ⟨_, rfl⟩
      rw [← hT] at K2
      have hi5 : i < 5 := by omega
      have hTl : T < 255 := by omega
      have hlim := Fp.limb_lt a i
      have hx := Nat.mod_lt a (Nat.pow_pos (n := T) (show 0 < 2 by omega))
      have hbit := Fp.limb_bit a i k (by omega)
      rw [← hT] at hbit
      obtain ⟨bt0, hb0⟩ : ∃ b, b = Fp.limb a i / 2 ^ k % 2 := ⟨_, rfl⟩
      have hb1 : bt0 ≤ 1 := by omega
      have hlt := Fp.byte_lt hx; have hp8 := Fp.pow8_le T
      have hm : bt0 * 2 ^ (T % 8) ≤ 1 * 2 ^ (T % 8) := Nat.mul_le_mul_right _ hb1
      have hdl : Fp.limb a i / 2 ^ k < 18446744073709551616 := Nat.lt_of_le_of_lt (Nat.div_le_self _ _) (by omega)
      refine wc_draw (by kernel_rfl) 20 rfl ?_; intro wd10 ex hd10
      replace G := G.ext ex; replace K2 := K2.ext ex
      refine wm_z 0 rfl (by kernel_rfl) (fun _ => y_move rfl) rfl ?_
      refine wm_z 1 rfl (by kernel_rfl) (fun _ => y_move rfl) rfl ?_
      refine wm_z 2 rfl (by kernel_rfl) (fun _ => y_move rfl) rfl ?_
      refine wm_z 3 rfl (by kernel_rfl) (fun _ => y_add rfl rfl (i64_nat (n := T) (by omega) (by omega))) rfl ?_
      refine wm_z 4 rfl (by kernel_rfl) (fun _ => y_quo rfl rfl (by omega) (show IntKind.i64.wrap ((T : Int).tdiv 8) = ((T / 8 : Nat) : Int) from i64_nat rfl (by omega))) rfl ?_
      refine wm_z 5 rfl (by kernel_rfl) (fun _ => y_ixs1 rfl rfl Try.underlying22 (by kernel_rfl) rfl (by omega)) rfl ?_
      refine wm_y 6 rfl (by kernel_rfl) (y_load1 rfl Try.underlying5 rfl (K2.get (v := .int .u8 ((a % 2 ^ T / 256 ^ (T / 8) : Nat) : Int)) (by rw [Nat.zero_add, bt_get _ rfl (by omega), Nat.mod_eq_of_lt (a := a % 2 ^ T / 256 ^ (T / 8)) (by omega)]))) rfl ?_
      refine wm_z 7 rfl (by kernel_rfl) (fun _ => y_move rfl) rfl ?_
      refine wm_z 8 rfl (by kernel_rfl) (fun _ => y_move rfl) rfl ?_
      refine wm_z 9 rfl (by kernel_rfl) (fun _ => y_shr rfl rfl (by omega) (shrv _ k (by omega))) rfl ?_
      refine wm_z 10 rfl (by kernel_rfl) (fun _ => y_and rfl rfl (show bits .and .u64 ((Fp.limb a i / 2 ^ k : Nat) : Int) 1 = (bt0 : Int) by rw [hb0]; exact and1 _ hdl)) rfl ?_
      refine wm_y 11 rfl (by kernel_rfl) (y_conv rfl Try.underlying52 Try.underlying5 (IntWalk.u8_in _ ⟨by omega, by omega⟩)) rfl ?_
      refine wm_z 12 rfl (by kernel_rfl) (fun _ => y_move rfl) rfl ?_
      refine wm_z 13 rfl (by kernel_rfl) (fun _ => y_move rfl) rfl ?_
      refine wm_z 14 rfl (by kernel_rfl) (fun _ => y_add rfl rfl (i64_nat (n := T) (by omega) (by omega))) rfl ?_
      refine wm_z 15 rfl (by kernel_rfl) (fun _ => y_rem rfl rfl (by omega) (show ((T : Int).tmod 8 = ((T % 8 : Nat) : Int)) from rfl)) rfl ?_
      refine wm_z 16 rfl (by kernel_rfl) (fun _ => y_shl rfl rfl (by omega) (shlv bt0 (T % 8) (by omega) (by omega))) rfl ?_
      refine wm_z 17 rfl (by kernel_rfl) (fun _ => y_or rfl rfl (orv _ _ _ hlt (by omega))) rfl ?_
      refine wm_z 18 rfl (by kernel_rfl) (fun _ => y_ixs1 rfl rfl Try.underlying22 (by kernel_rfl) rfl (by omega)) rfl ?_
      refine wm_one 19 (by kernel_rfl) ?_; refine om_ef rfl (ef_storeB rfl rfl rfl (by kernel_rfl) K2 (by rw [bt_size]; omega)) rfl ?_
      rintro _ w5 ⟨rfl, B5, cg⟩
      refine ⟨.inl rfl, ?_⟩
      rw [Nat.zero_add, bt_set] at B5; have G5 := G.chg cg hg2'
      refine wm_done (by kernel_rfl) ?_
      refine wq_nop ?_
      refine wq_blk_norm ?_
      refine wq_then_norm (hK14 ?_)
      refine wc_region ?_
      refine wl_y (y_add rfl rfl (i64_ok (by omega) (by omega))) rfl ?_
      refine wl_y (y_move rfl) rfl ?_
      refine wl_nil ?_
      refine wq_then_norm ?_
      refine hL2 _ _ ⟨k + 1, rfl, rfl, by omega, G5, B5.congr (bt_congr fun j _ => by
        rw [show 51 * i + (k + 1) = T + 1 by omega, Nat.mod_pow_succ, ← hbit, ← hb0, Nat.mul_comm (2 ^ T)]
        exact Fp.bit_step j hx hb1)⟩ (by omega) ⟨rfl, (by first | rfl | exact congrArg some (int_val (by omega))), (by first | rfl | exact congrArg some (int_val (by omega))), rfl, (by first | rfl | exact congrArg some (int_val (by omega))), (by first | rfl | exact congrArg some (int_val (by omega))), trivial⟩
    · skip
      refine wc_exit ?_
      refine wq_then_exit ?_
      refine wq_then_exit ?_
      refine wq_blk_hit ?_
      refine wq_blk_norm ?_
      refine wq_then_norm (hK8 ?_)
      refine wc_region ?_
      refine wl_y (y_add rfl rfl (i64_ok (by omega) (by omega))) rfl ?_
      refine wl_y (y_move rfl) rfl ?_
      refine wl_nil ?_
      refine wq_then_norm ?_
      refine hL1 _ _ ⟨i + 1, rfl, rfl, by omega, G, K2.congr (bt_congr fun j _ => by rw [show 51 * (i + 1) = 51 * i + k by omega])⟩ (by omega) ⟨rfl, rfl, (by first | rfl | exact congrArg some (int_val (by omega))), trivial⟩
  · skip
    refine wc_exit ?_
    refine wq_then_exit ?_
    refine wq_then_exit ?_
    refine wq_blk_hit ?_
    refine wq_then_norm (hK4 ?_)
    refine wc_seq ?_; intro K16 hK16
    refine wc_region ?_
    refine wl_y (y_move rfl) rfl ?_
    refine wl_y (y_assign rfl) rfl ?_
    refine wl_nil ?_
    refine wq_then_norm (hK16 ?_)
    refine wc_ret ?_
    refine hret rfl ?_
    obtain rfl : i = 5 := by omega
    refine ⟨g2, rfl, hg2', C2.congr ?_, F⟩
    rw [← bt_le]
    refine bt_congr fun j _ => ?_
    rw [Nat.mod_eq_of_lt (show a < 2 ^ (51 * 5) by unfold Fp.p at hal; omega)]
end
section
open Go.RowKit
attribute [local irreducible] Y Ef WL WC WK WQ WM OpM
theorem Ns.cutA {w : World} {k : IntKind} {A : Option Addr} {n c : Nat} {xs : List Nat} (h : Ns k w A n xs) {j : Nat} (hj : j ≤ n) (hc : n ≤ c) : Ns k w (cutA A c j 1) (n - j) (xs.drop j) := by
  refine ⟨by rw [List.length_drop, h.1], ?_⟩
  unfold Go.Proofs.Ytjllhimhiekchaa.cutA
  rw [Nat.mul_one]
  split
  · have : xs.drop j = [] := List.drop_of_length_le (by have := h.1; omega)
    rw [this]; exact .inl rfl
  · rcases h.2 with h0 | ⟨b, off, rfl, hcell⟩
    · left; have : xs = [] := by simpa using h0
      rw [this]; simp
    · refine .inr ⟨b, off + j, by rw [Option.map_some, Addr.add_plain], fun i u hu => ?_⟩
      rw [List.map_drop, List.getElem?_drop] at hu
      rw [Nat.add_assoc]
      exact hcell _ u hu
theorem p_len : (Big.digs Fp.p).length ≤ 17 := Big.digs_length_le _ 17 (by decide)
end
section
open Go.RowKit
attribute [local irreducible] Y Ef WL WC WK WQ WM OpM
end
section
open Go.RowKit
attribute [local irreducible] Y Ef WL WC WK WQ WM OpM
theorem Row.cut {w : World} {base : Nat} {e : TypeId} {A : Option Addr} {n c : Nat} {xs : List Value} (h : Row w base e A n c xs) {k : Nat} (hk : k ≤ n) (h0 : 0 < k) : Row w base e A k c (xs.take k) := by
  have hl := h.len
  refine ⟨by rw [List.length_take]; omega, ?_⟩
  rcases h.2 with ⟨hv, rfl⟩ | ⟨g, cap, cur, hv, hb, hg, h1, h2, h3, h4⟩
  · simp at hl; omega
  · injection hv with hA hn hc
    subst hA; subst hc
    refine .inr ⟨g, c, cur, rfl, hb, hg, by omega, h2, h3, ?_⟩
    rw [← h4, List.take_take]
    congr 1
    omega
theorem Ns.app {w w' : World} {k : IntKind} {A B : Option Addr} {n c m : Nat} {ys : List Nat} (h : Ns k w B m ys) (hd : Dj A B) (hg : w.grownBy w' (Value.slice A n c).ownBlock) (hA : ∀ b o s, A = some ⟨b, o, s⟩ → s = none) : Ns k w' B m ys := by
  cases A with
  | none =>
    refine ⟨h.1, ?_⟩
    rcases h.2 with h0 | ⟨b, off, hB, hc⟩
    · exact .inl h0
    · exact .inr ⟨b, off, hB, fun j u hu => hg.cell (hc j u hu) (by simp [Value.ownBlock])⟩
  | some a =>
    obtain ⟨b8, o8, s8⟩ := a
    obtain rfl := hA b8 o8 s8 rfl
    exact Ns.grown h (g := b8) hg fun b off hB => fun e => hd b8 o8 b off rfl hB e.symm
end
end Go.Proofs.Ytjllhimhiekchaa

namespace Go.Proofs.Ytjllhimhiekchaa
open Go.RowKit
attribute [local irreducible] Y Ef WL WC WK WQ WM OpM
theorem Finv_any {cs : Array Value} {a : Fp.F} (ha : FE cs a) (w : World) :
    Calls Try.prog 73 #[.agg cs] w fun e w' => ∃ ds, e = .returned (.agg ds) ∧ FE ds (Fp.inv a) ∧ Ext w w' := by
  have hnum : Fp.num (pwr 235 127) = Fp.p - 2 := by decide +kernel
  refine vc_enterc1 (s := 5) 6 Try.func73 rfl rfl rfl Try.underlying55 rfl (by kernel_rfl) rfl ?_
  intro Q hret
  refine wc_seq ?_; intro K1 hK1
  refine wc_region ?_
  refine wl_ef (ef_box (cs := cs) rfl rfl) rfl ?_
  rintro _ w1 ⟨g1, rfl, B1, hg1, ex⟩
  have E1 := ex
  refine wl_ef (ef_alloc (Z := fe (fun _ => 0)) (by kernel_rfl)) rfl ?_
  rintro _ w2 ⟨g2, rfl, B2, hg2, ex⟩
  have E2 := E1.ext ex; replace B1 := B1.ext ex; have hg2' : w.heap.size ≤ g2 := Nat.le_trans E1.size hg2
  refine wl_nil ?_
  refine wq_then_norm (hK1 ?_)
  refine wc_seq ?_; intro K2 hK2
  refine wc_draw (by kernel_rfl) 4 rfl ?_; intro wd1 ex hd1
  replace B1 := B1.ext ex
  replace B2 := B2.ext ex
  replace E2 := E2.ext ex
  refine wm_y 0 rfl (by kernel_rfl) ((y_loadw rfl Try.underlying55 rfl (by rw [ha.size]; kernel_rfl) B1)) rfl ?_
  refine wm_one 1 (by kernel_rfl) ?_; refine om_call rfl Try.func92 rfl rfl rfl (power_any 235 127 _) rfl ?_
  rintro e w3 ⟨g3, rfl, H3, ex⟩
  refine ⟨_, rfl, .inr ex, ?_⟩
  replace B1 := B1.ext ex
  replace B2 := B2.ext ex
  replace E2 := E2.ext ex
  skip
  refine wm_one 2 (by kernel_rfl) ?_; refine om_call rfl Try.func91 rfl rfl rfl (Fpow_any ha _ 32 32 _ _ H3 (by omega)) rfl ?_
  rintro e w4 ⟨ds, rfl, D, ex⟩
  refine ⟨_, rfl, .inr ex, ?_⟩
  replace B1 := B1.ext ex
  replace B2 := B2.ext ex
  replace E2 := E2.ext ex
  rw [hnum] at D
  refine wm_one 3 (by kernel_rfl) ?_; refine om_ef rfl (ef_storeW rfl rfl (by rw [D.size]; kernel_rfl) B2 (by rw [fe_size, D.size]) D.one) rfl ?_
  rintro _ w5 ⟨rfl, B5, cg⟩
  refine ⟨.inl rfl, ?_⟩
  have E5 := E2.chg cg hg2'
  refine wm_done (by kernel_rfl) ?_
  refine wq_nop ?_
  refine wq_then_norm (hK2 ?_)
  refine wc_ret ?_
  refine hret rfl B5 D.size ?_
  exact ⟨_, rfl, D, E5⟩
/-- What the field's number is that bytes tell. -/
theorem Fof_any (A : Option Addr) (n c : Nat) (xs : List UInt8) (w : World) (HA : Bs w A n xs) :
    Calls Try.prog 54 #[.slice A n c] w fun e w' => ∃ cs, e = .returned (.agg cs) ∧ FE cs (Fp.of (Fp.ofB xs)) ∧ Ext w w' :=
  (fof_any A n c xs w HA).mono fun _ _ ⟨cs, h1, h2, h3⟩ => ⟨cs, h1, FE.of h2, h3⟩
/-- A number of the reference by its member of the field. -/
def BG (w : World) (A : Option Addr) (n : Nat) (a : Fp.F) : Prop := Bg w A n a.val
theorem BG.le {w : World} {A : Option Addr} {n : Nat} {a : Fp.F} (h : BG w A n a) : n ≤ 17 := by
  have hl := (show Bg w A n a.val from h).len
  have := p_len
  have := Big.length_le (Nat.le_of_lt a.isLt)
  omega
theorem BG.congr {w : World} {A : Option Addr} {n : Nat} {a b : Fp.F} (h : BG w A n a) (e : a = b) : BG w A n b := e ▸ h
theorem BG.ext {w w' : World} {A : Option Addr} {n : Nat} {a : Fp.F} (h : BG w A n a) (k : Ext w w') : BG w' A n a := Ns.ext h k
theorem BG.of {w : World} {A : Option Addr} {n x : Nat} (h : Bg w A n x) (hx : x < Fp.p) : BG w A n (Fp.of x) := by
  unfold BG; rw [Fp.val_of, Nat.mod_eq_of_lt hx]; exact h
end Go.Proofs.Ytjllhimhiekchaa
