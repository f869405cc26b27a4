/- The field's Bytes: what it hands back. The field's reference: numbers modulo the prime: what each hands back. The field's reference: Of, First, Bytes, Mul, Add, Sub, Same: what each hands back. The field's reference: Bytes and First; the law's 'is' and 'alive'. -/
import Derived.Test.YtopimmomkapdoaaFieldD
import Derived.Test.YtopimmomkapdoaaSame
namespace Go.Proofs.Ytopimmomkapdoaa
section
open Go.RowKit
attribute [local irreducible] Y Ef WL WC WK WQ WM OpM
/-- Bytes by a function. -/
def bt (f : Nat → Nat) : Array Value := nums .u8 (Fp.fn 32 f)
theorem bt_size (f : Nat → Nat) : (bt f).size = 32 := by rw [bt, nums_size, Fp.fn_length]
theorem bt_get (f : Nat → Nat) {i j : Nat} (hi : i = j) (h : j < 32) : (bt f)[i]? = some (.int .u8 (f j : Nat)) := by
  subst hi; rw [bt, nums_get _ _ _ (by rw [Fp.fn_length]; exact h), Fp.fn_get f h]
theorem bt_set (f : Nat → Nat) (i x : Nat) : (bt f).setIfInBounds i (.int .u8 (x : Int)) = bt (fun j => if j = i then x else f j) := by
  rw [bt, nums_set, Fp.fn_set, bt]
theorem bt_congr {f g : Nat → Nat} (h : ∀ j, j < 32 → f j = g j) : bt f = bt g := by unfold bt; rw [Fp.fn_congr h]
theorem bt_le (x : Nat) : bt (fun j => x / 256 ^ j % 256) = bys (Fp.le 32 x) := by
  unfold bt nums bys Fp.fn Fp.le
  rw [List.map_map, List.map_map]
  congr 1
  apply List.map_congr_left
  intro j _
  simp only [Function.comp_apply, iv, bv, UInt8.toNat_ofNat']
  congr 2
  omega
theorem shrv (x k : Nat) (hk : k ≤ 64) : (x : Int) / 2 ^ (min (k : Int).toNat IntKind.u64.bits) = ((x / 2 ^ k : Nat) : Int) := by
  have e : min (k : Int).toNat IntKind.u64.bits = k := by
    have : IntKind.u64.bits = 64 := rfl
    omega
  rw [e, show (2 : Int) ^ k = ((2 ^ k : Nat) : Int) from by rw [Int.natCast_pow]; rfl]
  exact (Int.natCast_ediv _ _).symm
theorem shlv (b s : Nat) (hs : s < 8) (hb : b * 2 ^ s < 256) : IntKind.u8.wrap ((b : Int) * 2 ^ (min (s : Int).toNat IntKind.u8.bits)) = ((b * 2 ^ s : Nat) : Int) := by
  have e : min (s : Int).toNat IntKind.u8.bits = s := by
    have : IntKind.u8.bits = 8 := rfl
    omega
  rw [e, show (2 : Int) ^ s = ((2 ^ s : Nat) : Int) from by rw [Int.natCast_pow]; rfl, ← Int.natCast_mul, IntKind.wrap_u8']
  omega
theorem orv (old b s : Nat) (ho : old < 2 ^ s) (h : old + b * 2 ^ s < 256) : bits .or .u8 (old : Int) ((b * 2 ^ s : Nat) : Int) = ((old + b * 2 ^ s : Nat) : Int) := by
  have h2 := (bits_u8 (p := old) (q := b * 2 ^ s) (by omega) (by omega)).2.1
  rw [h2, Nat.or_comm, Nat.mul_comm b, ← Nat.two_pow_add_eq_or_of_lt ho, Nat.add_comm]
theorem fbytes_any {cs : Array Value} {a : Nat} (ha : Fe cs a) (w : World) :
    Calls Try.prog 83 #[.agg cs] w fun e w' => ∃ g, e = .returned (.slice (some ⟨g, 0, none⟩) 32 32) ∧ w.heap.size ≤ g ∧ Blk w' g 5 (bys (Fp.le 32 a)) ∧ Ext w w' := by
  have hal := ha.lt
  obtain ⟨f, rfl, hf, hfa⟩ := ha
  refine vc_enter1 44 Try.func83 rfl rfl rfl rfl ?_
  intro Q hret
  refine wc_seq ?_; intro K1 hK1
  refine wc_region ?_
  refine wl_ef (ef_box (cs := fe f) rfl rfl) rfl ?_
  rintro _ w1 ⟨g1, rfl, B1, hg1, ex⟩
  have E1 := ex
  refine wl_y (y_assign rfl) rfl ?_
  refine wl_nil ?_
  refine wq_then_norm (hK1 ?_)
  refine wc_seq ?_; intro K2 hK2
  refine wc_region ?_
  refine wl_y (y_loadw rfl Try.underlying62 rfl (by kernel_rfl) B1) rfl ?_
  refine wl_call Try.func130 rfl rfl rfl (least_any f _ hf) rfl ?_
  rintro e w2 ⟨rfl, ex⟩
  refine ⟨_, rfl, ?_⟩
  rw [hfa]; have E2 := E1.ext ex; have C1 := B1.ext ex
  refine wl_ef (ef_storeW rfl rfl (by rw [fe_size]; kernel_rfl) C1 (by rw [fe_size, fe_size]) (fe_one _)) rfl ?_
  rintro _ w3 ⟨rfl, B3, cg⟩
  have E3 := E2.chg cg hg1
  refine wl_nil ?_
  refine wq_then_norm (hK2 ?_)
  refine wc_seq ?_; intro K3 hK3
  refine wc_region ?_
  refine wl_ef (ef_make (n := 32) (z := .int .u8 0) (bytes := 1) rfl rfl Try.underlying22 (by kernel_rfl) rfl rfl rfl rfl (by omega) (by omega)) rfl ?_
  rintro _ w4 ⟨g2, rfl, B4, hg2, ex⟩
  have E4 := E3.ext ex; have C3 := B3.ext ex; have hg2' : w.heap.size ≤ g2 := Nat.le_trans E3.size hg2; replace B4 : Blk w4 g2 5 (bt (fun j => a % 2 ^ (51 * 0) / 256 ^ j % 256)) := B4.congr (by rw [bt_congr (g := fun _ => 0) fun j _ => by rw [Nat.mul_zero, Nat.pow_zero, Nat.mod_one, Nat.zero_div]]; rfl)
  refine wl_y (y_assign rfl) rfl ?_
  refine wl_nil ?_
  refine wq_then_norm (hK3 ?_)
  refine wc_seq ?_; intro K4 hK4
  refine wc_seq ?_; intro K5 hK5
  refine wc_region ?_
  refine wl_y (y_fieldAddr (o := 0) (s := 5) (off := 0) (o' := 0) rfl Try.underlying62 rfl (by kernel_rfl) rfl rfl) rfl ?_
  refine wl_y (y_loadw rfl Try.underlying60 rfl (by kernel_rfl) C3) rfl ?_
  refine wl_y (y_move rfl) rfl ?_
  refine wl_nil ?_
  refine wq_then_norm (hK5 ?_)
  refine wc_block ?_
  refine wc_loop (fun n' L wr => ∃ i : Nat, L = [(3, .slice (some ⟨g2, 0, none⟩) 32 32), (12, .agg (fe (Fp.limb a))), (13, .int .i64 (i : Int))] ∧ n' = 5 - i ∧ (i ≤ 5 ∧ Ext w wr ∧ Blk wr g2 5 (bt (fun j => a % 2 ^ (51 * i) / 256 ^ j % 256)))) _ _ ⟨0, rfl, rfl, by omega, E4, B4⟩ ⟨rfl, rfl, (by first | rfl | exact congrArg some (int_val (by omega))), trivial⟩ ?_
  rintro KL1 n' L wr ⟨i, rfl, rfl, hi, F, C2⟩ hL1
  refine wc_seq ?_; intro K6 hK6
  refine wc_region ?_
  refine wl_y (y_lss rfl rfl) rfl ?_
  refine wl_nil ?_
  refine wq_then_norm (hK6 ?_)
  refine wc_seq ?_; intro K7 hK7
  refine wc_dec rfl (fun hc1 => ?_) (fun hc1 => ?_)
  · skip
    refine wc_skip ?_
    refine wq_then_norm (hK7 ?_)
    refine wc_seq ?_; intro K8 hK8
    refine wc_block ?_
    refine wc_seq ?_; intro K9 hK9
    refine wc_region ?_
    refine wl_y (y_move rfl) rfl ?_
    refine wl_y (y_ix1 rfl rfl Try.underlying60 Try.underlying59 rfl (by kernel_rfl) rfl (by omega) (fe_get _ rfl (by omega))) rfl ?_
    refine wl_y (y_assign rfl) rfl ?_
    refine wl_y (y_assign rfl) rfl ?_
    refine wl_nil ?_
    refine wq_then_norm (hK9 ?_)
    refine wc_seq ?_; intro K10 hK10
    refine wc_region ?_
    refine wl_y (y_move rfl) rfl ?_
    refine wl_y (y_mul rfl rfl (i64_nat (n := 51 * i) (by omega) (by omega))) rfl ?_
    refine wl_y (y_assign rfl) rfl ?_
    refine wl_nil ?_
    refine wq_then_norm (hK10 ?_)
    refine wc_seq ?_; intro K11 hK11
    refine wc_region ?_
    refine wl_y (y_move rfl) rfl ?_
    refine wl_nil ?_
    refine wq_then_norm (hK11 ?_)
    refine wc_block ?_
    refine wc_loop (fun n' L wq => ∃ k : Nat, L = [(3, .slice (some ⟨g2, 0, none⟩) 32 32), (5, .int .u64 ((Fp.limb a i : Nat) : Int)), (6, .int .i64 ((51 * i : Nat) : Int)), (12, .agg (fe (Fp.limb a))), (13, .int .i64 (i : Int)), (19, .int .i64 (k : Int))] ∧ n' = 51 - k ∧ (k ≤ 51 ∧ Ext w wq ∧ Blk wq g2 5 (bt (fun j => a % 2 ^ (51 * i + k) / 256 ^ j % 256)))) _ _ ⟨0, rfl, rfl, by omega, F, C2⟩ ⟨rfl, (by first | rfl | exact congrArg some (int_val (by omega))), (by first | rfl | exact congrArg some (int_val (by omega))), rfl, (by first | rfl | exact congrArg some (int_val (by omega))), (by first | rfl | exact congrArg some (int_val (by omega))), trivial⟩ ?_
    rintro KL2 n' L wq ⟨k, rfl, rfl, hk, G, K2⟩ hL2
    refine wc_seq ?_; intro K12 hK12
    refine wc_region ?_
    refine wl_y (y_lss rfl rfl) rfl ?_
    refine wl_nil ?_
    refine wq_then_norm (hK12 ?_)
    refine wc_seq ?_; intro K13 hK13
    refine wc_dec rfl (fun hc2 => ?_) (fun hc2 => ?_)
    · skip
      refine wc_skip ?_
      refine wq_then_norm (hK13 ?_)
      refine wc_seq ?_; intro K14 hK14
      refine wc_block ?_
      refine wc_seq ?_; intro K15 hK15
      refine wc_region ?_
      refine wl_y (y_move rfl) rfl ?_
      refine wl_y (y_assign rfl) rfl ?_
      refine wl_nil ?_
      refine wq_then_norm (hK15 ?_)
      obtain ⟨T, hT⟩ : ∃ T, T = 51 * i + k := ⟨_, rfl⟩
      rw [← hT] at K2
      have hi5 : i < 5 := by omega
      have hTl : T < 255 := by omega
      have hlim := Fp.limb_lt a i
      have hx := Nat.mod_lt a (Nat.pow_pos (n := T) (show 0 < 2 by omega))
      have hbit := Fp.limb_bit a i k (by omega)
      rw [← hT] at hbit
      obtain ⟨bt0, hb0⟩ : ∃ b, b = Fp.limb a i / 2 ^ k % 2 := ⟨_, rfl⟩
      have hb1 : bt0 ≤ 1 := by omega
      have hlt := Fp.byte_lt hx; have hp8 := Fp.pow8_le T
      have hm : bt0 * 2 ^ (T % 8) ≤ 1 * 2 ^ (T % 8) := Nat.mul_le_mul_right _ hb1
      have hdl : Fp.limb a i / 2 ^ k < 18446744073709551616 := Nat.lt_of_le_of_lt (Nat.div_le_self _ _) (by omega)
      refine wc_draw (by kernel_rfl) 20 rfl ?_; intro wd10 ex hd10
      replace G := G.ext ex; replace K2 := K2.ext ex
      refine wm_z 0 rfl (by kernel_rfl) (fun _ => y_move rfl) rfl ?_
      refine wm_z 1 rfl (by kernel_rfl) (fun _ => y_move rfl) rfl ?_
      refine wm_z 2 rfl (by kernel_rfl) (fun _ => y_move rfl) rfl ?_
      refine wm_z 3 rfl (by kernel_rfl) (fun _ => y_add rfl rfl (i64_nat (n := T) (by omega) (by omega))) rfl ?_
      refine wm_z 4 rfl (by kernel_rfl) (fun _ => y_quo rfl rfl (by omega) (show IntKind.i64.wrap ((T : Int).tdiv 8) = ((T / 8 : Nat) : Int) from i64_nat rfl (by omega))) rfl ?_
      refine wm_z 5 rfl (by kernel_rfl) (fun _ => y_ixs1 rfl rfl Try.underlying22 (by kernel_rfl) rfl (by omega)) rfl ?_
      refine wm_y 6 rfl (by kernel_rfl) (y_load1 rfl Try.underlying5 rfl (K2.get (v := .int .u8 ((a % 2 ^ T / 256 ^ (T / 8) : Nat) : Int)) (by rw [Nat.zero_add, bt_get _ rfl (by omega), Nat.mod_eq_of_lt (a := a % 2 ^ T / 256 ^ (T / 8)) (by omega)]))) rfl ?_
      refine wm_z 7 rfl (by kernel_rfl) (fun _ => y_move rfl) rfl ?_
      refine wm_z 8 rfl (by kernel_rfl) (fun _ => y_move rfl) rfl ?_
      refine wm_z 9 rfl (by kernel_rfl) (fun _ => y_shr rfl rfl (by omega) (shrv _ k (by omega))) rfl ?_
      refine wm_z 10 rfl (by kernel_rfl) (fun _ => y_and rfl rfl (show bits .and .u64 ((Fp.limb a i / 2 ^ k : Nat) : Int) 1 = (bt0 : Int) by rw [hb0]; exact and1 _ hdl)) rfl ?_
      refine wm_y 11 rfl (by kernel_rfl) (y_conv rfl Try.underlying59 Try.underlying5 (IntWalk.u8_in _ ⟨by omega, by omega⟩)) rfl ?_
      refine wm_z 12 rfl (by kernel_rfl) (fun _ => y_move rfl) rfl ?_
      refine wm_z 13 rfl (by kernel_rfl) (fun _ => y_move rfl) rfl ?_
      refine wm_z 14 rfl (by kernel_rfl) (fun _ => y_add rfl rfl (i64_nat (n := T) (by omega) (by omega))) rfl ?_
      refine wm_z 15 rfl (by kernel_rfl) (fun _ => y_rem rfl rfl (by omega) (show ((T : Int).tmod 8 = ((T % 8 : Nat) : Int)) from rfl)) rfl ?_
      refine wm_z 16 rfl (by kernel_rfl) (fun _ => y_shl rfl rfl (by omega) (shlv bt0 (T % 8) (by omega) (by omega))) rfl ?_
      refine wm_z 17 rfl (by kernel_rfl) (fun _ => y_or rfl rfl (orv _ _ _ hlt (by omega))) rfl ?_
      refine wm_z 18 rfl (by kernel_rfl) (fun _ => y_ixs1 rfl rfl Try.underlying22 (by kernel_rfl) rfl (by omega)) rfl ?_
      refine wm_one 19 (by kernel_rfl) ?_; refine om_ef rfl (ef_storeB rfl rfl rfl (by kernel_rfl) K2 (by rw [bt_size]; omega)) rfl ?_
      rintro _ w5 ⟨rfl, B5, cg⟩
      refine ⟨.inl rfl, ?_⟩
      rw [Nat.zero_add, bt_set] at B5; have G5 := G.chg cg hg2'
      refine wm_done (by kernel_rfl) ?_
      refine wq_nop ?_
      refine wq_blk_norm ?_
      refine wq_then_norm (hK14 ?_)
      refine wc_region ?_
      refine wl_y (y_add rfl rfl (i64_ok (by omega) (by omega))) rfl ?_
      refine wl_y (y_move rfl) rfl ?_
      refine wl_nil ?_
      refine wq_then_norm ?_
      refine hL2 _ _ ⟨k + 1, rfl, rfl, by omega, G5, B5.congr (bt_congr fun j _ => by
        rw [show 51 * i + (k + 1) = T + 1 by omega, Nat.mod_pow_succ, ← hbit, ← hb0, Nat.mul_comm (2 ^ T)]
        exact Fp.bit_step j hx hb1)⟩ (by omega) ⟨rfl, (by first | rfl | exact congrArg some (int_val (by omega))), (by first | rfl | exact congrArg some (int_val (by omega))), rfl, (by first | rfl | exact congrArg some (int_val (by omega))), (by first | rfl | exact congrArg some (int_val (by omega))), trivial⟩
    · skip
      refine wc_exit ?_
      refine wq_then_exit ?_
      refine wq_then_exit ?_
      refine wq_blk_hit ?_
      refine wq_blk_norm ?_
      refine wq_then_norm (hK8 ?_)
      refine wc_region ?_
      refine wl_y (y_add rfl rfl (i64_ok (by omega) (by omega))) rfl ?_
      refine wl_y (y_move rfl) rfl ?_
      refine wl_nil ?_
      refine wq_then_norm ?_
      refine hL1 _ _ ⟨i + 1, rfl, rfl, by omega, G, K2.congr (bt_congr fun j _ => by rw [show 51 * (i + 1) = 51 * i + k by omega])⟩ (by omega) ⟨rfl, rfl, (by first | rfl | exact congrArg some (int_val (by omega))), trivial⟩
  · skip
    refine wc_exit ?_
    refine wq_then_exit ?_
    refine wq_then_exit ?_
    refine wq_blk_hit ?_
    refine wq_then_norm (hK4 ?_)
    refine wc_seq ?_; intro K16 hK16
    refine wc_region ?_
    refine wl_y (y_move rfl) rfl ?_
    refine wl_y (y_assign rfl) rfl ?_
    refine wl_nil ?_
    refine wq_then_norm (hK16 ?_)
    refine wc_ret ?_
    refine hret rfl ?_
    obtain rfl : i = 5 := by omega
    refine ⟨g2, rfl, hg2', C2.congr ?_, F⟩
    rw [← bt_le]
    refine bt_congr fun j _ => ?_
    rw [Nat.mod_eq_of_lt (show a < 2 ^ (51 * 5) by unfold Fp.p at hal; omega)]
end
section
open Go.RowKit
attribute [local irreducible] Y Ef WL WC WK WQ WM OpM
theorem Big.digs_drop (u k : Nat) : (Big.digs u).drop k = Big.digs (u / 32768 ^ k) := by
  rcases Nat.lt_or_ge k (Big.digs u).length with h | h
  · have hv : Big.val ((Big.digs u).drop k) = u / 32768 ^ k := by
      have e := Big.val_take (Big.digs u) k
      rw [Big.val_digs, List.length_take, Nat.min_eq_left (by omega)] at e
      have hl := Big.val_lt _ (Big.ok_take (Big.ok_digs u) k)
      rw [List.length_take, Nat.min_eq_left (by omega)] at hl
      have e2 : u / 32768 ^ k = (Big.val ((Big.digs u).take k) + 32768 ^ k * Big.val ((Big.digs u).drop k)) / 32768 ^ k := by rw [← e]
      rw [e2, Nat.add_mul_div_left _ _ (Nat.pow_pos (by omega)), Nat.div_eq_of_lt hl, Nat.zero_add]
    rw [← hv]
    refine (Big.canon _ (Big.ok_drop (Big.ok_digs u) k) fun hne => ?_).symm
    have hne' : Big.digs u ≠ [] := fun e => by rw [e] at h; cases h
    rw [List.getLast_drop]
    exact Big.digs_last u hne'
  · rw [List.drop_of_length_le h]
    have h2 := Big.lt_pow_length u
    have h3 := Nat.pow_le_pow_right (n := 32768) (by omega) h
    rw [Nat.div_eq_of_lt (by omega)]
    rfl
theorem Ns.cutA {w : World} {k : IntKind} {A : Option Addr} {n c : Nat} {xs : List Nat} (h : Ns k w A n xs) {j : Nat} (hj : j ≤ n) (hc : n ≤ c) : Ns k w (cutA A c j 1) (n - j) (xs.drop j) := by
  refine ⟨by rw [List.length_drop, h.1], ?_⟩
  unfold Go.Proofs.Ytopimmomkapdoaa.cutA
  rw [Nat.mul_one]
  split
  · have : xs.drop j = [] := List.drop_of_length_le (by have := h.1; omega)
    rw [this]; exact .inl rfl
  · rcases h.2 with h0 | ⟨b, off, rfl, hcell⟩
    · left; have : xs = [] := by simpa using h0
      rw [this]; simp
    · refine .inr ⟨b, off + j, by rw [Option.map_some, Addr.add_plain], fun i u hu => ?_⟩
      rw [List.map_drop, List.getElem?_drop] at hu
      rw [Nat.add_assoc]
      exact hcell _ u hu
theorem Big.digs_take (u k : Nat) (h : k ≤ (Big.digs u).length) : Big.val ((Big.digs u).take k) = u % 32768 ^ k := by
  have e := Big.val_take (Big.digs u) k
  rw [Big.val_digs, List.length_take, Nat.min_eq_left h] at e
  have hl := Big.val_lt _ (Big.ok_take (Big.ok_digs u) k)
  rw [List.length_take, Nat.min_eq_left h] at hl
  have e2 : u % 32768 ^ k = (Big.val ((Big.digs u).take k) + 32768 ^ k * Big.val ((Big.digs u).drop k)) % 32768 ^ k := by rw [← e]
  rw [e2, Nat.add_mul_mod_self_left, Nat.mod_eq_of_lt hl]
theorem p_len : (Big.digs Fp.p).length ≤ 17 := Big.digs_length_le _ 17 (by decide)
theorem low_step17 (u : Nat) : (u % 32768 ^ 17 + u / 32768 ^ 17 * 19) % Fp.p = u % Fp.p := by
  have e := Nat.div_add_mod u (32768 ^ 17)
  have h : u = u % 32768 ^ 17 + u / 32768 ^ 17 * 19 + Fp.p * (u / 32768 ^ 17) := by
    rw [show (32768 : Nat) ^ 17 = 57896044618658097711785492504343953926634992332820282019728792003956564819968 from rfl] at e ⊢
    unfold Fp.p
    omega
  exact (Nat.add_mul_mod_self_left _ Fp.p (u / 32768 ^ 17)).symm.trans (by rw [← h])
end
section
open Go.RowKit
attribute [local irreducible] Y Ef WL WC WK WQ WM OpM
theorem Fp.num_drop_step (b : List UInt8) (j : Nat) (h : j < b.length) : Fp.num (b.drop j) = Fp.num (b.drop (j + 1)) * 256 + (b.getD j 0).toNat := by
  rw [List.drop_eq_getElem_cons h, Fp.num, List.getD_eq_getElem?_getD, List.getElem?_eq_getElem h]
  show _ = _ + (b[j]).toNat
  omega
theorem rof_any (A : Option Addr) (n c : Nat) (b : List UInt8) (w : World) (HA : Bs w A n b) (hn : n ≤ 900) :
    Calls Try.prog 34 #[.slice A n c] w fun e w' => ∃ A' n' c', e = .returned (.slice A' n' c') ∧ Bg w' A' n' (Fp.num b) ∧ n' ≤ c' ∧ n' ≤ n ∧ Ext w w' := by
  have hlb := HA.1
  refine vc_enter1 23 Try.func34 rfl rfl rfl rfl ?_
  intro Q hret
  refine wc_seq ?_; intro K1 hK1
  refine wc_region ?_
  refine wl_y (y_assign rfl) rfl ?_
  refine wl_nil ?_
  refine wq_then_norm (hK1 ?_)
  refine wc_seq ?_; intro K2 hK2
  refine wc_region ?_
  refine wl_y (y_assign rfl) rfl ?_
  refine wl_nil ?_
  refine wq_then_norm (hK2 ?_)
  refine wc_seq ?_; intro K3 hK3
  refine wc_seq ?_; intro K4 hK4
  refine wc_region ?_
  refine wl_y (y_move rfl) rfl ?_
  refine wl_y (y_len_slice rfl Try.underlying22) rfl ?_
  refine wl_y (y_sub rfl rfl (i64_ok (by omega) (by omega))) rfl ?_
  refine wl_y (y_assign rfl) rfl ?_
  refine wl_nil ?_
  refine wq_then_norm (hK4 ?_)
  refine wc_block ?_
  refine wc_loop (fun n' L wr => ∃ (j n5 c5 : Nat) (A5 : Option Addr), L = [(0, .slice A n c), (3, .slice A5 n5 c5), (4, .int .i64 ((j : Int) - 1))] ∧ n' = 0 + j ∧ (j ≤ n ∧ Ext w wr ∧ Bg wr A5 n5 (Fp.num (b.drop j)) ∧ n5 ≤ c5)) _ _ ⟨n, 0, 0, none, rfl, rfl, Nat.le_refl _, Ext.refl _, by rw [List.drop_of_length_le (by omega)]; exact Ns.nil _ _, Nat.le_refl _⟩ ⟨rfl, rfl, (by first | rfl | exact congrArg some (int_val (by omega))), trivial⟩ ?_
  rintro KL1 n' L wr ⟨j, n5, c5, A5, rfl, rfl, hj, E, H5, hc5⟩ hL1
  refine wc_seq ?_; intro K5 hK5
  refine wc_seq ?_; intro K6 hK6
  refine wc_region ?_
  refine wl_y (y_move rfl) rfl ?_
  refine wl_y (y_geq rfl rfl) rfl ?_
  refine wl_nil ?_
  refine wq_then_norm (hK6 ?_)
  refine wc_dec rfl (fun hc1 => ?_) (fun hc1 => ?_)
  · skip
    refine wc_skip ?_
    refine wq_then_norm (hK5 ?_)
    refine wc_seq ?_; intro K7 hK7
    refine wc_block ?_
    obtain ⟨j, rfl⟩ : ∃ i, j = i + 1 := ⟨j - 1, by omega⟩
    rw [show (((j + 1 : Nat) : Int) - 1) = (j : Int) by omega]
    obtain ⟨b1, off1, x, rfl, hx, hcx⟩ := (HA.ext E).byte (k := j) (by omega)
    have hst := Fp.num_drop_step b j (by omega)
    have hl5 := H5.len
    have hlen : n5 ≤ n := by
      have h := Fp.num_lt (b.drop (j + 1))
      rw [← hl5]
      refine Big.digs_length_le _ n (Nat.lt_of_lt_of_le h ?_)
      rw [List.length_drop]
      exact Nat.le_trans (Nat.pow_le_pow_left (show 256 ≤ 32768 by omega) _) (Nat.pow_le_pow_right (by omega) (by omega))
    have hxl := x.toNat_lt
    rw [← hx.out] at hst
    refine wc_draw (by kernel_rfl) 11 rfl ?_; intro wd5 ex hd5
    replace E := E.ext ex; replace H5 := H5.ext ex; replace hcx := (ex.cell (cell_lt hcx)).trans hcx
    refine wm_y 0 rfl (by kernel_rfl) (y_move rfl) rfl ?_
    refine wm_y 3 rfl (by kernel_rfl) (y_move rfl) rfl ?_
    refine wm_y 4 rfl (by kernel_rfl) (y_move rfl) rfl ?_
    refine wm_y 5 rfl (by kernel_rfl) (y_ixs1 rfl rfl Try.underlying22 (by kernel_rfl) rfl (by omega)) rfl ?_
    refine wm_y 6 rfl (by kernel_rfl) (y_load1 rfl Try.underlying5 rfl hcx) rfl ?_
    refine wm_y 7 rfl (by kernel_rfl) (y_conv rfl Try.underlying5 Try.underlying59 (IntWalk.u64_in _ ⟨by omega, by omega⟩)) rfl ?_
    refine wm_one 1 (by kernel_rfl) ?_; refine om_call rfl Try.func88 rfl rfl rfl (num_any 256 _ (by omega)) rfl ?_
    rintro e w1 ⟨A1, n1, c1, rfl, H1, k1, ex⟩
    refine ⟨_, rfl, .inr ex, ?_⟩
    have E1 := E.ext ex; have H5a := H5.ext ex; have hl1 := H1.len; have h1l := Big.digs_length_le 256 1 (by omega); replace hcx := (ex.cell (cell_lt hcx)).trans hcx
    refine wm_one 2 (by kernel_rfl) ?_; refine om_call rfl Try.func53 rfl rfl rfl (mul_any A5 A1 n5 c5 n1 c1 _ 256 _ H5a H1 (by omega) (by omega)) rfl ?_
    rintro e w2 ⟨A2, n2, c2, rfl, H2, h2, k2, ex⟩
    refine ⟨_, rfl, .inr ex, ?_⟩
    have E2 := E1.ext ex; replace hcx := (ex.cell (cell_lt hcx)).trans hcx
    refine wm_one 8 (by kernel_rfl) ?_; refine om_call rfl Try.func88 rfl rfl rfl (num_any x.toNat _ (by omega)) rfl ?_
    rintro e w3 ⟨A3, n3, c3, rfl, H3, k3, ex⟩
    refine ⟨_, rfl, .inr ex, ?_⟩
    have E3 := E2.ext ex; have H2a := H2.ext ex; have hl3 := H3.len; have h3l := Big.digs_length_le x.toNat 1 (by omega)
    refine wm_one 9 (by kernel_rfl) ?_; refine om_call rfl Try.func52 rfl rfl rfl (add_any A2 A3 n2 c2 n3 c3 _ _ _ H2a H3 (by omega) (by omega)) rfl ?_
    rintro e w4 ⟨A4, n4, c4, rfl, H4, h4, k4, ex⟩
    refine ⟨_, rfl, .inr ex, ?_⟩
    have E4 := E3.ext ex
    refine wm_y 10 rfl (by kernel_rfl) (y_assign rfl) rfl ?_
    refine wm_done (by kernel_rfl) ?_
    refine wq_nop ?_
    refine wq_blk_norm ?_
    refine wq_then_norm (hK7 ?_)
    refine wc_region ?_
    refine wl_y (y_move rfl) rfl ?_
    refine wl_y (y_sub rfl rfl (i64_ok (by omega) (by omega))) rfl ?_
    refine wl_y (y_assign rfl) rfl ?_
    refine wl_nil ?_
    refine wq_then_norm ?_
    refine hL1 _ _ ⟨j, n4, c4, A4, rfl, rfl, by omega, E4, H4.congr hst.symm, k4⟩ (by omega) ⟨rfl, rfl, (by first | rfl | exact congrArg some (int_val (by omega))), trivial⟩
  · skip
    refine wc_exit ?_
    refine wq_then_exit ?_
    refine wq_then_exit ?_
    refine wq_blk_hit ?_
    refine wq_then_norm (hK3 ?_)
    refine wc_seq ?_; intro K8 hK8
    refine wc_region ?_
    refine wl_y (y_move rfl) rfl ?_
    refine wl_y (y_assign rfl) rfl ?_
    refine wl_nil ?_
    refine wq_then_norm (hK8 ?_)
    refine wc_ret ?_
    refine hret rfl ?_
    obtain rfl : j = 0 := by omega
    rw [List.drop_zero] at H5
    refine ⟨A5, n5, c5, rfl, H5, hc5, ?_, E⟩
    have h := Fp.num_lt b
    rw [← H5.len]
    refine Big.digs_length_le _ n (Nat.lt_of_lt_of_le h ?_)
    rw [hlb]
    exact Nat.pow_le_pow_left (show 256 ≤ 32768 by omega) _
end
section
open Go.RowKit
attribute [local irreducible] Y Ef WL WC WK WQ WM OpM
theorem Row.cut {w : World} {base : Nat} {e : TypeId} {A : Option Addr} {n c : Nat} {xs : List Value} (h : Row w base e A n c xs) {k : Nat} (hk : k ≤ n) (h0 : 0 < k) : Row w base e A k c (xs.take k) := by
  have hl := h.len
  refine ⟨by rw [List.length_take]; omega, ?_⟩
  rcases h.2 with ⟨hv, rfl⟩ | ⟨g, cap, cur, hv, hb, hg, h1, h2, h3, h4⟩
  · simp at hl; omega
  · injection hv with hA hn hc
    subst hA; subst hc
    refine .inr ⟨g, c, cur, rfl, hb, hg, by omega, h2, h3, ?_⟩
    rw [← h4, List.take_take]
    congr 1
    omega
theorem Ns.app {w w' : World} {k : IntKind} {A B : Option Addr} {n c m : Nat} {ys : List Nat} (h : Ns k w B m ys) (hd : Dj A B) (hg : w.grownBy w' (Value.slice A n c).ownBlock) (hA : ∀ b o s, A = some ⟨b, o, s⟩ → s = none) : Ns k w' B m ys := by
  cases A with
  | none =>
    refine ⟨h.1, ?_⟩
    rcases h.2 with h0 | ⟨b, off, hB, hc⟩
    · exact .inl h0
    · exact .inr ⟨b, off, hB, fun j u hu => hg.cell (hc j u hu) (by simp [Value.ownBlock])⟩
  | some a =>
    obtain ⟨b8, o8, s8⟩ := a
    obtain rfl := hA b8 o8 s8 rfl
    exact Ns.grown h (g := b8) hg fun b off hB => fun e => hd b8 o8 b off rfl hB e.symm
theorem Fp.le_succ (i x : Nat) : Fp.le (i + 1) x = Fp.le i x ++ [UInt8.ofNat (x / 256 ^ i % 256)] := by
  unfold Fp.le; rw [List.range_succ, List.map_append]; rfl
theorem rbytes_any (A : Option Addr) (n c k v : Nat) (w : World) (HA : Bg w A n v) (hn : n ≤ 1000) (hk : k ≤ 1000) :
    Calls Try.prog 42 #[.slice A n c, .int .i64 (k : Int)] w fun e w' => ∃ A' c', e = .returned (.slice A' k c') ∧ Bs w' A' k (Fp.le k v) ∧ Ext w w' := by
  have hln := HA.len
  refine vc_enter1 28 Try.func42 rfl rfl rfl rfl ?_
  intro Q hret
  refine wc_seq ?_; intro K1 hK1
  refine wc_region ?_
  refine wl_y (y_assign rfl) rfl ?_
  refine wl_nil ?_
  refine wq_then_norm (hK1 ?_)
  refine wc_seq ?_; intro K2 hK2
  refine wc_region ?_
  refine wl_y (y_assign rfl) rfl ?_
  refine wl_nil ?_
  refine wq_then_norm (hK2 ?_)
  refine wc_seq ?_; intro K3 hK3
  refine wc_seq ?_; intro K4 hK4
  refine wc_region ?_
  refine wl_y (y_assign rfl) rfl ?_
  refine wl_nil ?_
  refine wq_then_norm (hK4 ?_)
  refine wc_block ?_
  refine wc_loop (fun n' L wr => ∃ (i n5 c5 c8 : Nat) (A5 A8 : Option Addr), L = [(0, .slice A5 n5 c5), (1, .int .i64 (k : Int)), (5, .slice A8 i c8), (6, .int .i64 (i : Int))] ∧ n' = k - i ∧ (i ≤ k ∧ Ext w wr ∧ Bg wr A5 n5 (v / 256 ^ i) ∧ Row wr w.heap.size 5 A8 i c8 ((Fp.le i v).map bv))) _ _ ⟨0, n, c, 0, A, none, rfl, rfl, by omega, Ext.refl _, HA.congr (by rw [Nat.pow_zero, Nat.div_one]), Row.empty _ _ _⟩ ⟨rfl, (by first | rfl | exact congrArg some (int_val (by omega))), rfl, (by first | rfl | exact congrArg some (int_val (by omega))), trivial⟩ ?_
  rintro KL1 n' L wr ⟨i, n5, c5, c8, A5, A8, rfl, rfl, hi, E, H5, R⟩ hL1
  refine wc_seq ?_; intro K5 hK5
  refine wc_seq ?_; intro K6 hK6
  refine wc_region ?_
  refine wl_y (y_move rfl) rfl ?_
  refine wl_y (y_move rfl) rfl ?_
  refine wl_y (y_lss rfl rfl) rfl ?_
  refine wl_nil ?_
  refine wq_then_norm (hK6 ?_)
  refine wc_dec rfl (fun hc1 => ?_) (fun hc1 => ?_)
  · skip
    refine wc_skip ?_
    refine wq_then_norm (hK5 ?_)
    refine wc_seq ?_; intro K7 hK7
    refine wc_block ?_
    refine wc_seq ?_; intro K8 hK8
    have hl5 := H5.len
    have hle := Big.length_le (Nat.div_le_self v (256 ^ i))
    refine wc_region ?_
    refine wl_y (y_move rfl) rfl ?_
    refine wl_call Try.func88 rfl rfl rfl (num_any 256 _ (by omega)) rfl ?_
    rintro e w1 ⟨A1, n1, c1, rfl, H1, k1, ex⟩
    refine ⟨_, rfl, ?_⟩
    have E1 := E.ext ex; have H5a := H5.ext ex; have hl1 := H1.len; have h1l := Big.digs_length_le 256 1 (by omega); have R1 := R.ext ex
    refine wl_call Try.func103 rfl rfl rfl (div_any A5 A1 n5 c5 n1 c1 _ 256 _ H5a H1 (by omega) (by omega) (by omega)) rfl ?_
    rintro e w2 ⟨A2, n2, c2, A3, n3, c3, rfl, H2, H3, k2, k3, kf, ex⟩
    refine ⟨_, rfl, ?_⟩
    have E2 := E1.ext ex; have R2 := R1.ext ex; have hl3 := H3.len; have h3l := Big.digs_length_le (v / 256 ^ i % 256) 1 (by omega)
    refine wl_y (y_move rfl) rfl ?_
    refine wl_y (y_extract rfl rfl) rfl ?_
    refine wl_y (y_extract rfl rfl) rfl ?_
    refine wl_y (y_assign rfl) rfl ?_
    refine wl_y (y_assign rfl) rfl ?_
    refine wl_nil ?_
    refine wq_then_norm (hK8 ?_)
    refine wc_seq ?_; intro K9 hK9
    refine wc_region ?_
    refine wl_y (y_move rfl) rfl ?_
    refine wl_y (y_move rfl) rfl ?_
    refine wl_call Try.func104 rfl rfl rfl (low_any A3 n3 c3 _ _ H3 (by omega)) rfl ?_
    rintro e w3 ⟨rfl, ex⟩
    refine ⟨_, rfl, ?_⟩
    have E3 := E2.ext ex; have R3 := R2.ext ex; have H2a := H2.ext ex; rw [Nat.mod_eq_of_lt (show v / 256 ^ i % 256 < 18446744073709551616 by omega)]
    refine wl_y (y_conv rfl Try.underlying59 Try.underlying5 (show IntKind.u8.wrap ((v / 256 ^ i % 256 : Nat) : Int) = ((UInt8.ofNat (v / 256 ^ i % 256)).toNat : Int) by rw [IntKind.wrap_u8', UInt8.toNat_ofNat']; omega)) rfl ?_
    refine wl_ef (ef_lit (z := .int .u8 0) Try.underlying22 (by kernel_rfl) rfl rfl rfl rfl rfl) rfl ?_
    rintro _ w4 ⟨g4, rfl, B4, hg4, ex⟩
    have E4 := E3.ext ex; have R4 := R3.ext ex; have H2b := H2a.ext ex; have hs4 := E4.size
    refine wl_ef (ef_app rfl rfl eltB R4 (At.blk (vs := [UInt8.ofNat (v / 256 ^ i % 256)].map bv) (B4.congr (by rfl))) rfl (by intro u hu; exact bv_one u hu) (by omega) (by omega) hs4) rfl ?_
    rintro _ w5 ⟨A6, c6, rfl, R6, be, gr, hl⟩
    have E5 := E4.trans be; have R7 := R6.cat; rw [← Fp.le_succ] at R7; have H2c : Bg w5 A2 n2 (v / 256 ^ i / 256) := Ns.app H2b (fun b o b' o' h1 h2 e => by subst h1; subst h2; have := (Row.lt R1).2; have := kf _ _ rfl; omega) gr R1.none_s
    refine wl_y (y_assign rfl) rfl ?_
    refine wl_nil ?_
    refine wq_then_norm (hK9 ?_)
    refine wc_region ?_
    refine wl_y (y_move rfl) rfl ?_
    refine wl_y (y_assign rfl) rfl ?_
    refine wl_nil ?_
    refine wq_blk_norm ?_
    refine wq_then_norm (hK7 ?_)
    refine wc_region ?_
    refine wl_y (y_move rfl) rfl ?_
    refine wl_y (y_add rfl rfl (i64_ok (by omega) (by omega))) rfl ?_
    refine wl_y (y_assign rfl) rfl ?_
    refine wl_nil ?_
    refine wq_then_norm ?_
    refine hL1 _ _ ⟨i + 1, n2, c2, c6, A2, A6, rfl, rfl, by omega, E5, H2c.congr (by rw [Nat.div_div_eq_div_mul, Nat.pow_succ]), R7⟩ (by omega) ⟨rfl, (by first | rfl | exact congrArg some (int_val (by omega))), rfl, (by first | rfl | exact congrArg some (int_val (by omega))), trivial⟩
  · skip
    refine wc_exit ?_
    refine wq_then_exit ?_
    refine wq_then_exit ?_
    refine wq_blk_hit ?_
    refine wq_then_norm (hK3 ?_)
    refine wc_seq ?_; intro K10 hK10
    refine wc_region ?_
    refine wl_y (y_move rfl) rfl ?_
    refine wl_y (y_assign rfl) rfl ?_
    refine wl_nil ?_
    refine wq_then_norm (hK10 ?_)
    refine wc_ret ?_
    refine hret rfl ?_
    obtain rfl : i = k := by omega
    exact ⟨A8, c8, rfl, R.bs, E⟩
end
end Go.Proofs.Ytopimmomkapdoaa
