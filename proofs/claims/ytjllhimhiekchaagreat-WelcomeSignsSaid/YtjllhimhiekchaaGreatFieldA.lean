/- The field's carry and least: what they hand back, by limbs. -/
import Derived.Test.YtjllhimhiekchaaGreatVc7
import Derived.Test.YtjllhimhiekchaaGreatFieldS
import Derived.Test.YtjllhimhiekchaaGreatBigC
namespace Go.Proofs.YtjllhimhiekchaaGreat
open Go.RowKit
attribute [local irreducible] Y Ef WL WC WK WQ WM OpM
def fe (f : Nat → Nat) : Array Value := nums .u64 (Fp.fn 5 f)
theorem fe_size (f : Nat → Nat) : (fe f).size = 5 := by rw [fe, nums_size, Fp.fn_length]
theorem fe_get (f : Nat → Nat) {i j : Nat} (hi : i = j) (h : j < 5) : (fe f)[i]? = some (.int .u64 (f j : Nat)) := by
 subst hi; rw [fe, nums_get _ _ _ (by rw [Fp.fn_length]; exact h), Fp.fn_get f h]
theorem fe_set (f : Nat → Nat) (i x : Nat) : (fe f).setIfInBounds i (.int .u64 (x : Int)) = fe (fun j => if j = i then x else f j) := by
 rw [fe, nums_set, Fp.fn_set, fe]
theorem fe_one (f : Nat → Nat) : (fe f).all (·.oneCell') = true := nums_one _ _
theorem fe_congr {f g : Nat → Nat} (h : ∀ j, j < 5 → f j = g j) : fe f = fe g := by unfold fe; rw [Fp.fn_congr h]
theorem shr51 (x : Nat) (_ : x < 18446744073709551616) : (x : Int) / 2 ^ (min (51 : Int).toNat IntKind.u64.bits) = ((x / 2251799813685248 : Nat) : Int) := by
 rw [show (2 : Int) ^ (min (51 : Int).toNat IntKind.u64.bits) = ((2251799813685248 : Nat) : Int) from rfl]
 exact (Int.natCast_ediv _ _).symm
theorem and51 (x : Nat) (hx : x < 18446744073709551616) : bits .and .u64 (x : Int) 2251799813685247 = ((x % 2251799813685248 : Nat) : Int) := by
 have h := (bits_u64 (p := x) (q := 2251799813685247) hx (by omega)).1
 rw [show ((2251799813685247 : Int)) = ((2251799813685247 : Nat) : Int) from rfl, h, show (2251799813685247 : Nat) = 2 ^ 51 - 1 from rfl, Nat.and_two_pow_sub_one_eq_mod]
theorem carry_any (f : Nat → Nat) (w : World) (hf : ∀ j, j < 5 → f j < 18446744073709551616) :
  Calls Tryz.prog 219 #[.agg (fe f)] w fun e w' => e = .returned (.agg (fe (Fp.carry f))) ∧ Ext w w' := by
 refine vc_enterc1 (s := 5) 46 Tryz.func219 rfl rfl rfl Tryz.underlying135 rfl (by kernel_rfl) rfl ?_
 intro Q hret
 refine wc_seq ?_; intro K1 hK1
 refine wc_region ?_
 refine wl_ef (ef_box (cs := fe f) rfl rfl) rfl ?_
 rintro _ w1 ⟨g1, rfl, B1, hg1, ex⟩
 have E1 := ex
 refine wl_ef (ef_alloc (Z := fe (fun _ => 0)) (by kernel_rfl)) rfl ?_
 rintro _ w2 ⟨g2, rfl, B2, hg2, ex⟩
 have E2 := E1.ext ex; have B1' := B1.ext ex
 refine wl_nil ?_
 refine wq_then_norm (hK1 ?_)
 refine wc_seq ?_; intro K2 hK2
 refine wc_region ?_
 refine wl_y (y_build rfl (cells := fe (fun _ => 0)) (by kernel_rfl)) rfl ?_
 refine wl_ef (ef_alloc (Z := fe (fun _ => 0)) (by kernel_rfl)) rfl ?_
 rintro _ w3 ⟨g3, rfl, B3, hg3, ex⟩
 have E3 := E2.ext ex; have B1q := B1'.ext ex; have hg3' : w.heap.size ≤ g3 := Nat.le_trans E2.size hg3; have B2' := B2.ext ex
 refine wl_ef (ef_storeW rfl rfl (by kernel_rfl) B3 rfl (fe_one _)) rfl ?_
 rintro _ w4 ⟨rfl, B4, cg⟩
 have E4 := E3.chg cg hg3'; have hl1 := B1'.lt; have hl2 := B2.lt; have B1z := B1q.chg cg (by omega); have B2z := B2'.chg cg (by omega); replace B4 : Blk w4 g3 133 (fe (fun _ => 0)) := B4
 refine wl_nil ?_
 refine wq_then_norm (hK2 ?_)
 refine wc_seq ?_; intro K3 hK3
 refine wc_seq ?_; intro K4 hK4
 refine wc_region ?_
 refine wl_y (y_fieldAddr (o := 0) (s := 5) (off := 0) (o' := 0) rfl Tryz.underlying135 rfl (by kernel_rfl) rfl rfl) rfl ?_
 refine wl_y (y_loadw rfl Tryz.underlying133 rfl (by kernel_rfl) B1z) rfl ?_
 refine wl_y (y_move rfl) rfl ?_
 refine wl_nil ?_
 refine wq_then_norm (hK4 ?_)
 refine wc_block ?_
 refine wc_loop (fun n' L wr => ∃ i : Nat, L = [(1, .pointer (some ⟨g1, 0, none⟩)), (2, .pointer (some ⟨g2, 0, none⟩)), (3, .pointer (some ⟨g3, 0, none⟩)), (12, .agg (fe f)), (13, .int .i64 (i : Int))] ∧ n' = 5 - i ∧ (i ≤ 5 ∧ Ext w wr ∧ Blk wr g1 135 (fe f) ∧ Blk wr g2 135 (fe (fun _ => 0)) ∧ Blk wr g3 133 (fe (fun j => if j < i then f j / 2251799813685248 else 0)))) _ _ ⟨0, rfl, rfl, by omega, E4, B1z, B2z, B4⟩ ⟨rfl, rfl, rfl, rfl, (by first | rfl | exact congrArg some (int_val (by omega))), trivial⟩ ?_
 rintro KL1 n' L wr ⟨i, rfl, rfl, hi, F, C1, C2, C3⟩ hL1
 refine wc_seq ?_; intro K5 hK5
 refine wc_region ?_
 refine wl_y (y_lss rfl rfl) rfl ?_
 refine wl_nil ?_
 refine wq_then_norm (hK5 ?_)
 refine wc_seq ?_; intro K6 hK6
 refine wc_dec rfl (fun hc1 => ?_) (fun hc1 => ?_)
 ·skip
  refine wc_skip ?_
  refine wq_then_norm (hK6 ?_)
  refine wc_seq ?_; intro K7 hK7
  refine wc_block ?_
  refine wc_seq ?_; intro K8 hK8
  refine wc_region ?_
  refine wl_y (y_move rfl) rfl ?_
  refine wl_y (y_ix1 rfl rfl Tryz.underlying133 Tryz.underlying38 rfl (by kernel_rfl) rfl (by omega) (fe_get f rfl (by omega))) rfl ?_
  refine wl_y (y_assign rfl) rfl ?_
  refine wl_y (y_assign rfl) rfl ?_
  refine wl_nil ?_
  refine wq_then_norm (hK8 ?_)
  refine wc_region ?_
  refine wl_y (y_move rfl) rfl ?_
  refine wl_y (y_move rfl) rfl ?_
  refine wl_y (y_shr rfl rfl (by omega) (shr51 _ (hf i (by omega)))) rfl ?_
  refine wl_y (y_ixa1 rfl rfl Tryz.underlying133 (by kernel_rfl) rfl (by omega)) rfl ?_
  refine wl_ef (ef_storeB rfl rfl rfl (by kernel_rfl) C3 (by rw [fe_size]; omega)) rfl ?_
  rintro _ w5 ⟨rfl, B5, cg⟩
  rw [Nat.zero_add, fe_set] at B5; have F5 := F.chg cg hg3'; have D1 := C1.chg cg (by omega); have D2 := C2.chg cg (by omega)
  refine wl_nil ?_
  refine wq_blk_norm ?_
  refine wq_then_norm (hK7 ?_)
  refine wc_region ?_
  refine wl_y (y_add rfl rfl (i64_ok (by omega) (by omega))) rfl ?_
  refine wl_y (y_move rfl) rfl ?_
  refine wl_nil ?_
  refine wq_then_norm ?_
  refine hL1 _ _ ⟨i + 1, rfl, rfl, by omega, F5, D1, D2, B5.congr (fe_congr fun j hj => by split <;> split <;> (try split) <;> (first | omega | rfl | (exfalso; omega) | (subst_vars; rfl)))⟩ (by omega) ⟨rfl, rfl, rfl, rfl, (by first | rfl | exact congrArg some (int_val (by omega))), trivial⟩
 ·skip
  refine wc_exit ?_
  refine wq_then_exit ?_
  refine wq_then_exit ?_
  refine wq_blk_hit ?_
  refine wq_then_norm (hK3 ?_)
  refine wc_seq ?_; intro K9 hK9
  refine wc_region ?_
  refine wl_ef (ef_alloc (Z := fe (fun _ => 0)) (by kernel_rfl)) rfl ?_
  rintro _ w6 ⟨g6, rfl, B6, hg6, ex⟩
  have E6 := F.ext ex; have D1 := C1.ext ex; have D2 := C2.ext ex; have D3 := C3.ext ex; have hg6' : w.heap.size ≤ g6 := Nat.le_trans F.size hg6; have hl3 := C3.lt; have hl1' := C1.lt; have hl2' := C2.lt
  refine wl_nil ?_
  refine wq_then_norm (hK9 ?_)
  refine wc_seq ?_; intro K10 hK10
  refine wc_seq ?_; intro K11 hK11
  refine wc_region ?_
  refine wl_y (y_fieldAddr (o := 0) (s := 5) (off := 0) (o' := 0) rfl Tryz.underlying135 rfl (by kernel_rfl) rfl rfl) rfl ?_
  refine wl_y (y_loadw rfl Tryz.underlying133 rfl (by kernel_rfl) D1) rfl ?_
  refine wl_y (y_move rfl) rfl ?_
  refine wl_nil ?_
  refine wq_then_norm (hK11 ?_)
  refine wc_block ?_
  refine wc_loop (fun n' L wq => ∃ k : Nat, L = [(2, .pointer (some ⟨g2, 0, none⟩)), (3, .pointer (some ⟨g3, 0, none⟩)), (6, .pointer (some ⟨g6, 0, none⟩)), (23, .agg (fe f)), (24, .int .i64 (k : Int))] ∧ n' = 5 - k ∧ (k ≤ 5 ∧ Ext w wq ∧ Blk wq g2 135 (fe (fun _ => 0)) ∧ Blk wq g3 133 (fe (fun j => if j < i then f j / 2251799813685248 else 0)) ∧ Blk wq g6 135 (fe (fun j => if j < k then Fp.carry f j else 0)))) _ _ ⟨0, rfl, rfl, by omega, E6, D2, D3, B6⟩ ⟨rfl, rfl, rfl, rfl, (by first | rfl | exact congrArg some (int_val (by omega))), trivial⟩ ?_
  rintro KL2 n' L wq ⟨k, rfl, rfl, hk, G, K2, K3, K6⟩ hL2
  refine wc_seq ?_; intro K12 hK12
  refine wc_region ?_
  refine wl_y (y_lss rfl rfl) rfl ?_
  refine wl_nil ?_
  refine wq_then_norm (hK12 ?_)
  refine wc_seq ?_; intro K13 hK13
  refine wc_dec rfl (fun hc2 => ?_) (fun hc2 => ?_)
  ·skip
   refine wc_skip ?_
   refine wq_then_norm (hK13 ?_)
   refine wc_seq ?_; intro K14 hK14
   refine wc_block ?_
   refine wc_seq ?_; intro K15 hK15
   refine wc_region ?_
   refine wl_y (y_move rfl) rfl ?_
   refine wl_y (y_ix1 rfl rfl Tryz.underlying133 Tryz.underlying38 rfl (by kernel_rfl) rfl (by omega) (fe_get f rfl (by omega))) rfl ?_
   refine wl_y (y_assign rfl) rfl ?_
   refine wl_y (y_assign rfl) rfl ?_
   refine wl_nil ?_
   refine wq_then_norm (hK15 ?_)
   refine wc_seq ?_; intro K16 hK16
   have hi5 : i = 5 := by omega
   refine wc_region ?_
   refine wl_y (y_move rfl) rfl ?_
   refine wl_y (y_add rfl rfl (i64_nat (n := k + 4) (by omega) (by omega))) rfl ?_
   refine wl_y (y_rem rfl rfl (by omega) (show (((k + 4 : Nat) : Int).tmod 5 = (((k + 4) % 5 : Nat) : Int)) from rfl)) rfl ?_
   refine wl_y (y_ixa1 rfl rfl Tryz.underlying133 (by kernel_rfl) rfl (by omega)) rfl ?_
   refine wl_y (y_load1 rfl Tryz.underlying38 rfl (K3.get (fe_get _ (by rw [Nat.zero_add]) (by omega)))) rfl ?_
   refine wl_y (y_assign rfl) rfl ?_
   refine wl_nil ?_
   obtain ⟨c, hc⟩ : ∃ c, c = (if (k + 4) % 5 < i then f ((k + 4) % 5) / 2251799813685248 else 0) := ⟨_, rfl⟩
   rw [← hc]
   have hcl : c < 8192 := by rw [hc]; have := hf ((k + 4) % 5) (by omega); split <;> omega
   have hkl := hf k (by omega)
   refine wq_then_norm (hK16 ?_)
   refine wc_seq ?_; intro K17 hK17
   refine wc_seq ?_; intro K18 hK18
   refine wc_region ?_
   refine wl_y (y_move rfl) rfl ?_
   refine wl_y (y_eql rfl rfl) rfl ?_
   refine wl_nil ?_
   refine wq_then_norm (hK18 ?_)
   refine wc_dec rfl (fun hc3 => ?_) (fun hc3 => ?_)
   ·skip
    refine wc_region ?_
    refine wl_y (y_move rfl) rfl ?_
    refine wl_y (y_mul rfl rfl (u64_nat (n := c * 19) (by omega) (by omega))) rfl ?_
    refine wl_y (y_assign rfl) rfl ?_
    refine wl_nil ?_
    refine wq_then_norm (hK17 ?_)
    refine wc_region ?_
    refine wl_y (y_move rfl) rfl ?_
    refine wl_y (y_move rfl) rfl ?_
    refine wl_y (y_and rfl rfl (and51 _ (hf k (by omega)))) rfl ?_
    refine wl_y (y_move rfl) rfl ?_
    refine wl_y (y_add rfl rfl (u64_nat (n := f k % 2251799813685248 + c * 19) (by omega) (by omega))) rfl ?_
    refine wl_y (y_fieldAddr (o := 0) (s := 5) (off := 0) (o' := 0) rfl Tryz.underlying135 rfl (by kernel_rfl) rfl rfl) rfl ?_
    refine wl_y (y_ixa1 rfl rfl Tryz.underlying133 (by kernel_rfl) rfl (by omega)) rfl ?_
    refine wl_ef (ef_storeB rfl rfl rfl (by kernel_rfl) K6 (by rw [fe_size]; omega)) rfl ?_
    rintro _ w7 ⟨rfl, B7, cg⟩
    rw [Nat.zero_add, fe_set] at B7; have G7 := G.chg cg hg6'; have L2 := K2.chg cg (by omega); have L3 := K3.chg cg (by omega)
    refine wl_nil ?_
    refine wq_blk_norm ?_
    refine wq_then_norm (hK14 ?_)
    refine wc_region ?_
    refine wl_y (y_add rfl rfl (i64_ok (by omega) (by omega))) rfl ?_
    refine wl_y (y_move rfl) rfl ?_
    refine wl_nil ?_
    refine wq_then_norm ?_
    refine hL2 _ _ ⟨k + 1, rfl, rfl, by omega, G7, L2, L3, B7.congr (fe_congr fun j hj => by
     have hk0 : k = 0 := by omega
     subst hk0
     by_cases hj0 : j = 0
     ·subst hj0; rw [if_pos rfl, if_pos (by omega), hc, if_pos (by omega)]; rfl
     ·rw [if_neg hj0, if_neg (by omega), if_neg (by omega)])⟩ (by omega) ⟨rfl, rfl, rfl, rfl, (by first | rfl | exact congrArg some (int_val (by omega))), trivial⟩
   ·skip
    refine wc_skip ?_
    refine wq_then_norm (hK17 ?_)
    refine wc_region ?_
    refine wl_y (y_move rfl) rfl ?_
    refine wl_y (y_move rfl) rfl ?_
    refine wl_y (y_and rfl rfl (and51 _ (hf k (by omega)))) rfl ?_
    refine wl_y (y_move rfl) rfl ?_
    refine wl_y (y_add rfl rfl (u64_nat (n := f k % 2251799813685248 + c) (by omega) (by omega))) rfl ?_
    refine wl_y (y_fieldAddr (o := 0) (s := 5) (off := 0) (o' := 0) rfl Tryz.underlying135 rfl (by kernel_rfl) rfl rfl) rfl ?_
    refine wl_y (y_ixa1 rfl rfl Tryz.underlying133 (by kernel_rfl) rfl (by omega)) rfl ?_
    refine wl_ef (ef_storeB rfl rfl rfl (by kernel_rfl) K6 (by rw [fe_size]; omega)) rfl ?_
    rintro _ w7 ⟨rfl, B7, cg⟩
    rw [Nat.zero_add, fe_set] at B7; have G7 := G.chg cg hg6'; have L2 := K2.chg cg (by omega); have L3 := K3.chg cg (by omega)
    refine wl_nil ?_
    refine wq_blk_norm ?_
    refine wq_then_norm (hK14 ?_)
    refine wc_region ?_
    refine wl_y (y_add rfl rfl (i64_ok (by omega) (by omega))) rfl ?_
    refine wl_y (y_move rfl) rfl ?_
    refine wl_nil ?_
    refine wq_then_norm ?_
    refine hL2 _ _ ⟨k + 1, rfl, rfl, by omega, G7, L2, L3, B7.congr (fe_congr fun j hj => by
     by_cases hj0 : j = k
     ·subst hj0; rw [if_pos rfl, if_pos (by omega), hc, if_pos (by omega), Fp.carry, if_neg (by omega), show (j + 4) % 5 = j - 1 by omega]
     ·rw [if_neg hj0]; by_cases h2 : j < k
      ·rw [if_pos h2, if_pos (by omega)]
      ·rw [if_neg h2, if_neg (by omega)])⟩ (by omega) ⟨rfl, rfl, rfl, rfl, (by first | rfl | exact congrArg some (int_val (by omega))), trivial⟩
  ·skip
   refine wc_exit ?_
   refine wq_then_exit ?_
   refine wq_then_exit ?_
   refine wq_blk_hit ?_
   refine wq_then_norm (hK10 ?_)
   refine wc_seq ?_; intro K19 hK19
   refine wc_region ?_
   refine wl_y (y_loadw rfl Tryz.underlying135 rfl (by kernel_rfl) K6) rfl ?_
   refine wl_ef (ef_storeW rfl rfl (by rw [fe_size]; kernel_rfl) K2 (by rw [fe_size, fe_size]) (fe_one _)) rfl ?_
   rintro _ w8 ⟨rfl, B8, cg⟩
   have G8 := G.chg cg (Nat.le_trans E1.size hg2)
   refine wl_nil ?_
   refine wq_then_norm (hK19 ?_)
   refine wc_ret ?_
   refine hret rfl B8 (fe_size _) ?_
   exact ⟨by rw [fe_congr (g := Fp.carry f) fun j hj => by rw [if_pos (by omega)]], G8⟩
theorem least_any (f : Nat → Nat) (w : World) (hf : Fp.small f) :
  Calls Tryz.prog 225 #[.agg (fe f)] w fun e w' => e = .returned (.agg (fe (Fp.limb (Fp.val f % Fp.p)))) ∧ Ext w w' := by
 obtain ⟨h, hh⟩ : ∃ h, h = Fp.carry (Fp.carry f) := ⟨_, rfl⟩
 have hs := Fp.carry_small (f := f) (fun j hj => by have := hf j hj; omega)
 have hb : ∀ j, j < 5 → h j < 2251799813685248 + 19 := fun j hj => by rw [hh]; exact Fp.carry_lt2 hs j hj
 have hb' : ∀ j, j < 5 → h j < 4503599627370496 := fun j hj => by have := hb j hj; omega
 have hend : ∀ j, j < 5 → (h j + Fp.rc h (Fp.qc h 5) j) % 2251799813685248 = Fp.limb (Fp.val f % Fp.p) j := fun j hj => Fp.least_eq hf hh j hj
 refine vc_enterc1 (s := 5) 64 Tryz.func225 rfl rfl rfl Tryz.underlying135 rfl (by kernel_rfl) rfl ?_
 intro Q hret
 refine wc_seq ?_; intro K1 hK1
 refine wc_region ?_
 refine wl_ef (ef_box (cs := fe f) rfl rfl) rfl ?_
 rintro _ w1 ⟨g1, rfl, B1, hg1, ex⟩
 have E1 := ex; have hl1 := B1.lt
 refine wl_ef (ef_alloc (Z := fe (fun _ => 0)) (by kernel_rfl)) rfl ?_
 rintro _ w2 ⟨g2, rfl, B2, hg2, ex⟩
 have E2 := E1.ext ex; have B1' := B1.ext ex; have hg2' : w.heap.size ≤ g2 := Nat.le_trans E1.size hg2
 refine wl_nil ?_
 refine wq_then_norm (hK1 ?_)
 refine wc_seq ?_; intro K2 hK2
 refine wc_region ?_
 refine wl_y (y_loadw rfl Tryz.underlying135 rfl (by kernel_rfl) B1') rfl ?_
 refine wl_call Tryz.func219 rfl rfl rfl (carry_any f _ (fun j hj => by have := hf j hj; omega)) rfl ?_
 rintro e w3 ⟨rfl, ex⟩
 refine ⟨_, rfl, ?_⟩
 have E3 := E2.ext ex; have C1 := B1'.ext ex; have C2 := B2.ext ex
 refine wl_call Tryz.func219 rfl rfl rfl (carry_any _ _ (fun j hj => by have := hs j hj; omega)) rfl ?_
 rintro e w4 ⟨rfl, ex⟩
 refine ⟨_, rfl, ?_⟩
 rw [← hh]; have E4 := E3.ext ex; have D1 := C1.ext ex; have D2 := C2.ext ex
 refine wl_ef (ef_storeW rfl rfl (by rw [fe_size]; kernel_rfl) D1 (by rw [fe_size, fe_size]) (fe_one _)) rfl ?_
 rintro _ w5 ⟨rfl, B5, cg⟩
 have E5 := E4.chg cg hg1; have D5 := D2.chg cg (by omega)
 refine wl_nil ?_
 refine wq_then_norm (hK2 ?_)
 refine wc_seq ?_; intro K3 hK3
 refine wc_region ?_
 refine wl_y (y_fieldAddr (o := 0) (s := 5) (off := 0) (o' := 0) rfl Tryz.underlying135 rfl (by kernel_rfl) rfl rfl) rfl ?_
 refine wl_y (y_ixa1 rfl rfl Tryz.underlying133 (by kernel_rfl) (j := 0) rfl (by omega)) rfl ?_
 refine wl_y (y_load1 rfl Tryz.underlying38 rfl (B5.get (fe_get h (j := 0) rfl (by omega)))) rfl ?_
 refine wl_y (y_add rfl rfl (u64_nat (n := h 0 + 19) (by omega) (by have := hb 0 (by omega); omega))) rfl ?_
 refine wl_y (y_shr rfl rfl (by omega) (shr51 _ (by have := hb 0 (by omega); omega))) rfl ?_
 refine wl_y (y_assign rfl) rfl ?_
 refine wl_nil ?_
 refine wq_then_norm (hK3 ?_)
 refine wc_seq ?_; intro K4 hK4
 refine wc_seq ?_; intro K5 hK5
 refine wc_region ?_
 refine wl_y (y_assign rfl) rfl ?_
 refine wl_nil ?_
 refine wq_then_norm (hK5 ?_)
 refine wc_block ?_
 refine wc_loop (fun n' L wr => ∃ i : Nat, L = [(1, .pointer (some ⟨g1, 0, none⟩)), (2, .pointer (some ⟨g2, 0, none⟩)), (3, .int .u64 ((Fp.qc h i : Nat) : Int)), (4, .int .i64 (i : Int))] ∧ n' = 5 - i ∧ (i ≤ 5 ∧ wr = w5)) _ _ ⟨1, rfl, rfl, by omega, rfl⟩ ⟨rfl, rfl, (by first | rfl | exact congrArg some (int_val (by omega))), (by first | rfl | exact congrArg some (int_val (by omega))), trivial⟩ ?_
 rintro KL1 n' L wr ⟨i, rfl, rfl, hi, hw⟩ hL1
 refine wc_seq ?_; intro K6 hK6
 refine wc_seq ?_; intro K7 hK7
 refine wc_region ?_
 refine wl_y (y_move rfl) rfl ?_
 refine wl_y (y_lss rfl rfl) rfl ?_
 refine wl_nil ?_
 refine wq_then_norm (hK7 ?_)
 refine wc_dec rfl (fun hc1 => ?_) (fun hc1 => ?_)
 ·skip
  refine wc_skip ?_
  refine wq_then_norm (hK6 ?_)
  refine wc_seq ?_; intro K8 hK8
  refine wc_block ?_
  have hq := Fp.qc_le hb' i (by omega)
  have hbi := hb i (by omega)
  refine wc_region ?_
  refine wl_y (y_move rfl) rfl ?_
  refine wl_y (y_fieldAddr (o := 0) (s := 5) (off := 0) (o' := 0) rfl Tryz.underlying135 rfl (by kernel_rfl) rfl rfl) rfl ?_
  refine wl_y (y_ixa1 rfl rfl Tryz.underlying133 (by kernel_rfl) rfl (by omega)) rfl ?_
  refine wl_y (y_load1 rfl Tryz.underlying38 rfl ((hw ▸ B5 : Blk wr g1 135 (fe h)).get (fe_get h (by rw [Nat.zero_add]) (by omega)))) rfl ?_
  refine wl_y (y_move rfl) rfl ?_
  refine wl_y (y_add rfl rfl (u64_nat (n := h i + Fp.qc h i) (by omega) (by omega))) rfl ?_
  refine wl_y (y_shr rfl rfl (by omega) (shr51 _ (by omega))) rfl ?_
  refine wl_y (y_assign rfl) rfl ?_
  refine wl_nil ?_
  refine wq_blk_norm ?_
  refine wq_then_norm (hK8 ?_)
  refine wc_region ?_
  refine wl_y (y_move rfl) rfl ?_
  refine wl_y (y_add rfl rfl (i64_ok (by omega) (by omega))) rfl ?_
  refine wl_y (y_assign rfl) rfl ?_
  refine wl_nil ?_
  refine wq_then_norm ?_
  refine hL1 _ _ ⟨i + 1, rfl, rfl, by omega, hw⟩ (by omega) ⟨rfl, rfl, (by first | rfl | exact congrArg some (int_val (by omega))), (by first | rfl | exact congrArg some (int_val (by omega))), trivial⟩
 ·skip
  refine wc_exit ?_
  refine wq_then_exit ?_
  refine wq_then_exit ?_
  refine wq_blk_hit ?_
  refine wq_then_norm (hK4 ?_)
  refine wc_seq ?_; intro K9 hK9
  obtain rfl : i = 5 := by omega
  subst hw
  obtain ⟨q, hq⟩ : ∃ q, q = Fp.qc h 5 := ⟨_, rfl⟩
  have hq19 : q ≤ 19 := by rw [hq]; exact Fp.qc_le hb' 5 (by omega)
  rw [← hq] at hend ⊢
  have hb0 := hb 0 (by omega)
  refine wc_region ?_
  refine wl_y (y_fieldAddr (o := 0) (s := 5) (off := 0) (o' := 0) rfl Tryz.underlying135 rfl (by kernel_rfl) rfl rfl) rfl ?_
  refine wl_y (y_ixa1 rfl rfl Tryz.underlying133 (by kernel_rfl) (j := 0) rfl (by omega)) rfl ?_
  refine wl_y (y_load1 rfl Tryz.underlying38 rfl (B5.get (fe_get h (j := 0) rfl (by omega)))) rfl ?_
  refine wl_y (y_move rfl) rfl ?_
  refine wl_y (y_mul rfl rfl (u64_nat (n := 19 * q) (by omega) (by omega))) rfl ?_
  refine wl_y (y_add rfl rfl (u64_nat (n := h 0 + 19 * q) (by omega) (by omega))) rfl ?_
  refine wl_y (y_fieldAddr (o := 0) (s := 5) (off := 0) (o' := 0) rfl Tryz.underlying135 rfl (by kernel_rfl) rfl rfl) rfl ?_
  refine wl_y (y_ixa1 rfl rfl Tryz.underlying133 (by kernel_rfl) (j := 0) rfl (by omega)) rfl ?_
  refine wl_ef (ef_storeB rfl rfl rfl (by kernel_rfl) B5 (by rw [fe_size]; omega)) rfl ?_
  rintro _ w7 ⟨rfl, B7, cg⟩
  have E7 := E5.chg cg hg1; have D7 := D5.chg cg (by omega); replace B7 : Blk w7 g1 135 (fe (Fp.st h q 0)) := (B7.congr (fe_set h 0 _)).congr (fe_congr fun j _ => Fp.st_zero h q j)
  refine wl_nil ?_
  refine wq_then_norm (hK9 ?_)
  refine wc_seq ?_; intro K10 hK10
  refine wc_seq ?_; intro K11 hK11
  refine wc_region ?_
  refine wl_y (y_move rfl) rfl ?_
  refine wl_nil ?_
  refine wq_then_norm (hK11 ?_)
  refine wc_block ?_
  refine wc_loop (fun n' L wq => ∃ k : Nat, L = [(1, .pointer (some ⟨g1, 0, none⟩)), (2, .pointer (some ⟨g2, 0, none⟩)), (33, .int .i64 (k : Int))] ∧ n' = 4 - k ∧ (k ≤ 4 ∧ Ext w wq ∧ Blk wq g1 135 (fe (Fp.st h q k)) ∧ Blk wq g2 135 (fe (fun _ => 0)))) _ _ ⟨0, rfl, rfl, by omega, E7, B7, D7⟩ ⟨rfl, rfl, (by first | rfl | exact congrArg some (int_val (by omega))), trivial⟩ ?_
  rintro KL2 n' L wq ⟨k, rfl, rfl, hk, F, K1, K2⟩ hL2
  refine wc_seq ?_; intro K12 hK12
  refine wc_region ?_
  refine wl_y (y_lss rfl rfl) rfl ?_
  refine wl_nil ?_
  refine wq_then_norm (hK12 ?_)
  refine wc_seq ?_; intro K13 hK13
  refine wc_dec rfl (fun hc2 => ?_) (fun hc2 => ?_)
  ·skip
   refine wc_skip ?_
   refine wq_then_norm (hK13 ?_)
   refine wc_seq ?_; intro K14 hK14
   refine wc_block ?_
   refine wc_seq ?_; intro K15 hK15
   refine wc_region ?_
   refine wl_y (y_move rfl) rfl ?_
   refine wl_y (y_assign rfl) rfl ?_
   refine wl_nil ?_
   refine wq_then_norm (hK15 ?_)
   refine wc_seq ?_; intro K16 hK16
   have hrc := Fp.rc_le hq19 hb' k (by omega)
   have hbk := hb k (by omega); have hbk1 := hb (k + 1) (by omega)
   refine wc_draw (by kernel_rfl) 14 rfl ?_; intro wd11 ex hd11
   have F6 := F.ext ex; have L1 := K1.ext ex; have L2 := K2.ext ex
   refine wm_z 0 rfl (by kernel_rfl) (fun _ => y_move rfl) rfl ?_
   refine wm_z 1 rfl (by kernel_rfl) (fun _ => y_add rfl rfl (i64_ok (by omega) (by omega))) rfl ?_
   refine wm_z 2 rfl (by kernel_rfl) (fun _ => y_fieldAddr (o := 0) (s := 5) (off := 0) (o' := 0) rfl Tryz.underlying135 rfl (by kernel_rfl) rfl rfl) rfl ?_
   refine wm_z 3 rfl (by kernel_rfl) (fun _ => y_ixa1 rfl rfl Tryz.underlying133 (by kernel_rfl) (j := k + 1) (by omega) (by omega)) rfl ?_
   refine wm_y 4 rfl (by kernel_rfl) (y_load1 rfl Tryz.underlying38 rfl (L1.get (v := .int .u64 ((h (k + 1) : Nat) : Int)) (by rw [Nat.zero_add, fe_get _ rfl (by omega), Fp.st_next]))) rfl ?_
   refine wm_z 5 rfl (by kernel_rfl) (fun _ => y_move rfl) rfl ?_
   refine wm_z 6 rfl (by kernel_rfl) (fun _ => y_fieldAddr (o := 0) (s := 5) (off := 0) (o' := 0) rfl Tryz.underlying135 rfl (by kernel_rfl) rfl rfl) rfl ?_
   refine wm_z 7 rfl (by kernel_rfl) (fun _ => y_ixa1 rfl rfl Tryz.underlying133 (by kernel_rfl) rfl (by omega)) rfl ?_
   refine wm_y 8 rfl (by kernel_rfl) (y_load1 rfl Tryz.underlying38 rfl (L1.get (v := .int .u64 ((h k + Fp.rc h q k : Nat) : Int)) (by rw [Nat.zero_add, fe_get _ rfl (by omega), Fp.st_at]))) rfl ?_
   refine wm_z 9 rfl (by kernel_rfl) (fun _ => y_shr rfl rfl (by omega) (shr51 _ (by omega))) rfl ?_
   refine wm_z 10 rfl (by kernel_rfl) (fun _ => y_add rfl rfl (u64_nat (n := h (k + 1) + (h k + Fp.rc h q k) / 2251799813685248) (by omega) (by omega))) rfl ?_
   refine wm_z 11 rfl (by kernel_rfl) (fun _ => y_fieldAddr (o := 0) (s := 5) (off := 0) (o' := 0) rfl Tryz.underlying135 rfl (by kernel_rfl) rfl rfl) rfl ?_
   refine wm_z 12 rfl (by kernel_rfl) (fun _ => y_ixa1 rfl rfl Tryz.underlying133 (by kernel_rfl) (j := k + 1) (by omega) (by omega)) rfl ?_
   refine wm_one 13 (by kernel_rfl) ?_; refine om_ef rfl (ef_storeB rfl rfl rfl (by kernel_rfl) L1 (by rw [fe_size]; omega)) rfl ?_
   rintro _ w8 ⟨rfl, B8, cg⟩
   refine ⟨.inl rfl, ?_⟩
   rw [Nat.zero_add, fe_set] at B8; have F8 := F6.chg cg hg1; have M2 := L2.chg cg (by omega)
   refine wm_done (by kernel_rfl) ?_
   refine wq_nop ?_
   refine wq_then_norm (hK16 ?_)
   refine wc_region ?_
   refine wl_y (y_move rfl) rfl ?_
   refine wl_y (y_fieldAddr (o := 0) (s := 5) (off := 0) (o' := 0) rfl Tryz.underlying135 rfl (by kernel_rfl) rfl rfl) rfl ?_
   refine wl_y (y_ixa1 rfl rfl Tryz.underlying133 (by kernel_rfl) rfl (by omega)) rfl ?_
   refine wl_y (y_load1 rfl Tryz.underlying38 rfl (B8.get (v := .int .u64 ((h k + Fp.rc h q k : Nat) : Int)) (by rw [Nat.zero_add, fe_get _ rfl (by omega), if_neg (by omega), Fp.st_at]))) rfl ?_
   refine wl_y (y_and rfl rfl (and51 _ (by omega))) rfl ?_
   refine wl_y (y_fieldAddr (o := 0) (s := 5) (off := 0) (o' := 0) rfl Tryz.underlying135 rfl (by kernel_rfl) rfl rfl) rfl ?_
   refine wl_y (y_ixa1 rfl rfl Tryz.underlying133 (by kernel_rfl) rfl (by omega)) rfl ?_
   refine wl_ef (ef_storeB rfl rfl rfl (by kernel_rfl) B8 (by rw [fe_size]; omega)) rfl ?_
   rintro _ w9 ⟨rfl, B9, cg⟩
   rw [Nat.zero_add, fe_set] at B9; have F9 := F8.chg cg hg1; have M3 := M2.chg cg (by omega)
   refine wl_nil ?_
   refine wq_blk_norm ?_
   refine wq_then_norm (hK14 ?_)
   refine wc_region ?_
   refine wl_y (y_add rfl rfl (i64_ok (by omega) (by omega))) rfl ?_
   refine wl_y (y_move rfl) rfl ?_
   refine wl_nil ?_
   refine wq_then_norm ?_
   refine hL2 _ _ ⟨k + 1, rfl, rfl, by omega, F9, B9.congr (fe_congr fun j _ => Fp.st_step h q k j), M3⟩ (by omega) ⟨rfl, rfl, (by first | rfl | exact congrArg some (int_val (by omega))), trivial⟩
  ·skip
   refine wc_exit ?_
   refine wq_then_exit ?_
   refine wq_then_exit ?_
   refine wq_blk_hit ?_
   refine wq_then_norm (hK10 ?_)
   refine wc_seq ?_; intro K17 hK17
   obtain rfl : k = 4 := by omega
   have hrc := Fp.rc_le hq19 hb' 4 (by omega)
   have hb4 := hb 4 (by omega)
   refine wc_region ?_
   refine wl_y (y_fieldAddr (o := 0) (s := 5) (off := 0) (o' := 0) rfl Tryz.underlying135 rfl (by kernel_rfl) rfl rfl) rfl ?_
   refine wl_y (y_ixa1 rfl rfl Tryz.underlying133 (by kernel_rfl) (j := 4) rfl (by omega)) rfl ?_
   refine wl_y (y_load1 rfl Tryz.underlying38 rfl (K1.get (v := .int .u64 ((h 4 + Fp.rc h q 4 : Nat) : Int)) (by rw [Nat.zero_add, fe_get _ rfl (by omega), Fp.st_at]))) rfl ?_
   refine wl_y (y_and rfl rfl (and51 _ (by omega))) rfl ?_
   refine wl_y (y_fieldAddr (o := 0) (s := 5) (off := 0) (o' := 0) rfl Tryz.underlying135 rfl (by kernel_rfl) rfl rfl) rfl ?_
   refine wl_y (y_ixa1 rfl rfl Tryz.underlying133 (by kernel_rfl) (j := 4) rfl (by omega)) rfl ?_
   refine wl_ef (ef_storeB rfl rfl rfl (by kernel_rfl) K1 (by rw [fe_size]; omega)) rfl ?_
   rintro _ w10 ⟨rfl, B10, cg⟩
   have F10 := F.chg cg hg1; have M4 := K2.chg cg (by omega); replace B10 : Blk w10 g1 135 (fe (Fp.limb (Fp.val f % Fp.p))) := (B10.congr (fe_set _ 4 _)).congr (fe_congr fun j hj => (Fp.st_end h q j hj).trans (hend j hj))
   refine wl_nil ?_
   refine wq_then_norm (hK17 ?_)
   refine wc_seq ?_; intro K18 hK18
   refine wc_region ?_
   refine wl_y (y_loadw rfl Tryz.underlying135 rfl (by kernel_rfl) B10) rfl ?_
   refine wl_ef (ef_storeW rfl rfl (by rw [fe_size]; kernel_rfl) M4 (by rw [fe_size, fe_size]) (fe_one _)) rfl ?_
   rintro _ w11 ⟨rfl, B11, cg⟩
   have F11 := F10.chg cg hg2'
   refine wl_nil ?_
   refine wq_then_norm (hK18 ?_)
   refine wc_ret ?_
   refine hret rfl B11 (fe_size _) ?_
   exact ⟨rfl, F11⟩
end Go.Proofs.YtjllhimhiekchaaGreat
