/- 64-bit products and sums of two words; the field's Mul: what they hand back. -/
import Derived.Test.YtbcbihdfpkeacaaFieldA
import Derived.Lib.Mul64
import Derived.Laws.Externs
namespace Go.Proofs.Ytbcbihdfpkeacaa
open Go.RowKit
attribute [local irreducible] Y Ef WL WC WK WQ WM OpM
theorem and32 (x : Nat) (hx : x < 18446744073709551616) : bits .and .u64 (x : Int) 4294967295 = ((x % 4294967296 : Nat) : Int) := by
  have h := (bits_u64 (p := x) (q := 4294967295) hx (by omega)).1
  rw [show ((4294967295 : Int)) = ((4294967295 : Nat) : Int) from rfl, h, show (4294967295 : Nat) = 2 ^ 32 - 1 from rfl, Nat.and_two_pow_sub_one_eq_mod]
theorem shr32 (x : Nat) : (x : Int) / 2 ^ (min (32 : Int).toNat IntKind.u64.bits) = ((x / 4294967296 : Nat) : Int) := by
  rw [show (2 : Int) ^ (min (32 : Int).toNat IntKind.u64.bits) = ((4294967296 : Nat) : Int) from rfl]
  exact (Int.natCast_ediv _ _).symm
theorem mul64_any (x y : Nat) (w : World) (hx : x < 18446744073709551616) (hy : y < 18446744073709551616) :
    Calls Try.prog 137 #[.int .u64 (x : Int), .int .u64 (y : Int)] w fun e w' => e = .returned (.tuple #[.int .u64 ((x * y / 18446744073709551616 : Nat) : Int), .int .u64 ((x * y % 18446744073709551616 : Nat) : Int)]) ∧ Ext w w' := by
  obtain ⟨h1, h2, h3, h4⟩ := Lib.mul64_hi x y hx hy
  obtain ⟨xl, hxl⟩ : ∃ a, a = x % 4294967296 := ⟨_, rfl⟩
  obtain ⟨xh, hxh⟩ : ∃ a, a = x / 4294967296 := ⟨_, rfl⟩
  obtain ⟨yl, hyl⟩ : ∃ a, a = y % 4294967296 := ⟨_, rfl⟩
  obtain ⟨yh, hyh⟩ : ∃ a, a = y / 4294967296 := ⟨_, rfl⟩
  rw [← hxl, ← hyl] at h1
  rw [← hxl, ← hxh, ← hyl] at h2
  rw [← hxl, ← hxh, ← hyl, ← hyh] at h3 h4
  have hb := Lib.half_mul_le (a := xh) (b := yl) (by omega) (by omega)
  have hc := Lib.half_mul_le (a := xl) (b := yh) (by omega) (by omega)
  have hd := Lib.half_mul_le (a := xh) (b := yh) (by omega) (by omega)
  have hlt : x * y / 18446744073709551616 < 18446744073709551616 := Nat.div_lt_of_lt_mul (Nat.mul_lt_mul'' hx hy)
  obtain ⟨w0, hw0⟩ : ∃ a, a = xl * yl := ⟨_, rfl⟩
  obtain ⟨b0, hb0⟩ : ∃ a, a = xh * yl := ⟨_, rfl⟩
  obtain ⟨c0, hc0⟩ : ∃ a, a = xl * yh := ⟨_, rfl⟩
  obtain ⟨d0, hd0⟩ : ∃ a, a = xh * yh := ⟨_, rfl⟩
  rw [← hw0, ← hb0, ← hc0, ← hd0] at h4
  rw [← hw0] at h1
  rw [← hw0, ← hb0] at h2
  rw [← hw0, ← hb0, ← hc0] at h3
  rw [← hb0] at hb
  rw [← hc0] at hc
  rw [← hd0] at hd
  refine vc_enter2 51 Try.func137 rfl rfl rfl rfl ?_
  intro Q hret
  refine wc_seq ?_; intro K1 hK1
  refine wc_region ?_
  refine wl_y (y_assign rfl) rfl ?_
  refine wl_y (y_assign rfl) rfl ?_
  refine wl_nil ?_
  refine wq_then_norm (hK1 ?_)
  refine wc_seq ?_; intro K2 hK2
  refine wc_region ?_
  refine wl_y (y_move rfl) rfl ?_
  refine wl_y (y_and rfl rfl (show bits .and .u64 (x : Int) 4294967295 = (xl : Int) by rw [hxl]; exact and32 x hx)) rfl ?_
  refine wl_y (y_assign rfl) rfl ?_
  refine wl_nil ?_
  refine wq_then_norm (hK2 ?_)
  refine wc_seq ?_; intro K3 hK3
  refine wc_region ?_
  refine wl_y (y_move rfl) rfl ?_
  refine wl_y (y_shr rfl rfl (by omega) (show (x : Int) / 2 ^ (min (32 : Int).toNat IntKind.u64.bits) = (xh : Int) by rw [hxh]; exact shr32 x)) rfl ?_
  refine wl_y (y_assign rfl) rfl ?_
  refine wl_nil ?_
  refine wq_then_norm (hK3 ?_)
  refine wc_seq ?_; intro K4 hK4
  refine wc_region ?_
  refine wl_y (y_move rfl) rfl ?_
  refine wl_y (y_and rfl rfl (show bits .and .u64 (y : Int) 4294967295 = (yl : Int) by rw [hyl]; exact and32 y hy)) rfl ?_
  refine wl_y (y_assign rfl) rfl ?_
  refine wl_nil ?_
  refine wq_then_norm (hK4 ?_)
  refine wc_seq ?_; intro K5 hK5
  refine wc_region ?_
  refine wl_y (y_move rfl) rfl ?_
  refine wl_y (y_shr rfl rfl (by omega) (show (y : Int) / 2 ^ (min (32 : Int).toNat IntKind.u64.bits) = (yh : Int) by rw [hyh]; exact shr32 y)) rfl ?_
  refine wl_y (y_assign rfl) rfl ?_
  refine wl_nil ?_
  refine wq_then_norm (hK5 ?_)
  refine wc_seq ?_; intro K6 hK6
  refine wc_region ?_
  refine wl_y (y_move rfl) rfl ?_
  refine wl_y (y_move rfl) rfl ?_
  refine wl_y (y_mul rfl rfl (u64_nat (n := w0) (by rw [hw0]; exact (Int.natCast_mul _ _).symm) h1)) rfl ?_
  refine wl_y (y_assign rfl) rfl ?_
  refine wl_nil ?_
  refine wq_then_norm (hK6 ?_)
  refine wc_seq ?_; intro K7 hK7
  refine wc_region ?_
  refine wl_y (y_move rfl) rfl ?_
  refine wl_y (y_move rfl) rfl ?_
  refine wl_y (y_mul rfl rfl (u64_nat (n := b0) (by rw [hb0]; exact (Int.natCast_mul _ _).symm) (by omega))) rfl ?_
  refine wl_y (y_move rfl) rfl ?_
  refine wl_y (y_shr rfl rfl (by omega) (shr32 _)) rfl ?_
  refine wl_y (y_add rfl rfl (u64_nat (n := b0 + w0 / 4294967296) (by omega) h2)) rfl ?_
  refine wl_y (y_assign rfl) rfl ?_
  refine wl_nil ?_
  refine wq_then_norm (hK7 ?_)
  refine wc_seq ?_; intro K8 hK8
  refine wc_region ?_
  refine wl_y (y_move rfl) rfl ?_
  refine wl_y (y_and rfl rfl (and32 _ h2)) rfl ?_
  refine wl_y (y_assign rfl) rfl ?_
  refine wl_nil ?_
  refine wq_then_norm (hK8 ?_)
  refine wc_seq ?_; intro K9 hK9
  refine wc_region ?_
  refine wl_y (y_move rfl) rfl ?_
  refine wl_y (y_shr rfl rfl (by omega) (shr32 _)) rfl ?_
  refine wl_y (y_assign rfl) rfl ?_
  refine wl_nil ?_
  refine wq_then_norm (hK9 ?_)
  refine wc_seq ?_; intro K10 hK10
  refine wc_region ?_
  refine wl_y (y_move rfl) rfl ?_
  refine wl_y (y_move rfl) rfl ?_
  refine wl_y (y_move rfl) rfl ?_
  refine wl_y (y_mul rfl rfl (u64_nat (n := c0) (by rw [hc0]; exact (Int.natCast_mul _ _).symm) (by omega))) rfl ?_
  refine wl_y (y_add rfl rfl (u64_nat (n := (b0 + w0 / 4294967296) % 4294967296 + c0) (by omega) h3)) rfl ?_
  refine wl_y (y_assign rfl) rfl ?_
  refine wl_nil ?_
  refine wq_then_norm (hK10 ?_)
  refine wc_seq ?_; intro K11 hK11
  refine wc_region ?_
  refine wl_y (y_move rfl) rfl ?_
  refine wl_y (y_move rfl) rfl ?_
  refine wl_y (y_mul rfl rfl (u64_nat (n := d0) (by rw [hd0]; exact (Int.natCast_mul _ _).symm) (by omega))) rfl ?_
  refine wl_y (y_move rfl) rfl ?_
  refine wl_y (y_add rfl rfl (u64_nat (n := d0 + (b0 + w0 / 4294967296) / 4294967296) (by omega) (by omega))) rfl ?_
  refine wl_y (y_move rfl) rfl ?_
  refine wl_y (y_shr rfl rfl (by omega) (shr32 _)) rfl ?_
  refine wl_y (y_add rfl rfl (u64_nat (n := x * y / 18446744073709551616) (by omega) hlt)) rfl ?_
  refine wl_y (y_assign rfl) rfl ?_
  refine wl_nil ?_
  refine wq_then_norm (hK11 ?_)
  refine wc_seq ?_; intro K12 hK12
  refine wc_region ?_
  refine wl_y (y_move rfl) rfl ?_
  refine wl_y (y_move rfl) rfl ?_
  refine wl_y (y_mul rfl rfl (u64_mod (n := x * y) (Int.natCast_mul _ _).symm)) rfl ?_
  refine wl_y (y_assign rfl) rfl ?_
  refine wl_nil ?_
  refine wq_then_norm (hK12 ?_)
  refine wc_ret ?_
  refine hret rfl rfl ?_
  exact ⟨rfl, Ext.refl _⟩
theorem add64_run (x y c : Nat) (hc : c ≤ 1) (w : World) :
    (callFunc 104 #[.int .u64 (x : Int), .int .u64 (y : Int), .int .u64 (c : Int)]).run Try.prog w = .ok (.value (.tuple #[.int .u64 (((x + y + c) % 18446744073709551616 : Nat) : Int), .int .u64 (((x + y + c) / 18446744073709551616 : Nat) : Int)])) w := by
  rw [run_callFunc_extern Try.func104 (by kernel_rfl) (by kernel_rfl) (by kernel_rfl) (e := add64Entry) (by kernel_rfl), run_add64 x y c (by omega) (by omega) (by omega) (by omega)]
  simp only [Result.andThen]
  congr 5 <;> omega
/-- A number of two words: the high one first. -/
def tw (s : Nat) : Array Value := #[.int .u64 ((s / 18446744073709551616 : Nat) : Int), .int .u64 ((s % 18446744073709551616 : Nat) : Int)]
theorem tw_val {h l s : Nat} (hh : h = s / 18446744073709551616) (hl : l = s % 18446744073709551616) : (#[.int .u64 (h : Int), .int .u64 (l : Int)] : Array Value) = tw s := by subst hh; subst hl; rfl
theorem tw_one (s : Nat) : (tw s).all (·.oneCell') = true := by simp [tw, Value.oneCell']
theorem plus_any (s a b : Nat) (w : World) (ha : a < 18446744073709551616) (hb : b < 18446744073709551616) (hs : s + a * b < 340282366920938463463374607431768211456) :
    Calls Try.prog 103 #[.agg (tw s), .int .u64 (a : Int), .int .u64 (b : Int)] w fun e w' => e = .returned (.agg (tw (s + a * b))) ∧ Ext w w' := by
  obtain ⟨m, hm⟩ : ∃ m, m = a * b := ⟨_, rfl⟩
  rw [← hm] at hs ⊢
  have hr := mul64_any a b
  refine vc_enterc1 (s := 2) 34 Try.func103 rfl rfl rfl Try.underlying99 rfl (by kernel_rfl) rfl ?_
  intro Q hret
  refine wc_seq ?_; intro K1 hK1
  refine wc_region ?_
  refine wl_ef (ef_box (cs := tw s) rfl rfl) rfl ?_
  rintro _ w1 ⟨g1, rfl, B1, hg1, ex⟩
  have E1 := ex; have hl1 := B1.lt
  refine wl_ef (ef_alloc (Z := tw 0) (by kernel_rfl)) rfl ?_
  rintro _ w2 ⟨g2, rfl, B2, hg2, ex⟩
  have E2 := E1.ext ex; have B1' := B1.ext ex; have hg2' : w.heap.size ≤ g2 := Nat.le_trans E1.size hg2
  refine wl_nil ?_
  refine wq_then_norm (hK1 ?_)
  refine wc_seq ?_; intro K2 hK2
  refine wc_region ?_
  refine wl_y (y_move rfl) rfl ?_
  refine wl_y (y_move rfl) rfl ?_
  refine wl_call Try.func137 rfl rfl rfl (mul64_any a b _ ha hb) rfl ?_
  rintro e w3 ⟨rfl, ex⟩
  refine ⟨_, rfl, ?_⟩
  rw [← hm]; have E3 := E2.ext ex; have C1 := B1'.ext ex; have C2 := B2.ext ex
  refine wl_y (y_move rfl) rfl ?_
  refine wl_y (y_extract rfl rfl) rfl ?_
  refine wl_y (y_extract rfl rfl) rfl ?_
  refine wl_y (y_assign rfl) rfl ?_
  refine wl_y (y_assign rfl) rfl ?_
  refine wl_nil ?_
  refine wq_then_norm (hK2 ?_)
  refine wc_seq ?_; intro K3 hK3
  refine wc_region ?_
  refine wl_y (y_fieldAddr (o := 1) (s := 1) (off := 0) (o' := 1) rfl Try.underlying99 rfl (by kernel_rfl) rfl rfl) rfl ?_
  refine wl_y (y_load1 rfl Try.underlying23 rfl (C1.get (i := 1) rfl)) rfl ?_
  refine wl_y (y_move rfl) rfl ?_
  refine wl_y ((ef_ext rfl (add64_run _ _ 0 (by omega)))) rfl ?_
  refine wl_y (y_move rfl) rfl ?_
  refine wl_y (y_extract rfl rfl) rfl ?_
  refine wl_y (y_extract rfl rfl) rfl ?_
  refine wl_y (y_assign rfl) rfl ?_
  refine wl_y (y_assign rfl) rfl ?_
  refine wl_nil ?_
  refine wq_then_norm (hK3 ?_)
  refine wc_seq ?_; intro K4 hK4
  refine wc_region ?_
  refine wl_y (y_fieldAddr (o := 0) (s := 1) (off := 0) (o' := 0) rfl Try.underlying99 rfl (by kernel_rfl) rfl rfl) rfl ?_
  refine wl_y (y_load1 rfl Try.underlying23 rfl (C1.get (i := 0) rfl)) rfl ?_
  refine wl_y (y_move rfl) rfl ?_
  refine wl_y (y_move rfl) rfl ?_
  refine wl_y ((ef_ext rfl (add64_run _ _ _ (by omega)))) rfl ?_
  refine wl_y (y_move rfl) rfl ?_
  refine wl_y (y_extract rfl rfl) rfl ?_
  refine wl_y (y_extract rfl rfl) rfl ?_
  refine wl_y (y_assign rfl) rfl ?_
  refine wl_nil ?_
  refine wq_then_norm (hK4 ?_)
  refine wc_seq ?_; intro K5 hK5
  rw [show (s / 18446744073709551616 + m / 18446744073709551616 + (s % 18446744073709551616 + m % 18446744073709551616 + 0) / 18446744073709551616) % 18446744073709551616 = (s + m) / 18446744073709551616 by omega, show (s % 18446744073709551616 + m % 18446744073709551616 + 0) % 18446744073709551616 = (s + m) % 18446744073709551616 by omega]
  refine wc_region ?_
  refine wl_y (y_move rfl) rfl ?_
  refine wl_y (y_move rfl) rfl ?_
  refine wl_y (y_build rfl (cells := tw (s + m)) (by kernel_rfl)) rfl ?_
  refine wl_ef (ef_storeW rfl rfl (by kernel_rfl) C2 rfl (tw_one _)) rfl ?_
  rintro _ w4 ⟨rfl, B4, cg⟩
  have E4 := E3.chg cg hg2'
  refine wl_nil ?_
  refine wq_then_norm (hK5 ?_)
  refine wc_ret ?_
  refine hret rfl B4 rfl ?_
  exact ⟨rfl, E4⟩
end Go.Proofs.Ytbcbihdfpkeacaa
