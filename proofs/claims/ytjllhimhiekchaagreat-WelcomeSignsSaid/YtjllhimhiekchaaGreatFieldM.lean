/- 64-bit products and sums of two words; the field's Mul: what they hand back. The field's Mul: what it hands back. -/
import Derived.Test.YtjllhimhiekchaaGreatFieldA
import Derived.Lib.Mul64
import Derived.Laws.Externs
namespace Go.Proofs.YtjllhimhiekchaaGreat
section
open Go.RowKit
attribute [local irreducible] Y Ef WL WC WK WQ WM OpM
theorem and32 (x : Nat) (hx : x < 18446744073709551616) : bits .and .u64 (x : Int) 4294967295 = ((x % 4294967296 : Nat) : Int) := by
 have h := (bits_u64 (p := x) (q := 4294967295) hx (by omega)).1
 rw [show ((4294967295 : Int)) = ((4294967295 : Nat) : Int) from rfl, h, show (4294967295 : Nat) = 2 ^ 32 - 1 from rfl, Nat.and_two_pow_sub_one_eq_mod]
theorem shr32 (x : Nat) : (x : Int) / 2 ^ (min (32 : Int).toNat IntKind.u64.bits) = ((x / 4294967296 : Nat) : Int) := by
 rw [show (2 : Int) ^ (min (32 : Int).toNat IntKind.u64.bits) = ((4294967296 : Nat) : Int) from rfl]
 exact (Int.natCast_ediv _ _).symm
theorem mul64_any (x y : Nat) (w : World) (hx : x < 18446744073709551616) (hy : y < 18446744073709551616) :
  Calls Tryz.prog 216 #[.int .u64 (x : Int), .int .u64 (y : Int)] w fun e w' => e = .returned (.tuple #[.int .u64 ((x * y / 18446744073709551616 : Nat) : Int), .int .u64 ((x * y % 18446744073709551616 : Nat) : Int)]) ∧ Ext w w' := by
 obtain ⟨h1, h2, h3, h4⟩ := Lib.mul64_hi x y hx hy
 obtain ⟨xl, hxl⟩ : ∃ a, a = x % 4294967296 := ⟨_, rfl⟩
 obtain ⟨xh, hxh⟩ : ∃ a, a = x / 4294967296 := ⟨_, rfl⟩
 obtain ⟨yl, hyl⟩ : ∃ a, a = y % 4294967296 := ⟨_, rfl⟩
 obtain ⟨yh, hyh⟩ : ∃ a, a = y / 4294967296 := ⟨_, rfl⟩
 rw [← hxl, ← hyl] at h1
 rw [← hxl, ← hxh, ← hyl] at h2
 rw [← hxl, ← hxh, ← hyl, ← hyh] at h3 h4
 have hb := Lib.half_mul_le (a := xh) (b := yl) (by omega) (by omega)
 have hc := Lib.half_mul_le (a := xl) (b := yh) (by omega) (by omega)
 have hd := Lib.half_mul_le (a := xh) (b := yh) (by omega) (by omega)
 have hlt : x * y / 18446744073709551616 < 18446744073709551616 := Nat.div_lt_of_lt_mul (Nat.mul_lt_mul'' hx hy)
 obtain ⟨w0, hw0⟩ : ∃ a, a = xl * yl := ⟨_, rfl⟩
 obtain ⟨b0, hb0⟩ : ∃ a, a = xh * yl := ⟨_, rfl⟩
 obtain ⟨c0, hc0⟩ : ∃ a, a = xl * yh := ⟨_, rfl⟩
 obtain ⟨d0, hd0⟩ : ∃ a, a = xh * yh := ⟨_, rfl⟩
 rw [← hw0, ← hb0, ← hc0, ← hd0] at h4
 rw [← hw0] at h1
 rw [← hw0, ← hb0] at h2
 rw [← hw0, ← hb0, ← hc0] at h3
 rw [← hb0] at hb
 rw [← hc0] at hc
 rw [← hd0] at hd
 refine vc_enter2 51 Tryz.func216 rfl rfl rfl rfl ?_
 intro Q hret
 refine wc_seq ?_; intro K1 hK1
 refine wc_region ?_
 refine wl_y (y_assign rfl) rfl ?_
 refine wl_y (y_assign rfl) rfl ?_
 refine wl_nil ?_
 refine wq_then_norm (hK1 ?_)
 refine wc_seq ?_; intro K2 hK2
 refine wc_region ?_
 refine wl_y (y_move rfl) rfl ?_
 refine wl_y (y_and rfl rfl (show bits .and .u64 (x : Int) 4294967295 = (xl : Int) by rw [hxl]; exact and32 x hx)) rfl ?_
 refine wl_y (y_assign rfl) rfl ?_
 refine wl_nil ?_
 refine wq_then_norm (hK2 ?_)
 refine wc_seq ?_; intro K3 hK3
 refine wc_region ?_
 refine wl_y (y_move rfl) rfl ?_
 refine wl_y (y_shr rfl rfl (by omega) (show (x : Int) / 2 ^ (min (32 : Int).toNat IntKind.u64.bits) = (xh : Int) by rw [hxh]; exact shr32 x)) rfl ?_
 refine wl_y (y_assign rfl) rfl ?_
 refine wl_nil ?_
 refine wq_then_norm (hK3 ?_)
 refine wc_seq ?_; intro K4 hK4
 refine wc_region ?_
 refine wl_y (y_move rfl) rfl ?_
 refine wl_y (y_and rfl rfl (show bits .and .u64 (y : Int) 4294967295 = (yl : Int) by rw [hyl]; exact and32 y hy)) rfl ?_
 refine wl_y (y_assign rfl) rfl ?_
 refine wl_nil ?_
 refine wq_then_norm (hK4 ?_)
 refine wc_seq ?_; intro K5 hK5
 refine wc_region ?_
 refine wl_y (y_move rfl) rfl ?_
 refine wl_y (y_shr rfl rfl (by omega) (show (y : Int) / 2 ^ (min (32 : Int).toNat IntKind.u64.bits) = (yh : Int) by rw [hyh]; exact shr32 y)) rfl ?_
 refine wl_y (y_assign rfl) rfl ?_
 refine wl_nil ?_
 refine wq_then_norm (hK5 ?_)
 refine wc_seq ?_; intro K6 hK6
 refine wc_region ?_
 refine wl_y (y_move rfl) rfl ?_
 refine wl_y (y_move rfl) rfl ?_
 refine wl_y (y_mul rfl rfl (u64_nat (n := w0) (by rw [hw0]; exact (Int.natCast_mul _ _).symm) h1)) rfl ?_
 refine wl_y (y_assign rfl) rfl ?_
 refine wl_nil ?_
 refine wq_then_norm (hK6 ?_)
 refine wc_seq ?_; intro K7 hK7
 refine wc_region ?_
 refine wl_y (y_move rfl) rfl ?_
 refine wl_y (y_move rfl) rfl ?_
 refine wl_y (y_mul rfl rfl (u64_nat (n := b0) (by rw [hb0]; exact (Int.natCast_mul _ _).symm) (by omega))) rfl ?_
 refine wl_y (y_move rfl) rfl ?_
 refine wl_y (y_shr rfl rfl (by omega) (shr32 _)) rfl ?_
 refine wl_y (y_add rfl rfl (u64_nat (n := b0 + w0 / 4294967296) (by omega) h2)) rfl ?_
 refine wl_y (y_assign rfl) rfl ?_
 refine wl_nil ?_
 refine wq_then_norm (hK7 ?_)
 refine wc_seq ?_; intro K8 hK8
 refine wc_region ?_
 refine wl_y (y_move rfl) rfl ?_
 refine wl_y (y_and rfl rfl (and32 _ h2)) rfl ?_
 refine wl_y (y_assign rfl) rfl ?_
 refine wl_nil ?_
 refine wq_then_norm (hK8 ?_)
 refine wc_seq ?_; intro K9 hK9
 refine wc_region ?_
 refine wl_y (y_move rfl) rfl ?_
 refine wl_y (y_shr rfl rfl (by omega) (shr32 _)) rfl ?_
 refine wl_y (y_assign rfl) rfl ?_
 refine wl_nil ?_
 refine wq_then_norm (hK9 ?_)
 refine wc_seq ?_; intro K10 hK10
 refine wc_region ?_
 refine wl_y (y_move rfl) rfl ?_
 refine wl_y (y_move rfl) rfl ?_
 refine wl_y (y_move rfl) rfl ?_
 refine wl_y (y_mul rfl rfl (u64_nat (n := c0) (by rw [hc0]; exact (Int.natCast_mul _ _).symm) (by omega))) rfl ?_
 refine wl_y (y_add rfl rfl (u64_nat (n := (b0 + w0 / 4294967296) % 4294967296 + c0) (by omega) h3)) rfl ?_
 refine wl_y (y_assign rfl) rfl ?_
 refine wl_nil ?_
 refine wq_then_norm (hK10 ?_)
 refine wc_seq ?_; intro K11 hK11
 refine wc_region ?_
 refine wl_y (y_move rfl) rfl ?_
 refine wl_y (y_move rfl) rfl ?_
 refine wl_y (y_mul rfl rfl (u64_nat (n := d0) (by rw [hd0]; exact (Int.natCast_mul _ _).symm) (by omega))) rfl ?_
 refine wl_y (y_move rfl) rfl ?_
 refine wl_y (y_add rfl rfl (u64_nat (n := d0 + (b0 + w0 / 4294967296) / 4294967296) (by omega) (by omega))) rfl ?_
 refine wl_y (y_move rfl) rfl ?_
 refine wl_y (y_shr rfl rfl (by omega) (shr32 _)) rfl ?_
 refine wl_y (y_add rfl rfl (u64_nat (n := x * y / 18446744073709551616) (by omega) hlt)) rfl ?_
 refine wl_y (y_assign rfl) rfl ?_
 refine wl_nil ?_
 refine wq_then_norm (hK11 ?_)
 refine wc_seq ?_; intro K12 hK12
 refine wc_region ?_
 refine wl_y (y_move rfl) rfl ?_
 refine wl_y (y_move rfl) rfl ?_
 refine wl_y (y_mul rfl rfl (u64_mod (n := x * y) (Int.natCast_mul _ _).symm)) rfl ?_
 refine wl_y (y_assign rfl) rfl ?_
 refine wl_nil ?_
 refine wq_then_norm (hK12 ?_)
 refine wc_ret ?_
 refine hret rfl rfl ?_
 exact ⟨rfl, Ext.refl _⟩
theorem add64_run (x y c : Nat) (hc : c ≤ 1) (w : World) :
  (callFunc 217 #[.int .u64 (x : Int), .int .u64 (y : Int), .int .u64 (c : Int)]).run Tryz.prog w = .ok (.value (.tuple #[.int .u64 (((x + y + c) % 18446744073709551616 : Nat) : Int), .int .u64 (((x + y + c) / 18446744073709551616 : Nat) : Int)])) w := by
 rw [run_callFunc_extern Tryz.func217 (by kernel_rfl) (by kernel_rfl) (by kernel_rfl) (e := add64Entry) (by kernel_rfl), run_add64 x y c (by omega) (by omega) (by omega) (by omega)]
 simp only [Result.andThen]
 congr 5 <;> omega
def tw (s : Nat) : Array Value := #[.int .u64 ((s / 18446744073709551616 : Nat) : Int), .int .u64 ((s % 18446744073709551616 : Nat) : Int)]
theorem tw_one (s : Nat) : (tw s).all (·.oneCell') = true := by simp [tw, Value.oneCell']
theorem plus_any (s a b : Nat) (w : World) (ha : a < 18446744073709551616) (hb : b < 18446744073709551616) (hs : s + a * b < 340282366920938463463374607431768211456) :
  Calls Tryz.prog 218 #[.agg (tw s), .int .u64 (a : Int), .int .u64 (b : Int)] w fun e w' => e = .returned (.agg (tw (s + a * b))) ∧ Ext w w' := by
 obtain ⟨m, hm⟩ : ∃ m, m = a * b := ⟨_, rfl⟩
 rw [← hm] at hs ⊢
 have hr := mul64_any a b
 refine vc_enterc1 (s := 2) 34 Tryz.func218 rfl rfl rfl Tryz.underlying261 rfl (by kernel_rfl) rfl ?_
 intro Q hret
 refine wc_seq ?_; intro K1 hK1
 refine wc_region ?_
 refine wl_ef (ef_box (cs := tw s) rfl rfl) rfl ?_
 rintro _ w1 ⟨g1, rfl, B1, hg1, ex⟩
 have E1 := ex; have hl1 := B1.lt
 refine wl_ef (ef_alloc (Z := tw 0) (by kernel_rfl)) rfl ?_
 rintro _ w2 ⟨g2, rfl, B2, hg2, ex⟩
 have E2 := E1.ext ex; have B1' := B1.ext ex; have hg2' : w.heap.size ≤ g2 := Nat.le_trans E1.size hg2
 refine wl_nil ?_
 refine wq_then_norm (hK1 ?_)
 refine wc_seq ?_; intro K2 hK2
 refine wc_region ?_
 refine wl_y (y_move rfl) rfl ?_
 refine wl_y (y_move rfl) rfl ?_
 refine wl_call Tryz.func216 rfl rfl rfl (mul64_any a b _ ha hb) rfl ?_
 rintro e w3 ⟨rfl, ex⟩
 refine ⟨_, rfl, ?_⟩
 rw [← hm]; have E3 := E2.ext ex; have C1 := B1'.ext ex; have C2 := B2.ext ex
 refine wl_y (y_move rfl) rfl ?_
 refine wl_y (y_extract rfl rfl) rfl ?_
 refine wl_y (y_extract rfl rfl) rfl ?_
 refine wl_y (y_assign rfl) rfl ?_
 refine wl_y (y_assign rfl) rfl ?_
 refine wl_nil ?_
 refine wq_then_norm (hK2 ?_)
 refine wc_seq ?_; intro K3 hK3
 refine wc_region ?_
 refine wl_y (y_fieldAddr (o := 1) (s := 1) (off := 0) (o' := 1) rfl Tryz.underlying261 rfl (by kernel_rfl) rfl rfl) rfl ?_
 refine wl_y (y_load1 rfl Tryz.underlying38 rfl (C1.get (i := 1) rfl)) rfl ?_
 refine wl_y (y_move rfl) rfl ?_
 refine wl_y ((ef_ext rfl (add64_run _ _ 0 (by omega)))) rfl ?_
 refine wl_y (y_move rfl) rfl ?_
 refine wl_y (y_extract rfl rfl) rfl ?_
 refine wl_y (y_extract rfl rfl) rfl ?_
 refine wl_y (y_assign rfl) rfl ?_
 refine wl_y (y_assign rfl) rfl ?_
 refine wl_nil ?_
 refine wq_then_norm (hK3 ?_)
 refine wc_seq ?_; intro K4 hK4
 refine wc_region ?_
 refine wl_y (y_fieldAddr (o := 0) (s := 1) (off := 0) (o' := 0) rfl Tryz.underlying261 rfl (by kernel_rfl) rfl rfl) rfl ?_
 refine wl_y (y_load1 rfl Tryz.underlying38 rfl (C1.get (i := 0) rfl)) rfl ?_
 refine wl_y (y_move rfl) rfl ?_
 refine wl_y (y_move rfl) rfl ?_
 refine wl_y ((ef_ext rfl (add64_run _ _ _ (by omega)))) rfl ?_
 refine wl_y (y_move rfl) rfl ?_
 refine wl_y (y_extract rfl rfl) rfl ?_
 refine wl_y (y_extract rfl rfl) rfl ?_
 refine wl_y (y_assign rfl) rfl ?_
 refine wl_nil ?_
 refine wq_then_norm (hK4 ?_)
 refine wc_seq ?_; intro K5 hK5
 rw [show (s / 18446744073709551616 + m / 18446744073709551616 + (s % 18446744073709551616 + m % 18446744073709551616 + 0) / 18446744073709551616) % 18446744073709551616 = (s + m) / 18446744073709551616 by omega, show (s % 18446744073709551616 + m % 18446744073709551616 + 0) % 18446744073709551616 = (s + m) % 18446744073709551616 by omega]
 refine wc_region ?_
 refine wl_y (y_move rfl) rfl ?_
 refine wl_y (y_move rfl) rfl ?_
 refine wl_y (y_build rfl (cells := tw (s + m)) (by kernel_rfl)) rfl ?_
 refine wl_ef (ef_storeW rfl rfl (by kernel_rfl) C2 rfl (tw_one _)) rfl ?_
 rintro _ w4 ⟨rfl, B4, cg⟩
 have E4 := E3.chg cg hg2'
 refine wl_nil ?_
 refine wq_then_norm (hK5 ?_)
 refine wc_ret ?_
 refine hret rfl B4 rfl ?_
 exact ⟨rfl, E4⟩
end
section
open Go.RowKit
attribute [local irreducible] Y Ef WL WC WK WQ WM OpM
def sm (S : Nat → Nat) : Array Value := ((List.range 5).map fun r => (tw (S r)).toList).flatten.toArray
theorem sm_lit (S : Nat → Nat) : sm S = #[.int .u64 ((S 0 / 18446744073709551616 : Nat) : Int), .int .u64 ((S 0 % 18446744073709551616 : Nat) : Int), .int .u64 ((S 1 / 18446744073709551616 : Nat) : Int), .int .u64 ((S 1 % 18446744073709551616 : Nat) : Int), .int .u64 ((S 2 / 18446744073709551616 : Nat) : Int), .int .u64 ((S 2 % 18446744073709551616 : Nat) : Int), .int .u64 ((S 3 / 18446744073709551616 : Nat) : Int), .int .u64 ((S 3 % 18446744073709551616 : Nat) : Int), .int .u64 ((S 4 / 18446744073709551616 : Nat) : Int), .int .u64 ((S 4 % 18446744073709551616 : Nat) : Int)] := rfl
theorem sm_size (S : Nat → Nat) : (sm S).size = 10 := rfl
theorem sm_get (S : Nat → Nat) {r : Nat} (hr : r < 5) (j : Nat) (v : Value) (h : (tw (S r))[j]? = some v) : (sm S)[r * 2 + j]? = some v := by
 rw [sm_lit]
 unfold tw at h
 have hj : j < 2 := by
  rcases Nat.lt_or_ge j 2 with h1 | h1
  ·exact h1
  ·rw [Array.getElem?_eq_none (by simpa using h1)] at h; cases h
 rcases Nat.lt_or_ge j 1 with h1 | h1
 ·obtain rfl : j = 0 := by omega
  match r, hr with
  | 0, _ | 1, _ | 2, _ | 3, _ | 4, _ => simpa using h
 ·obtain rfl : j = 1 := by omega
  match r, hr with
  | 0, _ | 1, _ | 2, _ | 3, _ | 4, _ => simpa using h
theorem sm_cut (S : Nat → Nat) {r : Nat} (hr : r < 5) : (sm S).extract (r * 2) (r * 2 + 2) = tw (S r) := by
 rw [sm_lit]
 match r, hr with
 | 0, _ | 1, _ | 2, _ | 3, _ | 4, _ => rfl
theorem sm_put (S : Nat → Nat) {r : Nat} (hr : r < 5) (x : Nat) : ((sm S).toList.take (r * 2) ++ (tw x).toList ++ (sm S).toList.drop (r * 2 + (tw x).size)).toArray = sm (fun q => if q = r then x else S q) := by
 rw [sm_lit, sm_lit]
 match r, hr with
 | 0, _ | 1, _ | 2, _ | 3, _ | 4, _ => rfl
theorem sm_congr {S T : Nat → Nat} (h : ∀ r, r < 5 → S r = T r) : sm S = sm T := by
 rw [sm_lit, sm_lit, h 0 (by omega), h 1 (by omega), h 2 (by omega), h 3 (by omega), h 4 (by omega)]
theorem shl13 (x : Nat) (hx : x * 8192 < 18446744073709551616) : IntKind.u64.wrap ((x : Int) * 2 ^ (min (13 : Int).toNat IntKind.u64.bits)) = ((x * 8192 : Nat) : Int) := by
 rw [show (2 : Int) ^ (min (13 : Int).toNat IntKind.u64.bits) = 8192 from rfl]
 exact u64_nat (by omega) hx
theorem or13 (a b : Nat) (hb : b < 8192) (ha : a * 8192 < 18446744073709551616) : bits .or .u64 ((a * 8192 : Nat) : Int) (b : Int) = ((a * 8192 + b : Nat) : Int) := by
 have h := (bits_u64 (p := a * 8192) (q := b) ha (by omega)).2.1
 rw [h, show a * 8192 = 2 ^ 13 * a by omega, Nat.two_pow_add_eq_or_of_lt (show b < 2 ^ 13 from hb)]
theorem emul_any (f g : Nat → Nat) (w : World) (hf : Fp.small f) (hg : Fp.small g) :
  Calls Tryz.prog 152 #[.agg (fe f), .agg (fe g)] w fun e w' => ∃ h, e = .returned (.agg (fe h)) ∧ Fp.small h ∧ Fp.val h % Fp.p = Fp.val f * Fp.val g % Fp.p ∧ Ext w w' := by
 obtain ⟨S, hS⟩ : ∃ S, S = Fp.acc f g 25 := ⟨_, rfl⟩
 have hSl : ∀ j, j < 5 → S j ≤ 9634144561734543451374944360857600 := fun j _ => by rw [hS]; exact Fp.acc_le hf hg 25 j (by omega)
 have hS4 : S 4 ≤ 101412048018258352119736256430080 := by rw [hS]; exact Fp.acc_four hf hg
 have hz : ∀ t r, t ≤ 25 → Fp.acc f g t r ≤ 9634144561734543451374944360857600 := fun t r ht => by have := Fp.acc_le hf hg t r ht; omega
 refine vc_enterc1 (s := 5) 88 Tryz.func152 rfl rfl rfl Tryz.underlying135 rfl (by kernel_rfl) rfl ?_
 intro Q hret
 refine wc_seq ?_; intro K1 hK1
 refine wc_region ?_
 refine wl_ef (ef_box (cs := fe f) rfl rfl) rfl ?_
 rintro _ w1 ⟨g1, rfl, B1, hg1, ex⟩
 have E1 := ex; have hl1 := B1.lt
 refine wl_ef (ef_box (cs := fe g) rfl rfl) rfl ?_
 rintro _ w2 ⟨g2, rfl, B2, hg2, ex⟩
 have E2 := E1.ext ex; replace B1 := B1.ext ex; have hl2 := B2.lt
 refine wl_ef (ef_alloc (Z := fe (fun _ => 0)) (by kernel_rfl)) rfl ?_
 rintro _ w3 ⟨g3, rfl, B3, hg3, ex⟩
 have E3 := E2.ext ex; replace B1 := B1.ext ex; replace B2 := B2.ext ex; have hl3 := B3.lt
 refine wl_nil ?_
 refine wq_then_norm (hK1 ?_)
 refine wc_seq ?_; intro K2 hK2
 refine wc_region ?_
 refine wl_ef (ef_alloc (Z := sm (fun _ => 0)) (by kernel_rfl)) rfl ?_
 rintro _ w4 ⟨g4, rfl, B4, hg4, ex⟩
 have E4 := E3.ext ex; replace B1 := B1.ext ex; replace B2 := B2.ext ex; replace B3 := B3.ext ex; have hl4 := B4.lt; have hg4' : w.heap.size ≤ g4 := Nat.le_trans E3.size hg4; have hg3' : w.heap.size ≤ g3 := Nat.le_trans E2.size hg3
 refine wl_nil ?_
 refine wq_then_norm (hK2 ?_)
 refine wc_seq ?_; intro K3 hK3
 refine wc_seq ?_; intro K4 hK4
 refine wc_region ?_
 refine wl_y (y_fieldAddr (o := 0) (s := 5) (off := 0) (o' := 0) rfl Tryz.underlying135 rfl (by kernel_rfl) rfl rfl) rfl ?_
 refine wl_y (y_loadw rfl Tryz.underlying133 rfl (by kernel_rfl) B1) rfl ?_
 refine wl_y (y_move rfl) rfl ?_
 refine wl_nil ?_
 refine wq_then_norm (hK4 ?_)
 refine wc_block ?_
 refine wc_loop (fun n' L wr => ∃ i : Nat, L = [(3, .pointer (some ⟨g2, 0, none⟩)), (4, .pointer (some ⟨g3, 0, none⟩)), (5, .pointer (some ⟨g4, 0, none⟩)), (18, .agg (fe f)), (19, .int .i64 (i : Int))] ∧ n' = 5 - i ∧ (i ≤ 5 ∧ Ext w wr ∧ Blk wr g2 135 (fe g) ∧ Blk wr g3 135 (fe (fun _ => 0)) ∧ Blk wr g4 262 (sm (Fp.acc f g (5 * i))))) _ _ ⟨0, rfl, rfl, by omega, E4, B2, B3, B4⟩ ⟨rfl, rfl, rfl, rfl, (by first | rfl | exact congrArg some (int_val (by omega))), trivial⟩ ?_
 rintro KL1 n' L wr ⟨i, rfl, rfl, hi, F, C2, C3, C4⟩ hL1
 refine wc_seq ?_; intro K5 hK5
 refine wc_region ?_
 refine wl_y (y_lss rfl rfl) rfl ?_
 refine wl_nil ?_
 refine wq_then_norm (hK5 ?_)
 refine wc_seq ?_; intro K6 hK6
 refine wc_dec rfl (fun hc1 => ?_) (fun hc1 => ?_)
 ·skip
  refine wc_skip ?_
  refine wq_then_norm (hK6 ?_)
  refine wc_seq ?_; intro K7 hK7
  refine wc_block ?_
  refine wc_seq ?_; intro K8 hK8
  refine wc_region ?_
  refine wl_y (y_move rfl) rfl ?_
  refine wl_y (y_ix1 rfl rfl Tryz.underlying133 Tryz.underlying38 rfl (by kernel_rfl) rfl (by omega) (fe_get f rfl (by omega))) rfl ?_
  refine wl_y (y_assign rfl) rfl ?_
  refine wl_y (y_assign rfl) rfl ?_
  refine wl_nil ?_
  refine wq_then_norm (hK8 ?_)
  refine wc_seq ?_; intro K9 hK9
  refine wc_region ?_
  refine wl_y (y_fieldAddr (o := 0) (s := 5) (off := 0) (o' := 0) rfl Tryz.underlying135 rfl (by kernel_rfl) rfl rfl) rfl ?_
  refine wl_y (y_loadw rfl Tryz.underlying133 rfl (by kernel_rfl) C2) rfl ?_
  refine wl_y (y_move rfl) rfl ?_
  refine wl_nil ?_
  refine wq_then_norm (hK9 ?_)
  refine wc_block ?_
  have hfi := hf i (by omega)
  refine wc_loop (fun n' L wq => ∃ k : Nat, L = [(3, .pointer (some ⟨g2, 0, none⟩)), (4, .pointer (some ⟨g3, 0, none⟩)), (5, .pointer (some ⟨g4, 0, none⟩)), (6, .int .i64 (i : Int)), (7, .int .u64 ((f i : Nat) : Int)), (18, .agg (fe f)), (19, .int .i64 (i : Int)), (24, .agg (fe g)), (25, .int .i64 (k : Int))] ∧ n' = 5 - k ∧ (k ≤ 5 ∧ Ext w wq ∧ Blk wq g2 135 (fe g) ∧ Blk wq g3 135 (fe (fun _ => 0)) ∧ Blk wq g4 262 (sm (Fp.acc f g (5 * i + k))))) _ _ ⟨0, rfl, rfl, by omega, F, C2, C3, C4⟩ ⟨rfl, rfl, rfl, (by first | rfl | exact congrArg some (int_val (by omega))), (by first | rfl | exact congrArg some (int_val (by omega))), rfl, (by first | rfl | exact congrArg some (int_val (by omega))), rfl, (by first | rfl | exact congrArg some (int_val (by omega))), trivial⟩ ?_
  rintro KL2 n' L wq ⟨k, rfl, rfl, hk, G, K2, K3, K4⟩ hL2
  refine wc_seq ?_; intro K10 hK10
  refine wc_region ?_
  refine wl_y (y_lss rfl rfl) rfl ?_
  refine wl_nil ?_
  refine wq_then_norm (hK10 ?_)
  refine wc_seq ?_; intro K11 hK11
  refine wc_dec rfl (fun hc2 => ?_) (fun hc2 => ?_)
  ·skip
   refine wc_skip ?_
   refine wq_then_norm (hK11 ?_)
   refine wc_seq ?_; intro K12 hK12
   refine wc_block ?_
   refine wc_seq ?_; intro K13 hK13
   refine wc_region ?_
   refine wl_y (y_move rfl) rfl ?_
   refine wl_y (y_ix1 rfl rfl Tryz.underlying133 Tryz.underlying38 rfl (by kernel_rfl) rfl (by omega) (fe_get g rfl (by omega))) rfl ?_
   refine wl_y (y_assign rfl) rfl ?_
   refine wl_y (y_assign rfl) rfl ?_
   refine wl_nil ?_
   refine wq_then_norm (hK13 ?_)
   refine wc_seq ?_; intro K14 hK14
   refine wc_seq ?_; intro K15 hK15
   refine wc_region ?_
   refine wl_y (y_move rfl) rfl ?_
   refine wl_y (y_move rfl) rfl ?_
   refine wl_y (y_add rfl rfl (i64_nat (n := i + k) (by omega) (by omega))) rfl ?_
   refine wl_y (y_geq rfl rfl) rfl ?_
   refine wl_nil ?_
   refine wq_then_norm (hK15 ?_)
   refine wc_dec rfl (fun hc3 => ?_) (fun hc3 => ?_)
   ·skip
    have hgk := hg k (by omega)
    refine wc_region ?_
    refine wl_y (y_move rfl) rfl ?_
    refine wl_y (y_mul rfl rfl (u64_nat (n := g k * 19) (by omega) (by omega))) rfl ?_
    refine wl_y (y_assign rfl) rfl ?_
    refine wl_nil ?_
    refine wq_then_norm (hK14 ?_)
    have hgk' := hg k (by omega)
    have hr5 : (i + k) % 5 < 5 := by omega
    have hac := hz (5 * i + k) ((i + k) % 5) (by omega)
    have hpr : f i * (g k * 19) ≤ 4503599627370496 * 85568392920039424 := Nat.mul_le_mul (by omega) (by omega)
    have hmt : ∀ r, Fp.acc f g (5 * i + (k + 1)) r = if r = (i + k) % 5 then Fp.acc f g (5 * i + k) ((i + k) % 5) + f i * (g k * 19) else Fp.acc f g (5 * i + k) r := fun r => by
     rw [show 5 * i + (k + 1) = 5 * i + k + 1 from rfl, Fp.acc, Fp.mulT, show (5 * i + k) / 5 = i by omega, show (5 * i + k) % 5 = k by omega]
     by_cases h : r = (i + k) % 5
     ·subst h; rw [if_pos rfl, if_pos rfl]; congr 2; split <;> first | rfl | (exfalso; omega)
     ·rw [if_neg h, if_neg (fun e => h e.symm), Nat.add_zero]
    refine wc_region ?_
    refine wl_y (y_move rfl) rfl ?_
    refine wl_y (y_move rfl) rfl ?_
    refine wl_y (y_add rfl rfl (i64_nat (n := i + k) (by omega) (by omega))) rfl ?_
    refine wl_y (y_rem rfl rfl (by omega) (show (((i + k : Nat) : Int).tmod 5 = (((i + k) % 5 : Nat) : Int)) from rfl)) rfl ?_
    refine wl_y (y_move rfl) rfl ?_
    refine wl_y (y_move rfl) rfl ?_
    refine wl_y (y_add rfl rfl (i64_nat (n := i + k) (by omega) (by omega))) rfl ?_
    refine wl_y (y_rem rfl rfl (by omega) (show (((i + k : Nat) : Int).tmod 5 = (((i + k) % 5 : Nat) : Int)) from rfl)) rfl ?_
    refine wl_y (y_ixap (s := 2) rfl rfl Tryz.underlying262 (by kernel_rfl) rfl (by omega)) rfl ?_
    refine wl_y (y_loadp rfl Tryz.underlying261 rfl (cs := tw (Fp.acc f g (5 * i + k) ((i + k) % 5))) (by kernel_rfl) (fun j v h => by rw [Addr.add_plain, Nat.zero_add]; exact K4.get (sm_get _ hr5 j v h))) rfl ?_
    refine wl_y (y_move rfl) rfl ?_
    refine wl_y (y_move rfl) rfl ?_
    refine wl_call Tryz.func218 rfl rfl rfl (plus_any _ (f i) (g k * 19) _ (by omega) (by omega) (by omega)) rfl ?_
    rintro e w5 ⟨rfl, ex⟩
    refine ⟨_, rfl, ?_⟩
    have G5 := G.ext ex; have L2 := K2.ext ex; have L3 := K3.ext ex; have L4 := K4.ext ex
    refine wl_y (y_ixap (s := 2) rfl rfl Tryz.underlying262 (by kernel_rfl) rfl (by omega)) rfl ?_
    refine wl_ef (ef_storeP rfl rfl (by kernel_rfl) L4 (by rw [sm_size]; show 0 + (i + k) % 5 * 2 + 2 ≤ 10; omega) (tw_one _)) rfl ?_
    rintro _ w6 ⟨rfl, B6, cg⟩
    rw [Nat.zero_add, sm_put _ hr5] at B6; have G6 := G5.chg cg hg4'; have M2 := L2.chg cg (by omega); have M3 := L3.chg cg (by omega)
    refine wl_nil ?_
    refine wq_blk_norm ?_
    refine wq_then_norm (hK12 ?_)
    refine wc_region ?_
    refine wl_y (y_add rfl rfl (i64_ok (by omega) (by omega))) rfl ?_
    refine wl_y (y_move rfl) rfl ?_
    refine wl_nil ?_
    refine wq_then_norm ?_
    refine hL2 _ _ ⟨k + 1, rfl, rfl, by omega, G6, M2, M3, B6.congr (sm_congr fun r _ => (hmt r).symm)⟩ (by omega) ⟨rfl, rfl, rfl, (by first | rfl | exact congrArg some (int_val (by omega))), (by first | rfl | exact congrArg some (int_val (by omega))), rfl, (by first | rfl | exact congrArg some (int_val (by omega))), rfl, (by first | rfl | exact congrArg some (int_val (by omega))), trivial⟩
   ·skip
    refine wc_skip ?_
    refine wq_then_norm (hK14 ?_)
    have hgk' := hg k (by omega)
    have hr5 : (i + k) % 5 < 5 := by omega
    have hac := hz (5 * i + k) ((i + k) % 5) (by omega)
    have hpr : f i * (g k) ≤ 4503599627370496 * 85568392920039424 := Nat.mul_le_mul (by omega) (by omega)
    have hmt : ∀ r, Fp.acc f g (5 * i + (k + 1)) r = if r = (i + k) % 5 then Fp.acc f g (5 * i + k) ((i + k) % 5) + f i * (g k) else Fp.acc f g (5 * i + k) r := fun r => by
     rw [show 5 * i + (k + 1) = 5 * i + k + 1 from rfl, Fp.acc, Fp.mulT, show (5 * i + k) / 5 = i by omega, show (5 * i + k) % 5 = k by omega]
     by_cases h : r = (i + k) % 5
     ·subst h; rw [if_pos rfl, if_pos rfl]; congr 2; split <;> first | rfl | (exfalso; omega)
     ·rw [if_neg h, if_neg (fun e => h e.symm), Nat.add_zero]
    refine wc_region ?_
    refine wl_y (y_move rfl) rfl ?_
    refine wl_y (y_move rfl) rfl ?_
    refine wl_y (y_add rfl rfl (i64_nat (n := i + k) (by omega) (by omega))) rfl ?_
    refine wl_y (y_rem rfl rfl (by omega) (show (((i + k : Nat) : Int).tmod 5 = (((i + k) % 5 : Nat) : Int)) from rfl)) rfl ?_
    refine wl_y (y_move rfl) rfl ?_
    refine wl_y (y_move rfl) rfl ?_
    refine wl_y (y_add rfl rfl (i64_nat (n := i + k) (by omega) (by omega))) rfl ?_
    refine wl_y (y_rem rfl rfl (by omega) (show (((i + k : Nat) : Int).tmod 5 = (((i + k) % 5 : Nat) : Int)) from rfl)) rfl ?_
    refine wl_y (y_ixap (s := 2) rfl rfl Tryz.underlying262 (by kernel_rfl) rfl (by omega)) rfl ?_
    refine wl_y (y_loadp rfl Tryz.underlying261 rfl (cs := tw (Fp.acc f g (5 * i + k) ((i + k) % 5))) (by kernel_rfl) (fun j v h => by rw [Addr.add_plain, Nat.zero_add]; exact K4.get (sm_get _ hr5 j v h))) rfl ?_
    refine wl_y (y_move rfl) rfl ?_
    refine wl_y (y_move rfl) rfl ?_
    refine wl_call Tryz.func218 rfl rfl rfl (plus_any _ (f i) (g k) _ (by omega) (by omega) (by omega)) rfl ?_
    rintro e w5 ⟨rfl, ex⟩
    refine ⟨_, rfl, ?_⟩
    have G5 := G.ext ex; have L2 := K2.ext ex; have L3 := K3.ext ex; have L4 := K4.ext ex
    refine wl_y (y_ixap (s := 2) rfl rfl Tryz.underlying262 (by kernel_rfl) rfl (by omega)) rfl ?_
    refine wl_ef (ef_storeP rfl rfl (by kernel_rfl) L4 (by rw [sm_size]; show 0 + (i + k) % 5 * 2 + 2 ≤ 10; omega) (tw_one _)) rfl ?_
    rintro _ w6 ⟨rfl, B6, cg⟩
    rw [Nat.zero_add, sm_put _ hr5] at B6; have G6 := G5.chg cg hg4'; have M2 := L2.chg cg (by omega); have M3 := L3.chg cg (by omega)
    refine wl_nil ?_
    refine wq_blk_norm ?_
    refine wq_then_norm (hK12 ?_)
    refine wc_region ?_
    refine wl_y (y_add rfl rfl (i64_ok (by omega) (by omega))) rfl ?_
    refine wl_y (y_move rfl) rfl ?_
    refine wl_nil ?_
    refine wq_then_norm ?_
    refine hL2 _ _ ⟨k + 1, rfl, rfl, by omega, G6, M2, M3, B6.congr (sm_congr fun r _ => (hmt r).symm)⟩ (by omega) ⟨rfl, rfl, rfl, (by first | rfl | exact congrArg some (int_val (by omega))), (by first | rfl | exact congrArg some (int_val (by omega))), rfl, (by first | rfl | exact congrArg some (int_val (by omega))), rfl, (by first | rfl | exact congrArg some (int_val (by omega))), trivial⟩
  ·skip
   refine wc_exit ?_
   refine wq_then_exit ?_
   refine wq_then_exit ?_
   refine wq_blk_hit ?_
   refine wq_blk_norm ?_
   refine wq_then_norm (hK7 ?_)
   refine wc_region ?_
   refine wl_y (y_add rfl rfl (i64_ok (by omega) (by omega))) rfl ?_
   refine wl_y (y_move rfl) rfl ?_
   refine wl_nil ?_
   refine wq_then_norm ?_
   refine hL1 _ _ ⟨i + 1, rfl, rfl, by omega, G, K2, K3, K4.congr (by rw [show k = 5 by omega]; rfl)⟩ (by omega) ⟨rfl, rfl, rfl, rfl, (by first | rfl | exact congrArg some (int_val (by omega))), trivial⟩
 ·skip
  refine wc_exit ?_
  refine wq_then_exit ?_
  refine wq_then_exit ?_
  refine wq_blk_hit ?_
  refine wq_then_norm (hK3 ?_)
  refine wc_seq ?_; intro K16 hK16
  refine wc_region ?_
  have C4' : Blk wr g4 262 (sm S) := C4.congr (by rw [hS, show i = 5 by omega])
  refine wl_ef (ef_alloc (Z := fe (fun _ => 0)) (by kernel_rfl)) rfl ?_
  rintro _ w7 ⟨g7, rfl, B7, hg7, ex⟩
  have E7 := F.ext ex; have D3 := C3.ext ex; have D4 := C4'.ext ex; have hl7 := B7.lt; have hg7' : w.heap.size ≤ g7 := Nat.le_trans F.size hg7; have hl3' := C3.lt
  refine wl_nil ?_
  refine wq_then_norm (hK16 ?_)
  refine wc_seq ?_; intro K17 hK17
  refine wc_region ?_
  refine wl_y (y_assign rfl) rfl ?_
  refine wl_nil ?_
  refine wq_then_norm (hK17 ?_)
  refine wc_seq ?_; intro K18 hK18
  refine wc_seq ?_; intro K19 hK19
  refine wc_region ?_
  refine wl_y (y_loadw rfl Tryz.underlying262 rfl (by kernel_rfl) D4) rfl ?_
  refine wl_y (y_move rfl) rfl ?_
  refine wl_nil ?_
  refine wq_then_norm (hK19 ?_)
  refine wc_block ?_
  refine wc_loop (fun n' L wz => ∃ q : Nat, L = [(4, .pointer (some ⟨g3, 0, none⟩)), (10, .pointer (some ⟨g7, 0, none⟩)), (11, .int .u64 ((Fp.fr S q : Nat) : Int)), (51, .agg (sm S)), (52, .int .i64 (q : Int))] ∧ n' = 5 - q ∧ (q ≤ 5 ∧ Ext w wz ∧ Blk wz g3 135 (fe (fun _ => 0)) ∧ Blk wz g7 135 (fe (fun j => if j < q then (S j + Fp.fr S j) % 2251799813685248 else 0)))) _ _ ⟨0, rfl, rfl, by omega, E7, D3, B7⟩ ⟨rfl, rfl, (by first | rfl | exact congrArg some (int_val (by omega))), rfl, (by first | rfl | exact congrArg some (int_val (by omega))), trivial⟩ ?_
  rintro KL3 n' L wz ⟨q, rfl, rfl, hq, H, J3, J7⟩ hL3
  refine wc_seq ?_; intro K20 hK20
  refine wc_region ?_
  refine wl_y (y_lss rfl rfl) rfl ?_
  refine wl_nil ?_
  refine wq_then_norm (hK20 ?_)
  refine wc_seq ?_; intro K21 hK21
  refine wc_dec rfl (fun hc4 => ?_) (fun hc4 => ?_)
  ·skip
   refine wc_skip ?_
   refine wq_then_norm (hK21 ?_)
   refine wc_seq ?_; intro K22 hK22
   refine wc_block ?_
   refine wc_seq ?_; intro K23 hK23
   refine wc_region ?_
   refine wl_y (y_move rfl) rfl ?_
   refine wl_y (y_ixw rfl rfl Tryz.underlying262 Tryz.underlying261 rfl (by kernel_rfl) rfl (by omega) (sm_cut S (by omega))) rfl ?_
   refine wl_ef (ef_alloc (Z := tw 0) (by kernel_rfl)) rfl ?_
   rintro _ w8 ⟨g8, rfl, B8, hg8, ex⟩
   have H8 := H.ext ex; have P3 := J3.ext ex; have P7 := J7.ext ex; have hg8' : w.heap.size ≤ g8 := Nat.le_trans H.size hg8; have hl3z := J3.lt; have hl7z := J7.lt
   refine wl_y (y_assign rfl) rfl ?_
   refine wl_ef (ef_storeW rfl rfl (by kernel_rfl) B8 rfl (tw_one _)) rfl ?_
   rintro _ w9 ⟨rfl, B9, cg⟩
   have H9 := H8.chg cg hg8'; have Q3 := P3.chg cg (by omega); have Q7 := P7.chg cg (by omega); have hfr := Fp.fr_le hSl q (by omega); have hSq := hSl q (by omega)
   refine wl_nil ?_
   refine wq_then_norm (hK23 ?_)
   refine wc_seq ?_; intro K24 hK24
   refine wc_region ?_
   refine wl_y (y_fieldAddr (o := 1) (s := 1) (off := 0) (o' := 1) rfl Tryz.underlying261 rfl (by kernel_rfl) rfl rfl) rfl ?_
   refine wl_y (y_load1 rfl Tryz.underlying38 rfl (B9.get (i := 1) rfl)) rfl ?_
   refine wl_y (y_move rfl) rfl ?_
   refine wl_y ((ef_ext rfl (add64_run _ _ 0 (by omega)))) rfl ?_
   refine wl_y (y_move rfl) rfl ?_
   refine wl_y (y_extract rfl rfl) rfl ?_
   refine wl_y (y_extract rfl rfl) rfl ?_
   refine wl_y (y_assign rfl) rfl ?_
   refine wl_y (y_assign rfl) rfl ?_
   refine wl_nil ?_
   refine wq_then_norm (hK24 ?_)
   refine wc_seq ?_; intro K25 hK25
   refine wc_region ?_
   refine wl_y (y_fieldAddr (o := 0) (s := 1) (off := 0) (o' := 0) rfl Tryz.underlying261 rfl (by kernel_rfl) rfl rfl) rfl ?_
   refine wl_y (y_load1 rfl Tryz.underlying38 rfl (B9.get (i := 0) rfl)) rfl ?_
   refine wl_y (y_move rfl) rfl ?_
   refine wl_y (y_add rfl rfl (u64_nat (n := (S q + Fp.fr S q) / 18446744073709551616) (by omega) (by omega))) rfl ?_
   refine wl_y (y_assign rfl) rfl ?_
   refine wl_nil ?_
   refine wq_then_norm (hK25 ?_)
   refine wc_seq ?_; intro K26 hK26
   rw [show (S q % 18446744073709551616 + Fp.fr S q + 0) % 18446744073709551616 = (S q + Fp.fr S q) % 18446744073709551616 by omega]
   refine wc_region ?_
   refine wl_y (y_move rfl) rfl ?_
   refine wl_y (y_move rfl) rfl ?_
   refine wl_y (y_and rfl rfl (and51 _ (by omega))) rfl ?_
   refine wl_y (y_fieldAddr (o := 0) (s := 5) (off := 0) (o' := 0) rfl Tryz.underlying135 rfl (by kernel_rfl) rfl rfl) rfl ?_
   refine wl_y (y_ixa1 rfl rfl Tryz.underlying133 (by kernel_rfl) rfl (by omega)) rfl ?_
   refine wl_ef (ef_storeB rfl rfl rfl (by kernel_rfl) Q7 (by rw [fe_size]; omega)) rfl ?_
   rintro _ w10 ⟨rfl, B10, cg⟩
   rw [Nat.zero_add, fe_set] at B10; have H10 := H9.chg cg hg7'; have R3 := Q3.chg cg (by omega)
   refine wl_nil ?_
   refine wq_then_norm (hK26 ?_)
   refine wc_region ?_
   refine wl_y (y_move rfl) rfl ?_
   refine wl_y (y_shl rfl rfl (by omega) (shl13 _ (by omega))) rfl ?_
   refine wl_y (y_move rfl) rfl ?_
   refine wl_y (y_shr rfl rfl (by omega) (shr51 _ (by omega))) rfl ?_
   refine wl_y (y_or rfl rfl (or13 _ _ (by omega) (by omega))) rfl ?_
   refine wl_y (y_assign rfl) rfl ?_
   refine wl_nil ?_
   refine wq_blk_norm ?_
   refine wq_then_norm (hK22 ?_)
   refine wc_region ?_
   refine wl_y (y_add rfl rfl (i64_ok (by omega) (by omega))) rfl ?_
   refine wl_y (y_move rfl) rfl ?_
   refine wl_nil ?_
   refine wq_then_norm ?_
   have hfrs : Fp.fr S (q + 1) = (S q + Fp.fr S q) / 2251799813685248 := rfl
   refine hL3 _ _ ⟨q + 1, rfl, rfl, by omega, H10, R3, B10.congr (fe_congr fun j hj => by
    by_cases h : j = q
    ·subst h; rw [if_pos rfl, if_pos (by omega)]; omega
    ·rw [if_neg h]; by_cases h2 : j < q
     ·rw [if_pos h2, if_pos (by omega)]
     ·rw [if_neg h2, if_neg (by omega)])⟩ (by omega) ⟨rfl, rfl, (by first | rfl | exact congrArg some (int_val (by omega))), rfl, (by first | rfl | exact congrArg some (int_val (by omega))), trivial⟩
  ·skip
   refine wc_exit ?_
   refine wq_then_exit ?_
   refine wq_then_exit ?_
   refine wq_blk_hit ?_
   refine wq_then_norm (hK18 ?_)
   refine wc_seq ?_; intro K27 hK27
   obtain rfl : q = 5 := by omega
   have hf5 := Fp.fr_five hSl hS4
   obtain ⟨o, ho⟩ : ∃ o : Nat → Nat, o = fun j => (S j + Fp.fr S j) % 2251799813685248 + (if j = 0 then Fp.fr S 5 * 19 else 0) := ⟨_, rfl⟩
   have hol : ∀ j, j < 5 → o j < 18446744073709551616 := fun j hj => by rw [ho]; show (S j + Fp.fr S j) % 2251799813685248 + (if j = 0 then Fp.fr S 5 * 19 else 0) < _; split <;> omega
   have hov := Fp.val_out S
   rw [← ho] at hov
   have hoc : ∀ j, j < 5 → (if j = 0 then (S 0 + Fp.fr S 0) % 2251799813685248 + Fp.fr S 5 * 19 else if j < 5 then (S j + Fp.fr S j) % 2251799813685248 else 0) = o j := fun j hj => by
    rw [ho]
    show _ = (S j + Fp.fr S j) % 2251799813685248 + (if j = 0 then Fp.fr S 5 * 19 else 0)
    by_cases h : j = 0
    ·subst h; rw [if_pos rfl, if_pos rfl]
    ·rw [if_neg h, if_pos hj, if_neg h, Nat.add_zero]
   refine wc_region ?_
   refine wl_y (y_fieldAddr (o := 0) (s := 5) (off := 0) (o' := 0) rfl Tryz.underlying135 rfl (by kernel_rfl) rfl rfl) rfl ?_
   refine wl_y (y_ixa1 rfl rfl Tryz.underlying133 (by kernel_rfl) (j := 0) rfl (by omega)) rfl ?_
   refine wl_y (y_load1 rfl Tryz.underlying38 rfl (J7.get (v := .int .u64 (((S 0 + Fp.fr S 0) % 2251799813685248 : Nat) : Int)) (by rw [Nat.zero_add, fe_get _ (j := 0) rfl (by omega), if_pos (by omega)]))) rfl ?_
   refine wl_y (y_move rfl) rfl ?_
   refine wl_y (y_mul rfl rfl (u64_nat (n := Fp.fr S 5 * 19) (by omega) (by omega))) rfl ?_
   refine wl_y (y_add rfl rfl (u64_nat (n := (S 0 + Fp.fr S 0) % 2251799813685248 + Fp.fr S 5 * 19) (by omega) (by omega))) rfl ?_
   refine wl_y (y_fieldAddr (o := 0) (s := 5) (off := 0) (o' := 0) rfl Tryz.underlying135 rfl (by kernel_rfl) rfl rfl) rfl ?_
   refine wl_y (y_ixa1 rfl rfl Tryz.underlying133 (by kernel_rfl) (j := 0) rfl (by omega)) rfl ?_
   refine wl_ef (ef_storeB rfl rfl rfl (by kernel_rfl) J7 (by rw [fe_size]; omega)) rfl ?_
   rintro _ w11 ⟨rfl, B11, cg⟩
   have H11 := H.chg cg hg7'; have hl7y := J7.lt; have U3 := J3.chg cg (by omega); replace B11 : Blk w11 g7 135 (fe o) := (B11.congr (fe_set _ 0 _)).congr (fe_congr hoc)
   refine wl_nil ?_
   refine wq_then_norm (hK27 ?_)
   refine wc_seq ?_; intro K28 hK28
   refine wc_region ?_
   refine wl_y (y_loadw rfl Tryz.underlying135 rfl (by kernel_rfl) B11) rfl ?_
   refine wl_call Tryz.func219 rfl rfl rfl (carry_any o _ hol) rfl ?_
   rintro e w12 ⟨rfl, ex⟩
   refine ⟨_, rfl, ?_⟩
   have H12 := H11.ext ex; have V3 := U3.ext ex
   refine wl_ef (ef_storeW rfl rfl (by rw [fe_size]; kernel_rfl) V3 (by rw [fe_size, fe_size]) (fe_one _)) rfl ?_
   rintro _ w13 ⟨rfl, B13, cg⟩
   have H13 := H12.chg cg hg3'
   refine wl_nil ?_
   refine wq_then_norm (hK28 ?_)
   refine wc_ret ?_
   refine hret rfl B13 (fe_size _) ?_
   exact ⟨Fp.carry o, rfl, Fp.carry_small hol, by
    obtain ⟨n, hn⟩ := Fp.acc_val f g
    rw [Fp.val_mod_carry, hn, Nat.add_mul_mod_self_left, ← hS, ← hov, Nat.add_mul_mod_self_left], H13⟩
end
end Go.Proofs.YtjllhimhiekchaaGreat
