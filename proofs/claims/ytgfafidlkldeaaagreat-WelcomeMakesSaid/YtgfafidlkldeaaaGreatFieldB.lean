/- The field's numbers by what they are worth: Num, Add, Sub, Neg, Mul, Square, Same, Zero, Odd: what each hands back. The field's Same and Zero. -/
import Derived.Test.YtgfafidlkldeaaaGreatFieldA
import Derived.Lib.Mul64
import Derived.Laws.Externs
import Derived.Test.YtgfafidlkldeaaaGreatAu
import Derived.Laws.StructEq
import Derived.ChangeKeysEq
set_option linter.unusedVariables false
set_option linter.unusedSimpArgs false
set_option maxHeartbeats 4000000
set_option maxRecDepth 4000
namespace Go.Proofs.YtgfafidlkldeaaaGreat
section
section
open Go.RowKit Tryz
attribute [local irreducible] Y Ef WL WC WK WQ WM cx
theorem AK (x : Nat) (hx : x < 18446744073709551616) : bits .and .u64 (x : Int) 4294967295 = ((x % 4294967296 : Nat) : Int) := by
 have h := (cf (p := x) (q := 4294967295) hx Om).1
 rw [show ((4294967295 : Int)) = ((4294967295 : Nat) : Int) from rfl, h, show (4294967295 : Nat) = 2 ^ 32 - 1 from rfl, Nat.and_two_pow_sub_one_eq_mod]
theorem uN (x : Nat) : (x : Int) / 2 ^ (min (32 : Int).toNat IntKind.u64.bits) = ((x / 4294967296 : Nat) : Int) := by
 rw [show (2 : Int) ^ (min (32 : Int).toNat IntKind.u64.bits) = ((4294967296 : Nat) : Int) from rfl]
 exact (Int.natCast_ediv _ _).symm
theorem mP (x y : Nat) (w : World) (hx : x < 18446744073709551616) (hy : y < 18446744073709551616) :
  Ct 237 #[.int .u64 (x : Int), .int .u64 (y : Int)] w fun e w' => e = .returned (.tuple #[.int .u64 ((x * y / 18446744073709551616 : Nat) : Int), .int .u64 ((x * y % 18446744073709551616 : Nat) : Int)]) ∧ Ext w w' := by
 obtain ⟨h1, h2, h3, h4⟩ := Lib.mul64_hi x y hx hy
 obtain ⟨xl, hxl⟩ : ∃ a, a = x % 4294967296 := ⟨_, rfl⟩
 obtain ⟨xh, hxh⟩ : ∃ a, a = x / 4294967296 := ⟨_, rfl⟩
 obtain ⟨yl, hyl⟩ : ∃ a, a = y % 4294967296 := ⟨_, rfl⟩
 obtain ⟨yh, hyh⟩ : ∃ a, a = y / 4294967296 := ⟨_, rfl⟩
 rw [← hxl, ← hyl] at h1
 rw [← hxl, ← hxh, ← hyl] at h2
 rw [← hxl, ← hxh, ← hyl, ← hyh] at h3 h4
 have hb := Lib.half_mul_le (a := xh) (b := yl) Om Om
 have hc := Lib.half_mul_le (a := xl) (b := yh) Om Om
 have hd := Lib.half_mul_le (a := xh) (b := yh) Om Om
 have hlt : x * y / 18446744073709551616 < 18446744073709551616 := Nat.div_lt_of_lt_mul (Nat.mul_lt_mul'' hx hy)
 obtain ⟨w0, Vl⟩ : ∃ a, a = xl * yl := ⟨_, rfl⟩
 obtain ⟨b0, Vm⟩ : ∃ a, a = xh * yl := ⟨_, rfl⟩
 obtain ⟨c0, Vn⟩ : ∃ a, a = xl * yh := ⟨_, rfl⟩
 obtain ⟨d0, Vo⟩ : ∃ a, a = xh * yh := ⟨_, rfl⟩
 rw [← Vl, ← Vm, ← Vn, ← Vo] at h4
 rw [← Vl] at h1
 rw [← Vl, ← Vm] at h2
 rw [← Vl, ← Vm, ← Vn] at h3
 rw [← Vm] at hb
 rw [← Vn] at hc
 rw [← Vo] at hd
 refine bK 51 func237 rfl rfl rfl rfl ?_
 intro _ hret
 refine au 9 ?_
 refine ak (cD rfl rfl (show bits .and .u64 (x : Int) 4294967295 = (xl : Int) by rw [hxl]; exact AK x hx)) ?_
 refine au 6 ?_
 refine ak (bY rfl rfl Om (show (x : Int) / 2 ^ (min (32 : Int).toNat IntKind.u64.bits) = (xh : Int) by rw [hxh]; exact uN x)) ?_
 refine au 6 ?_
 refine ak (cD rfl rfl (show bits .and .u64 (y : Int) 4294967295 = (yl : Int) by rw [hyl]; exact AK y hy)) ?_
 refine au 6 ?_
 refine ak (bY rfl rfl Om (show (y : Int) / 2 ^ (min (32 : Int).toNat IntKind.u64.bits) = (yh : Int) by rw [hyh]; exact uN y)) ?_
 refine au 7 ?_
 refine ak (cz rfl rfl (aE (n := w0) (by rw [Vl]; exact (Int.natCast_mul _ _).symm) h1)) ?_
 refine au 7 ?_
 refine ak (cz rfl rfl (aE (n := b0) (by rw [Vm]; exact (Int.natCast_mul _ _).symm) Om)) ?_
 refine au 1 ?_
 refine ak (bY rfl rfl Om (uN _)) ?_
 refine ak (aN rfl rfl (aE (n := b0 + w0 / 4294967296) Om h2)) ?_
 refine au 6 ?_
 refine ak (cD rfl rfl (AK _ h2)) ?_
 refine au 6 ?_
 refine ak (bY rfl rfl Om (uN _)) ?_
 refine au 8 ?_
 refine ak (cz rfl rfl (aE (n := c0) (by rw [Vn]; exact (Int.natCast_mul _ _).symm) Om)) ?_
 refine ak (aN rfl rfl (aE (n := (b0 + w0 / 4294967296) % 4294967296 + c0) Om h3)) ?_
 refine au 7 ?_
 refine ak (cz rfl rfl (aE (n := d0) (by rw [Vo]; exact (Int.natCast_mul _ _).symm) Om)) ?_
 refine au 1 ?_
 refine ak (aN rfl rfl (aE (n := d0 + (b0 + w0 / 4294967296) / 4294967296) Om Om)) ?_
 refine au 1 ?_
 refine ak (bY rfl rfl Om (uN _)) ?_
 refine ak (aN rfl rfl (aE (n := x * y / 18446744073709551616) Om hlt)) ?_
 refine au 7 ?_
 refine ak (cz rfl rfl (Gh (n := x * y) (Int.natCast_mul _ _).symm)) ?_
 refine aU ?_
 refine hret rfl rfl ?_
 exact ⟨rfl, Ext.refl _⟩
theorem fX (x y c : Nat) (hc : c ≤ 1) (w : World) :
  (callFunc 201 #[.int .u64 (x : Int), .int .u64 (y : Int), .int .u64 (c : Int)]).run Tryz.prog w = .ok (.value (.tuple #[.int .u64 (((x + y + c) % 18446744073709551616 : Nat) : Int), .int .u64 (((x + y + c) / 18446744073709551616 : Nat) : Int)])) w := by
 rw [run_callFunc_extern func201 Kr Kr Kr (e := add64Entry) Kr, run_add64 x y c Om Om Om Om]
 simp only [Result.andThen]
 congr 5 <;> omega
def tw (s : Nat) : Array Value := #[.int .u64 ((s / 18446744073709551616 : Nat) : Int), .int .u64 ((s % 18446744073709551616 : Nat) : Int)]
theorem rJ (s : Nat) : (tw s).all (·.oneCell') = true := by simp [tw, Value.oneCell']
theorem ue (s a b : Nat) (w : World) (ha : a < 18446744073709551616) (hb : b < 18446744073709551616) (hs : s + a * b < 340282366920938463463374607431768211456) :
  Ct 200 #[.agg (tw s), .int .u64 (a : Int), .int .u64 (b : Int)] w fun e w' => e = .returned (.agg (tw (s + a * b))) ∧ Ext w w' := by
 obtain ⟨m, hm⟩ : ∃ m, m = a * b := ⟨_, rfl⟩
 rw [← hm] at hs ⊢
 refine aI (s := 2) 34 func200 rfl rfl rfl underlying241 rfl Kr rfl ?_
 intro _ hret
 refine aU ?_
 intro w1 g1 (B1 : ao _ _ _ (tw s)) Vo ex
 have E1 := ex
 refine aU ?_
 intro w2 g2 (B2 : ao _ _ _ (tw 0)) Vm ex
 have E2 := E1.ext ex; have Vn := B1.ext ex; have Vl : w.heap.size ≤ g2 := Nat.le_trans E1.size Vm
 refine aU ?_
 refine aL func237 rfl (mP a b _ ha hb) ?_
 rintro e _ ⟨rfl, ex⟩
 refine au 1 ?_
 rw [← hm]; have E3 := E2.ext ex; have C1 := Vn.ext ex; have C2 := B2.ext ex
 refine au 12 ?_
 refine ak ((kI rfl (fX _ _ 0 Om))) ?_
 refine au 13 ?_
 refine ak ((kI rfl (fX _ _ _ Om))) ?_
 refine au 7 ?_
 rw [show (s / 18446744073709551616 + m / 18446744073709551616 + (s % 18446744073709551616 + m % 18446744073709551616 + 0) / 18446744073709551616) % 18446744073709551616 = (s + m) / 18446744073709551616 by omega, show (s % 18446744073709551616 + m % 18446744073709551616 + 0) % 18446744073709551616 = (s + m) % 18446744073709551616 by omega]
 refine au 3 ?_
 refine ak (aJ rfl (cells := tw (s + m)) Kr) ?_
 refine af (ag rfl rfl Kr C2 rfl (rJ _)) rfl ?_
 rintro _ _ ⟨rfl, B4, cg⟩
 have E4 := E3.aw cg Vl
 refine aU ?_
 refine hret rfl B4 rfl ?_
 exact ⟨rfl, E4⟩
end
section
open Go.RowKit Tryz
attribute [local irreducible] Y Ef WL WC WK WQ WM cx
def sm (S : Nat → Nat) : Array Value := ((List.range 5).map fun r => (tw (S r)).toList).flatten.toArray
theorem mM (S : Nat → Nat) : sm S = #[.int .u64 ((S 0 / 18446744073709551616 : Nat) : Int), .int .u64 ((S 0 % 18446744073709551616 : Nat) : Int), .int .u64 ((S 1 / 18446744073709551616 : Nat) : Int), .int .u64 ((S 1 % 18446744073709551616 : Nat) : Int), .int .u64 ((S 2 / 18446744073709551616 : Nat) : Int), .int .u64 ((S 2 % 18446744073709551616 : Nat) : Int), .int .u64 ((S 3 / 18446744073709551616 : Nat) : Int), .int .u64 ((S 3 % 18446744073709551616 : Nat) : Int), .int .u64 ((S 4 / 18446744073709551616 : Nat) : Int), .int .u64 ((S 4 % 18446744073709551616 : Nat) : Int)] := rfl
theorem xE (S : Nat → Nat) : (sm S).size = 10 := rfl
theorem Cs (S : Nat → Nat) {r : Nat} (hr : r < 5) (j : Nat) (v : Value) (h : (tw (S r))[j]? = some v) : (sm S)[r * 2 + j]? = some v := by
 rw [mM]
 unfold tw at h
 have hj : j < 2 := by
  rcases Nat.lt_or_ge j 2 with h1 | h1
  ·exact h1
  ·rw [Array.getElem?_eq_none (by simpa using h1)] at h; cases h
 rcases Nat.lt_or_ge j 1 with h1 | h1
 ·obtain rfl : j = 0 := by omega
  match r, hr with
  | 0, _ | 1, _ | 2, _ | 3, _ | 4, _ => simpa using h
 ·obtain rfl : j = 1 := by omega
  match r, hr with
  | 0, _ | 1, _ | 2, _ | 3, _ | 4, _ => simpa using h
theorem Ky (S : Nat → Nat) {r : Nat} (hr : r < 5) : (sm S).extract (r * 2) (r * 2 + 2) = tw (S r) := by
 rw [mM]
 match r, hr with
 | 0, _ | 1, _ | 2, _ | 3, _ | 4, _ => rfl
theorem Bc (S : Nat → Nat) {r : Nat} (hr : r < 5) (x : Nat) : ((sm S).toList.take (r * 2) ++ (tw x).toList ++ (sm S).toList.drop (r * 2 + (tw x).size)).toArray = sm (fun q => if q = r then x else S q) := by
 rw [mM, mM]
 match r, hr with
 | 0, _ | 1, _ | 2, _ | 3, _ | 4, _ => rfl
theorem uD {S T : Nat → Nat} (h : ∀ r, r < 5 → S r = T r) : sm S = sm T := by
 rw [mM, mM, h 0 Om, h 1 Om, h 2 Om, h 3 Om, h 4 Om]
theorem LC (x : Nat) (hx : x * 8192 < 18446744073709551616) : IntKind.u64.wrap ((x : Int) * 2 ^ (min (13 : Int).toNat IntKind.u64.bits)) = ((x * 8192 : Nat) : Int) := by
 rw [show (2 : Int) ^ (min (13 : Int).toNat IntKind.u64.bits) = 8192 from rfl]
 exact aE Om hx
theorem Nk (a b : Nat) (hb : b < 8192) (ha : a * 8192 < 18446744073709551616) : bits .or .u64 ((a * 8192 : Nat) : Int) (b : Int) = ((a * 8192 + b : Nat) : Int) := by
 have h := (cf (p := a * 8192) (q := b) ha Om).2.1
 rw [h, show a * 8192 = 2 ^ 13 * a by omega, Nat.two_pow_add_eq_or_of_lt (show b < 2 ^ 13 from hb)]
theorem Ap (f g : Nat → Nat) (w : World) (hf : Fp.small f) (hg : Fp.small g) :
  Ct 144 #[.agg (fe f), .agg (fe g)] w fun e w' => ∃ h, e = .returned (.agg (fe h)) ∧ Fp.small h ∧ Fp.val h % Fp.p = Fp.val f * Fp.val g % Fp.p ∧ Ext w w' := by
 obtain ⟨S, hS⟩ : ∃ S, S = Fp.acc f g 25 := ⟨_, rfl⟩
 have hSl : ∀ j, j < 5 → S j ≤ 9634144561734543451374944360857600 := fun j _ => by rw [hS]; exact Fp.Ci hf hg 25 j Om
 have Vu : S 4 ≤ 101412048018258352119736256430080 := by rw [hS]; exact Fp.Da hf hg
 have hz : ∀ t r, t ≤ 25 → Fp.acc f g t r ≤ 9634144561734543451374944360857600 := fun t r ht => by have := Fp.Ci hf hg t r ht; omega
 refine aI (s := 5) 88 func144 rfl rfl rfl underlying134 rfl Kr rfl ?_
 intro _ hret
 refine aU ?_
 intro w1 g1 (B1 : ao _ _ _ (fe f)) VP ex
 have E1 := ex
 refine aU ?_
 intro w2 g2 (B2 : ao _ _ _ (fe g)) VQ ex
 have E2 := E1.ext ex; replace B1 := B1.ext ex; have VR := B2.lt
 refine aU ?_
 intro w3 g3 (B3 : ao _ _ _ (fe (fun _ => 0))) Vv ex
 have E3 := E2.ext ex; replace B1 := B1.ext ex; replace B2 := B2.ext ex; have VS := B3.lt
 refine aU ?_
 intro w4 g4 (B4 : ao _ _ _ (sm (fun _ => 0))) Vw ex
 have E4 := E3.ext ex; replace B1 := B1.ext ex; replace B2 := B2.ext ex; replace B3 := B3.ext ex; have Vl : w.heap.size ≤ g4 := Nat.le_trans E3.size Vw; have Vo : w.heap.size ≤ g3 := Nat.le_trans E2.size Vv
 refine aU ?_
 refine aF (fun n' L wr => ∃ i : Nat, L = [(3, .pointer (some ⟨g2, 0, none⟩)), (4, .pointer (some ⟨g3, 0, none⟩)), (5, .pointer (some ⟨g4, 0, none⟩)), (18, .agg (fe f)), (19, .int .i64 (i : Int))] ∧ n' = 5 - i ∧ (i ≤ 5 ∧ Ext w wr ∧ ao wr g2 134 (fe g) ∧ ao wr g3 134 (fe (fun _ => 0)) ∧ ao wr g4 242 (sm (Fp.acc f g (5 * i))))) _ _ ⟨0, rfl, rfl, by omega, E4, B2, B3, B4⟩ Ls ?_
 rintro _ n' L wr ⟨i, rfl, rfl, _, F, C2, C3, C4⟩ Vx
 refine aU ?_
 refine al rfl (fun Vy => ?_) (fun Vy => ?_)
 ·refine au 7 ?_
  refine ak (mn rfl rfl Tn.u Tn.u rfl Kr rfl Om (dj f rfl Om)) ?_
  refine aU ?_
  have hfi := hf i Om
  refine aF (fun n' L wq => ∃ k : Nat, L = [(3, .pointer (some ⟨g2, 0, none⟩)), (4, .pointer (some ⟨g3, 0, none⟩)), (5, .pointer (some ⟨g4, 0, none⟩)), (6, .int .i64 (i : Int)), (7, .int .u64 ((f i : Nat) : Int)), (18, .agg (fe f)), (19, .int .i64 (i : Int)), (24, .agg (fe g)), (25, .int .i64 (k : Int))] ∧ n' = 5 - k ∧ (k ≤ 5 ∧ Ext w wq ∧ ao wq g2 134 (fe g) ∧ ao wq g3 134 (fe (fun _ => 0)) ∧ ao wq g4 242 (sm (Fp.acc f g (5 * i + k))))) _ _ ⟨0, rfl, rfl, by omega, F, C2, C3, C4⟩ Ls ?_
  rintro _ n' L wq ⟨k, rfl, rfl, _, G, K2, K3, K4⟩ Vr
  refine aU ?_
  refine al rfl (fun Vz => ?_) (fun Vz => ?_)
  ·refine au 7 ?_
   refine ak (mn rfl rfl Tn.u Tn.u rfl Kr rfl Om (dj g rfl Om)) ?_
   refine au 9 ?_
   refine ak (aN rfl rfl (bk (n := i + k) Om Om)) ?_
   refine aU ?_
   refine al rfl (fun VA => ?_) (fun VA => ?_)
   ·have hgk := hg k Om
    refine au 2 ?_
    refine ak (cz rfl rfl (aE (n := g k * 19) Om Om)) ?_
    have Vp := hg k Om
    have Vm : (i + k) % 5 < 5 := by omega
    have hac := hz (5 * i + k) ((i + k) % 5) Om
    have hpr : f i * (g k * 19) ≤ 4503599627370496 * 85568392920039424 := Nat.mul_le_mul Om Om
    have hmt : ∀ r, Fp.acc f g (5 * i + (k + 1)) r = if r = (i + k) % 5 then Fp.acc f g (5 * i + k) ((i + k) % 5) + f i * (g k * 19) else Fp.acc f g (5 * i + k) r := fun r => by
     rw [show 5 * i + (k + 1) = 5 * i + k + 1 from rfl, Fp.acc, Fp.vV, show (5 * i + k) / 5 = i by omega, show (5 * i + k) % 5 = k by omega]
     by_cases h : r = (i + k) % 5
     ·subst h; rw [if_pos rfl, if_pos rfl]; congr 2; split <;> first | rfl | (exfalso; omega)
     ·rw [if_neg h, if_neg (fun e => h e.symm), Nat.add_zero]
    refine au 6 ?_
    refine ak (aN rfl rfl (bk (n := i + k) Om Om)) ?_
    refine ak (cy rfl rfl Om (show (((i + k : Nat) : Int).tmod 5 = (((i + k) % 5 : Nat) : Int)) from rfl)) ?_
    refine au 2 ?_
    refine ak (aN rfl rfl (bk (n := i + k) Om Om)) ?_
    refine ak (cy rfl rfl Om (show (((i + k : Nat) : Int).tmod 5 = (((i + k) % 5 : Nat) : Int)) from rfl)) ?_
    refine ak (rY (s := 2) rfl rfl Tn.u Kr rfl Om) ?_
    refine ak (dH rfl Tn.u rfl (cs := tw (Fp.acc f g (5 * i + k) ((i + k) % 5))) Kr (fun j v h => by rw [Addr.add_plain, Nat.zero_add]; exact K4.get (Cs _ Vm j v h))) ?_
    refine aU ?_
    refine aL func200 rfl (ue _ (f i) (g k * 19) _ Om Om Om) ?_
    rintro e w5 ⟨rfl, ex⟩
    refine au 1 ?_
    have G5 := G.ext ex; have L2 := K2.ext ex; have L3 := K3.ext ex; have L4 := K4.ext ex
    refine ak (rY (s := 2) rfl rfl Tn.u Kr rfl Om) ?_
    refine af (bA rfl rfl Kr L4 (by rw [xE]; show 0 + (i + k) % 5 * 2 + 2 ≤ 10; omega) (rJ _)) rfl ?_
    rintro _ w6 ⟨rfl, B6, cg⟩
    rw [Nat.zero_add, Bc _ Vm] at B6; have G6 := G5.aw cg Vl; have M2 := L2.aw cg Om; have M3 := L3.aw cg Om
    refine au 7 ?_
    refine ae ?_
    refine Vr _ _ ⟨k + 1, rfl, rfl, by omega, G6, M2, M3, B6.congr (uD fun r _ => (hmt r).symm)⟩ Om Ls
   ·have Vp := hg k Om
    have Vm : (i + k) % 5 < 5 := by omega
    have hac := hz (5 * i + k) ((i + k) % 5) Om
    have hpr : f i * (g k) ≤ 4503599627370496 * 85568392920039424 := Nat.mul_le_mul Om Om
    have hmt : ∀ r, Fp.acc f g (5 * i + (k + 1)) r = if r = (i + k) % 5 then Fp.acc f g (5 * i + k) ((i + k) % 5) + f i * (g k) else Fp.acc f g (5 * i + k) r := fun r => by
     rw [show 5 * i + (k + 1) = 5 * i + k + 1 from rfl, Fp.acc, Fp.vV, show (5 * i + k) / 5 = i by omega, show (5 * i + k) % 5 = k by omega]
     by_cases h : r = (i + k) % 5
     ·subst h; rw [if_pos rfl, if_pos rfl]; congr 2; split <;> first | rfl | (exfalso; omega)
     ·rw [if_neg h, if_neg (fun e => h e.symm), Nat.add_zero]
    refine au 5 ?_
    refine ak (aN rfl rfl (bk (n := i + k) Om Om)) ?_
    refine ak (cy rfl rfl Om (show (((i + k : Nat) : Int).tmod 5 = (((i + k) % 5 : Nat) : Int)) from rfl)) ?_
    refine au 2 ?_
    refine ak (aN rfl rfl (bk (n := i + k) Om Om)) ?_
    refine ak (cy rfl rfl Om (show (((i + k : Nat) : Int).tmod 5 = (((i + k) % 5 : Nat) : Int)) from rfl)) ?_
    refine ak (rY (s := 2) rfl rfl Tn.u Kr rfl Om) ?_
    refine ak (dH rfl Tn.u rfl (cs := tw (Fp.acc f g (5 * i + k) ((i + k) % 5))) Kr (fun j v h => by rw [Addr.add_plain, Nat.zero_add]; exact K4.get (Cs _ Vm j v h))) ?_
    refine aU ?_
    refine aL func200 rfl (ue _ (f i) (g k) _ Om Om Om) ?_
    rintro e w5 ⟨rfl, ex⟩
    refine au 1 ?_
    have G5 := G.ext ex; have L2 := K2.ext ex; have L3 := K3.ext ex; have L4 := K4.ext ex
    refine ak (rY (s := 2) rfl rfl Tn.u Kr rfl Om) ?_
    refine af (bA rfl rfl Kr L4 (by rw [xE]; show 0 + (i + k) % 5 * 2 + 2 ≤ 10; omega) (rJ _)) rfl ?_
    rintro _ w6 ⟨rfl, B6, cg⟩
    rw [Nat.zero_add, Bc _ Vm] at B6; have G6 := G5.aw cg Vl; have M2 := L2.aw cg Om; have M3 := L3.aw cg Om
    refine au 7 ?_
    refine ae ?_
    refine Vr _ _ ⟨k + 1, rfl, rfl, by omega, G6, M2, M3, B6.congr (uD fun r _ => (hmt r).symm)⟩ Om Ls
  ·refine au 10 ?_
   refine ae ?_
   refine Vx _ _ ⟨i + 1, rfl, rfl, by omega, G, K2, K3, K4.congr (by rw [show k = 5 by omega]; rfl)⟩ Om Ls
 ·have VB : ao wr g4 242 (sm S) := C4.congr (by rw [hS, show i = 5 by omega])
  refine aU ?_
  intro w7 g7 (B7 : ao _ _ _ (fe (fun _ => 0))) VC ex
  have E7 := F.ext ex; have D3 := C3.ext ex; have D4 := VB.ext ex; have Vn : w.heap.size ≤ g7 := Nat.le_trans F.size VC; have VD := C3.lt
  refine aU ?_
  refine aF (fun n' L wz => ∃ q : Nat, L = [(4, .pointer (some ⟨g3, 0, none⟩)), (10, .pointer (some ⟨g7, 0, none⟩)), (11, .int .u64 ((Fp.fr S q : Nat) : Int)), (51, .agg (sm S)), (52, .int .i64 (q : Int))] ∧ n' = 5 - q ∧ (q ≤ 5 ∧ Ext w wz ∧ ao wz g3 134 (fe (fun _ => 0)) ∧ ao wz g7 134 (fe (fun j => if j < q then (S j + Fp.fr S j) % 2251799813685248 else 0)))) _ _ ⟨0, rfl, rfl, by omega, E7, D3, B7⟩ Ls ?_
  rintro _ n' L wz ⟨q, rfl, rfl, _, H, J3, J7⟩ VE
  refine aU ?_
  refine al rfl (fun VF => ?_) (fun VF => ?_)
  ·refine au 7 ?_
   refine ak (LF rfl rfl Tn.u Tn.u rfl Kr rfl Om (Ky S Om)) ?_
   refine aU ?_
   intro w8 g8 (B8 : ao _ _ _ (tw 0)) VG ex
   have H8 := H.ext ex; have P3 := J3.ext ex; have P7 := J7.ext ex; have Vq : w.heap.size ≤ g8 := Nat.le_trans H.size VG; have VH := J3.lt; have VI := J7.lt
   refine au 1 ?_
   refine af (ag rfl rfl Kr B8 rfl (rJ _)) rfl ?_
   rintro _ _ ⟨rfl, _, cg⟩
   have H9 := H8.aw cg Vq; have Q3 := P3.aw cg Om; have Q7 := P7.aw cg Om; have hfr := Fp.Iy hSl q Om; have hSq := hSl q Om
   refine au 7 ?_
   refine ak ((kI rfl (fX _ _ 0 Om))) ?_
   refine au 12 ?_
   refine ak (aN rfl rfl (aE (n := (S q + Fp.fr S q) / 18446744073709551616) Om Om)) ?_
   refine au 4 ?_
   rw [show (S q % 18446744073709551616 + Fp.fr S q + 0) % 18446744073709551616 = (S q + Fp.fr S q) % 18446744073709551616 by omega]
   refine au 3 ?_
   refine ak (cD rfl rfl (jo _ Om)) ?_
   refine au 2 ?_
   refine af (az rfl rfl rfl Kr Q7 (by rw [ai]; omega)) rfl ?_
   rintro _ _ ⟨rfl, Vs, cg⟩
   rw [Nat.zero_add, gE] at Vs; have VJ := H9.aw cg Vn; have R3 := Q3.aw cg Om
   refine au 4 ?_
   refine ak (eP rfl rfl Om (LC _ Om)) ?_
   refine au 1 ?_
   refine ak (bY rfl rfl Om (qK _ Om)) ?_
   refine ak (jk rfl rfl (Nk _ _ Om Om)) ?_
   refine au 8 ?_
   refine ae ?_
   have hfrs : Fp.fr S (q + 1) = (S q + Fp.fr S q) / 2251799813685248 := rfl
   refine VE _ _ ⟨q + 1, rfl, rfl, by omega, VJ, R3, Vs.congr (dr fun j hj => by
    by_cases h : j = q
    ·subst h; rw [if_pos rfl, if_pos Om]; omega
    ·rw [if_neg h]; by_cases h2 : j < q
     ·rw [if_pos h2, if_pos Om]
     ·rw [if_neg h2, if_neg Om])⟩ Om Ls
  ·obtain rfl : q = 5 := by omega
   have VT := Fp.El hSl Vu
   obtain ⟨o, ho⟩ : ∃ o : Nat → Nat, o = fun j => (S j + Fp.fr S j) % 2251799813685248 + (if j = 0 then Fp.fr S 5 * 19 else 0) := ⟨_, rfl⟩
   have hol : ∀ j, j < 5 → o j < 18446744073709551616 := fun j hj => by rw [ho]; show (S j + Fp.fr S j) % 2251799813685248 + (if j = 0 then Fp.fr S 5 * 19 else 0) < _; split <;> omega
   have hov := Fp.Gi S
   rw [← ho] at hov
   have hoc : ∀ j, j < 5 → (if j = 0 then (S 0 + Fp.fr S 0) % 2251799813685248 + Fp.fr S 5 * 19 else if j < 5 then (S j + Fp.fr S j) % 2251799813685248 else 0) = o j := fun j hj => by
    rw [ho]
    show _ = (S j + Fp.fr S j) % 2251799813685248 + (if j = 0 then Fp.fr S 5 * 19 else 0)
    by_cases h : j = 0
    ·subst h; rw [if_pos rfl, if_pos rfl]
    ·rw [if_neg h, if_pos hj, if_neg h, Nat.add_zero]
   refine au 8 ?_
   refine ak (bG rfl rfl Tn.u Kr (j := 0) rfl Om) ?_
   refine ak (ah rfl Tn.u rfl (J7.get (v := .int .u64 (((S 0 + Fp.fr S 0) % 2251799813685248 : Nat) : Int)) (by rw [Nat.zero_add, dj _ (j := 0) rfl Om, if_pos Om]))) ?_
   refine au 1 ?_
   refine ak (cz rfl rfl (aE (n := Fp.fr S 5 * 19) Om Om)) ?_
   refine ak (aN rfl rfl (aE (n := (S 0 + Fp.fr S 0) % 2251799813685248 + Fp.fr S 5 * 19) Om Om)) ?_
   refine au 1 ?_
   refine ak (bG rfl rfl Tn.u Kr (j := 0) rfl Om) ?_
   refine af (az rfl rfl rfl Kr J7 (by rw [ai]; omega)) rfl ?_
   rintro _ VK ⟨rfl, Vt, cg⟩
   have VL := H.aw cg Vn; have U3 := J3.aw cg Om; replace Vt : ao VK g7 134 (fe o) := (Vt.congr (gE _ 0 _)).congr (dr hoc)
   refine aU ?_
   refine aL func202 rfl (iC o _ hol) ?_
   rintro e _ ⟨rfl, ex⟩
   refine au 1 ?_
   have VM := VL.ext ex; have V3 := U3.ext ex
   refine af (ag rfl rfl (by rw [ai]; kernel_rfl) V3 (by rw [ai, ai]) (bh _)) rfl ?_
   rintro _ _ ⟨rfl, VN, cg⟩
   have VO := VM.aw cg Vo
   refine aU ?_
   refine hret rfl VN (ai _) ?_
   exact ⟨Fp.carry o, rfl, Fp.fM hol, by
    obtain ⟨n, hn⟩ := Fp.Ge f g
    rw [Fp.dY, hn, Nat.add_mul_mod_self_left, ← hS, ← hov, Nat.add_mul_mod_self_left], VO⟩
end
end
section
section
open Go.RowKit Tryz
attribute [local irreducible] Y Ef WL WC WK WQ WM cx
def Fe (cs : Array Value) (x : Nat) : Prop := ∃ f, cs = fe f ∧ Fp.small f ∧ Fp.val f % Fp.p = x
theorem Fe.lt {cs : Array Value} {x : Nat} (h : Fe cs x) : x < Fp.p := by
 obtain ⟨f, _, _, rfl⟩ := h; exact Nat.mod_lt _ (by unfold Fp.p; omega)
theorem Fe.size {cs : Array Value} {x : Nat} (h : Fe cs x) : cs.size = 5 := by obtain ⟨f, rfl, _⟩ := h; exact ai f
theorem Fe.one {cs : Array Value} {x : Nat} (h : Fe cs x) : cs.all (·.oneCell') = true := by obtain ⟨f, rfl, _⟩ := h; exact bh f
theorem Fe.zero : Fe (fe (fun _ => 0)) 0 := ⟨_, rfl, fun j _ => by show 0 < _; omega, rfl⟩
theorem vj {cs ds : Array Value} {a b : Nat} (ha : Fe cs a) (hb : Fe ds b) (w : World) :
  Ct 144 #[.agg cs, .agg ds] w fun e w' => ∃ es, e = .returned (.agg es) ∧ Fe es (a * b % Fp.p) ∧ Ext w w' := by
 obtain ⟨f, rfl, hf, rfl⟩ := ha
 obtain ⟨g, rfl, hg, rfl⟩ := hb
 refine (Ap f g w hf hg).mono ?_
 rintro e w' ⟨h, rfl, hh, hv, ex⟩
 exact ⟨_, rfl, ⟨h, rfl, hh, by rw [hv, Nat.mul_mod]⟩, ex⟩
theorem DE {cs ds : Array Value} {a b : Nat} (ha : Fe cs a) (hb : Fe ds b) (w : World) :
  Ct 151 #[.agg cs, .agg ds] w fun e w' => ∃ es, e = .returned (.agg es) ∧ Fe es ((a + b) % Fp.p) ∧ Ext w w' := by
 obtain ⟨f, rfl, hf, rfl⟩ := ha
 obtain ⟨g, rfl, hg, rfl⟩ := hb
 refine aI (s := 5) 24 func151 rfl rfl rfl underlying134 rfl Kr rfl ?_
 intro _ hret
 refine aU ?_
 intro w1 g1 (B1 : ao _ _ _ (fe f)) Vm ex
 have E1 := ex; have Vq := B1.lt
 refine aU ?_
 intro w2 g2 (B2 : ao _ _ _ (fe g)) Vr ex
 have E2 := E1.ext ex; replace B1 := B1.ext ex; have Vs := B2.lt
 refine aU ?_
 intro w3 g3 (B3 : ao _ _ _ (fe (fun _ => 0))) Vn ex
 have E3 := E2.ext ex; replace B1 := B1.ext ex; replace B2 := B2.ext ex; have Vl : w.heap.size ≤ g3 := Nat.le_trans E2.size Vn
 refine aU ?_
 refine aF (fun n' L wr => ∃ i : Nat, L = [(2, .pointer (some ⟨g1, 0, none⟩)), (4, .pointer (some ⟨g3, 0, none⟩)), (8, .agg (fe g)), (9, .int .i64 (i : Int))] ∧ n' = 5 - i ∧ (i ≤ 5 ∧ Ext w wr ∧ ao wr g1 134 (fe (fun j => if j < i then f j + g j else f j)) ∧ ao wr g3 134 (fe (fun _ => 0)))) _ _ ⟨0, rfl, rfl, by omega, E3, B1.congr (dr fun j _ => by rw [if_neg Om]), B3⟩ Ls ?_
 rintro _ n' L wr ⟨i, rfl, rfl, _, F, C1, C3⟩ Vo
 refine aU ?_
 refine al rfl (fun Vp => ?_) (fun Vp => ?_)
 ·have hfi := hf i Om; have hgi := hg i Om
  refine au 7 ?_
  refine ak (mn rfl rfl Tn.u Tn.u rfl Kr rfl Om (dj g rfl Om)) ?_
  refine au 8 ?_
  refine ak (ah rfl Tn.u rfl (C1.get (v := .int .u64 ((f i : Nat) : Int)) (by rw [Nat.zero_add, dj _ rfl Om, if_neg Om]))) ?_
  refine au 1 ?_
  refine ak (aN rfl rfl (aE (n := f i + g i) Om Om)) ?_
  refine au 2 ?_
  refine af (az rfl rfl rfl Kr C1 (by rw [ai]; omega)) rfl ?_
  rintro _ _ ⟨rfl, B4, cg⟩
  rw [Nat.zero_add, gE] at B4; have F4 := F.aw cg Vm; have D3 := C3.aw cg Om
  refine au 7 ?_
  refine ae ?_
  refine Vo _ _ ⟨i + 1, rfl, rfl, by omega, F4, B4.congr (dr fun j _ => by
   by_cases h : j = i
   ·subst h; rw [if_pos rfl, if_pos Om]
   ·rw [if_neg h]; by_cases h2 : j < i
    ·rw [if_pos h2, if_pos Om]
    ·rw [if_neg h2, if_neg Om]), D3⟩ Om Ls
 ·have hs : ∀ j, j < 5 → (if j < i then f j + g j else f j) < 18446744073709551616 := fun j hj => by have := hf j hj; have := hg j hj; split <;> omega
  have hv : Fp.val (fun j => if j < i then f j + g j else f j) = Fp.val f + Fp.val g := by
   rw [Fp.val_congr (g := fun j => f j + g j) fun j hj => by rw [if_pos Om]]
   simp only [Fp.val]; omega
  refine aU ?_
  refine aL func202 rfl (iC _ _ hs) ?_
  rintro e _ ⟨rfl, ex⟩
  refine au 1 ?_
  have F5 := F.ext ex; have D5 := C3.ext ex
  refine af (ag rfl rfl (by rw [ai]; kernel_rfl) D5 (by rw [ai, ai]) (bh _)) rfl ?_
  rintro _ _ ⟨rfl, B6, cg⟩
  have F6 := F5.aw cg Vl
  refine aU ?_
  refine hret rfl B6 (ai _) ?_
  exact ⟨_, rfl, ⟨_, rfl, Fp.fM hs, by rw [Fp.dY, hv, Nat.add_mod]⟩, F6⟩
def iu (j : Nat) : Nat := if j = 0 then 4503599627370458 else 4503599627370494
theorem uK (j : Nat) : 4503599627370458 ≤ iu j ∧ iu j ≤ 4503599627370494 := by unfold iu; split <;> omega
theorem r7 {F G a b p : Nat} (hF : F % p = a) (hG : G % p = b) (hb : b < p) (Vl : G ≤ F + 2 * p) : (F + 2 * p - G) % p = (a + p - b) % p := by
 have e1 := Nat.div_add_mod F p
 have e2 := Nat.div_add_mod G p
 rw [hF] at e1; rw [hG] at e2
 have h : F + 2 * p - G + p * (G / p) = a + p - b + p * (F / p + 1) := by
  rw [Nat.mul_add, Nat.mul_one]
  omega
 rw [← Nat.add_mul_mod_self_left (F + 2 * p - G) p (G / p), h, Nat.add_mul_mod_self_left]
theorem uF {cs ds : Array Value} {a b : Nat} (ha : Fe cs a) (hb : Fe ds b) (w : World) :
  Ct 206 #[.agg cs, .agg ds] w fun e w' => ∃ es, e = .returned (.agg es) ∧ Fe es ((a + Fp.p - b) % Fp.p) ∧ Ext w w' := by
 have hbl := hb.lt
 obtain ⟨f, rfl, hf, hfa⟩ := ha
 obtain ⟨g, rfl, hg, hgb⟩ := hb
 refine aI (s := 5) 29 func206 rfl rfl rfl underlying134 rfl Kr rfl ?_
 intro _ hret
 refine aU ?_
 intro w1 g1 (B1 : ao _ _ _ (fe f)) Vn ex
 have E1 := ex; have Vs := B1.lt
 refine aU ?_
 intro w2 g2 (B2 : ao _ _ _ (fe g)) Vt ex
 have E2 := E1.ext ex; replace B1 := B1.ext ex; have Vu := B2.lt
 refine aU ?_
 intro w3 g3 (B3 : ao _ _ _ (fe (fun _ => 0))) Vo ex
 have E3 := E2.ext ex; replace B1 := B1.ext ex; replace B2 := B2.ext ex; have Vl : w.heap.size ≤ g3 := Nat.le_trans E2.size Vo; have Vv := B3.lt
 refine au 4 ?_
 refine ak (aJ rfl (cells := fe iu) Kr) ?_
 refine aU ?_
 intro w4 g4 (B4 : ao _ _ _ (fe (fun _ => 0))) Vp ex
 have E4 := E3.ext ex; replace B1 := B1.ext ex; replace B2 := B2.ext ex; replace B3 := B3.ext ex; have Vm : w.heap.size ≤ g4 := Nat.le_trans E3.size Vp
 refine af (ag rfl rfl Kr B4 (by rw [ai, ai]) (bh _)) rfl ?_
 rintro _ _ ⟨rfl, B5, cg⟩
 have E5 := E4.aw cg Vm; replace B1 := B1.aw cg Om; replace B2 := B2.aw cg Om; replace B3 := B3.aw cg Om
 refine aU ?_
 refine aF (fun n' L wr => ∃ i : Nat, L = [(2, .pointer (some ⟨g1, 0, none⟩)), (3, .pointer (some ⟨g2, 0, none⟩)), (4, .pointer (some ⟨g3, 0, none⟩)), (5, .pointer (some ⟨g4, 0, none⟩)), (8, .int .i64 (i : Int))] ∧ n' = 5 - i ∧ (i ≤ 5 ∧ Ext w wr ∧ ao wr g1 134 (fe (fun j => if j < i then f j + (iu j - g j) else f j)) ∧ ao wr g2 134 (fe g) ∧ ao wr g3 134 (fe (fun _ => 0)) ∧ ao wr g4 132 (fe iu))) _ _ ⟨0, rfl, rfl, by omega, E5, B1.congr (dr fun j _ => by rw [if_neg Om]), B2, B3, B5⟩ Ls ?_
 rintro _ n' L wr ⟨i, rfl, rfl, _, F, C1, C2, C3, C4⟩ Vq
 refine aU ?_
 refine al rfl (fun Vr => ?_) (fun Vr => ?_)
 ·refine aU ?_
  have hfi := hf i Om; have hgi := hg i Om; have htw := uK i
  refine aA Kr 16 rfl ?_; intro Vw ex Vx
  replace F := F.ext ex; replace C1 := C1.ext ex; replace C2 := C2.ext ex; replace C3 := C3.ext ex; replace C4 := C4.ext ex
  refine zm [0, 1, 2] ?_
  refine my 3 rfl (ah rfl Tn.u rfl (C1.get (v := .int .u64 ((f i : Nat) : Int)) (by rw [Nat.zero_add, dj _ rfl Om, if_neg Om]))) ?_
  refine zm [4, 5] ?_
  refine my 6 rfl (ah rfl Tn.u rfl (C4.get (dj iu (by rw [Nat.zero_add]) Om))) ?_
  refine zm [7, 8, 9] ?_
  refine my 10 rfl (ah rfl Tn.u rfl (C2.get (dj g (by rw [Nat.zero_add]) Om))) ?_
  refine cU 11 rfl (fun _ => eK rfl rfl (aE (n := iu i - g i) Om Om)) ?_
  refine cU 12 rfl (fun _ => aN rfl rfl (aE (n := f i + (iu i - g i)) Om Om)) ?_
  refine zm [13, 14] ?_
  refine aM 15 Kr ?_; refine aO rfl (az rfl rfl rfl Kr C1 (by rw [ai]; omega)) rfl ?_
  rintro _ _ ⟨rfl, B6, cg⟩
  refine ⟨.inl rfl, ?_⟩
  rw [Nat.zero_add, gE] at B6; have F6 := F.aw cg Vn; have D2 := C2.aw cg Om; have D3 := C3.aw cg Om; have D4 := C4.aw cg Om
  refine au 8 ?_
  refine ae ?_
  refine Vq _ _ ⟨i + 1, rfl, rfl, by omega, F6, B6.congr (dr fun j _ => by
   by_cases h : j = i
   ·subst h; rw [if_pos rfl, if_pos Om]
   ·rw [if_neg h]; by_cases h2 : j < i
    ·rw [if_pos h2, if_pos Om]
    ·rw [if_neg h2, if_neg Om]), D2, D3, D4⟩ Om Ls
 ·have hs : ∀ j, j < 5 → (if j < i then f j + (iu j - g j) else f j) < 18446744073709551616 := fun j hj => by have := hf j hj; have := uK j; split <;> omega
  have hv : Fp.val (fun j => if j < i then f j + (iu j - g j) else f j) = Fp.val f + 2 * Fp.p - Fp.val g ∧ Fp.val g ≤ Fp.val f + 2 * Fp.p := by
   rw [Fp.val_congr (g := fun j => f j + (iu j - g j)) fun j hj => by rw [if_pos Om]]
   have h0 := hg 0 Om; have h1 := hg 1 Om; have h2 := hg 2 Om; have h3 := hg 3 Om; have h4 := hg 4 Om
   simp only [Fp.val, iu, Fp.p]
   simp
   omega
  refine aU ?_
  refine aL func202 rfl (iC _ _ hs) ?_
  rintro e _ ⟨rfl, ex⟩
  refine au 1 ?_
  have F7 := F.ext ex; have D3 := C3.ext ex
  refine af (ag rfl rfl (by rw [ai]; kernel_rfl) D3 (by rw [ai, ai]) (bh _)) rfl ?_
  rintro _ _ ⟨rfl, B8, cg⟩
  have F8 := F7.aw cg Vl
  refine aU ?_
  refine hret rfl B8 (ai _) ?_
  exact ⟨_, rfl, ⟨_, rfl, Fp.fM hs, by rw [Fp.dY, hv.1]; exact r7 hfa hgb hbl hv.2⟩, F8⟩
theorem BL {cs : Array Value} {a : Nat} (ha : Fe cs a) (w : World) :
  Ct 208 #[.agg cs] w fun e w' => ∃ es, e = .returned (.agg es) ∧ Fe es ((Fp.p - a) % Fp.p) ∧ Ext w w' := by
 have hsz := ha.size
 refine aI (s := 5) 6 func208 rfl rfl rfl underlying134 rfl Kr rfl ?_
 intro _ hret
 refine aU ?_
 intro w1 g1 (B1 : ao _ _ _ (cs)) Vn ex
 have E1 := ex
 refine aU ?_
 intro w2 g2 (B2 : ao _ _ _ (fe (fun _ => 0))) Vm ex
 have E2 := E1.ext ex; replace B1 := B1.ext ex; have Vl : w.heap.size ≤ g2 := Nat.le_trans E1.size Vm
 refine au 4 ?_
 refine ak (aJ rfl (cells := fe (fun _ => 0)) Kr) ?_
 refine ak ((aV rfl Tn.u rfl (by rw [hsz]; kernel_rfl) B1)) ?_
 refine aL func206 rfl (uF Fe.zero ha _) ?_
 rintro e _ ⟨es, rfl, he, ex⟩
 refine au 1 ?_
 rw [Nat.zero_add] at he; have E3 := E2.ext ex; have D2 := B2.ext ex
 refine af (ag rfl rfl (by rw [he.size]; kernel_rfl) D2 (by rw [ai, he.size]) he.one) rfl ?_
 rintro _ _ ⟨rfl, B4, cg⟩
 have E4 := E3.aw cg Vl
 refine aU ?_
 refine hret rfl B4 he.size ?_
 exact ⟨es, rfl, he, E4⟩
theorem uL {cs : Array Value} {a : Nat} (ha : Fe cs a) (w : World) :
  Ct 205 #[.agg cs] w fun e w' => ∃ es, e = .returned (.agg es) ∧ Fe es (a * a % Fp.p) ∧ Ext w w' := by
 have hsz := ha.size
 refine aI (s := 5) 6 func205 rfl rfl rfl underlying134 rfl Kr rfl ?_
 intro _ hret
 refine aU ?_
 intro w1 g1 (B1 : ao _ _ _ (cs)) Vn ex
 have E1 := ex
 refine aU ?_
 intro w2 g2 (B2 : ao _ _ _ (fe (fun _ => 0))) Vm ex
 have E2 := E1.ext ex; replace B1 := B1.ext ex; have Vl : w.heap.size ≤ g2 := Nat.le_trans E1.size Vm
 refine au 4 ?_
 refine ak ((aV rfl Tn.u rfl (by rw [hsz]; kernel_rfl) B1)) ?_
 refine ak ((aV rfl Tn.u rfl (by rw [hsz]; kernel_rfl) B1)) ?_
 refine aL func144 rfl (vj ha ha _) ?_
 rintro e _ ⟨es, rfl, he, ex⟩
 refine au 1 ?_
 have E3 := E2.ext ex; have D2 := B2.ext ex
 refine af (ag rfl rfl (by rw [he.size]; kernel_rfl) D2 (by rw [ai, he.size]) he.one) rfl ?_
 rintro _ _ ⟨rfl, B4, cg⟩
 have E4 := E3.aw cg Vl
 refine aU ?_
 refine hret rfl B4 he.size ?_
 exact ⟨es, rfl, he, E4⟩
theorem Ca (n : Nat) (w : World) (hn : n < 18446744073709551616) :
  Ct 143 #[.int .u64 (n : Int)] w fun e w' => ∃ es, e = .returned (.agg es) ∧ Fe es n ∧ Ext w w' := by
 obtain ⟨h, hh⟩ : ∃ h : Nat → Nat, h = fun j => if j = 0 then n % 2251799813685248 else if j = 1 then n / 2251799813685248 else 0 := ⟨_, rfl⟩
 have hsm : Fp.small h := fun j _ => by rw [hh]; show (if j = 0 then n % 2251799813685248 else if j = 1 then n / 2251799813685248 else 0) < _; split <;> (try split) <;> omega
 refine aI (s := 5) 9 func143 rfl rfl rfl underlying134 rfl Kr rfl ?_
 intro _ hret
 refine aU ?_
 intro w1 g1 (B1 : ao _ _ _ (fe (fun _ => 0))) Vl ex
 have E1 := ex
 refine au 5 ?_
 refine ak (cD rfl rfl (jo _ hn)) ?_
 refine au 1 ?_
 refine ak (bY rfl rfl Om (qK _ hn)) ?_
 refine ak (aJ rfl (cells := fe h) (by rw [hh]; kernel_rfl)) ?_
 refine ak (aJ rfl (cells := fe h) (by rw [hh]; kernel_rfl)) ?_
 refine af (ag rfl rfl (by rw [ai]; kernel_rfl) B1 (by rw [ai, ai]) (bh _)) rfl ?_
 rintro _ _ ⟨rfl, B2, cg⟩
 have E2 := E1.aw cg Vl
 refine aU ?_
 refine hret rfl B2 (ai _) ?_
 exact ⟨_, rfl, ⟨h, rfl, hsm, by rw [hh]; simp only [Fp.val, Fp.p]; simp; omega⟩, E2⟩
theorem CI (f : Nat → Nat) : (fe f).extract 0 (0 + 5) = fe f := rfl
theorem Fi (x : Nat) (hx : x < 18446744073709551616) : bits .and .u64 (x : Int) 1 = ((x % 2 : Nat) : Int) := by
 have h := (cf (p := x) (q := 1) hx Om).1
 rw [show ((1 : Int)) = ((1 : Nat) : Int) from rfl, h, Nat.and_one_is_mod]
theorem Av {cs : Array Value} {a : Nat} (ha : Fe cs a) (w : World) :
  Ct 156 #[.agg cs] w fun e w' => e = .returned (.bool (decide (a % 2 = 1))) ∧ Ext w w' := by
 obtain ⟨f, rfl, hf, hfa⟩ := ha
 refine aj 9 func156 rfl rfl rfl rfl ?_
 intro _ hret
 refine aU ?_
 intro w1 g1 (B1 : ao _ _ _ (fe f)) Vl ex
 have E1 := ex
 refine aU ?_
 refine aL func209 rfl (jM f _ hf) ?_
 rintro e _ ⟨rfl, ex⟩
 refine au 1 ?_
 rw [hfa]; have E2 := E1.ext ex; have hl := Fp.xK a 0
 refine ak (BY (o := 0) (s := 5) rfl underlying134 rfl underlying132 rfl Kr (CI _)) ?_
 refine ak (mn rfl rfl Tn.u Tn.u rfl Kr (j := 0) rfl Om (dj _ (j := 0) rfl Om)) ?_
 refine ak (cD rfl rfl (Fi _ Om)) ?_
 refine aU ?_
 refine hret rfl ?_
 exact ⟨dJ (by simp only [Fp.eE, Nat.pow_zero, Nat.div_one]; omega), E2⟩
end
section
open Go.RowKit Tryz Go.ChangeMaps
theorem EP (a b : Nat) : ((a : Int) == (b : Int)) = decide (a = b) := by
 by_cases h : a = b
 ·subst h; simp
 ·rw [decide_eq_false h]; simp; omega
theorem AY (f : Nat → Nat) {j : Nat} (hj : j < 5) (w : World) : (part 38 (fe f) j).run Tryz.prog w = .ok (.int .u64 ((f j : Nat) : Int)) w := by
 have h : (fe f)[j]? = some (.int .u64 ((f j : Nat) : Int)) := dj f rfl hj
 simp [part, CC underlying38 rfl w, h]
theorem GL (f g : Nat → Nat) (w : World) : (binOp .eql 134 (.agg (fe f)) (.agg (fe g))).run Tryz.prog w = .ok (.bool (decide (f 0 = g 0 ∧ f 1 = g 1 ∧ f 2 = g 2 ∧ f 3 = g 3 ∧ f 4 = g 4))) w := by
 rw [run_eql_struct]
 rw [run_equalIn_struct w 9999 _ _ _ (by simp [Program.fieldsOf, underlying134]) Kr]
 have hfs : (Tryz.prog.fieldsOf 134).toList = [{ name := "l", type := 132, offset := 0, embedded := false, tag := "", pkgPath := "ratline/field", byteOffset := 0 }] := by simp [Program.fieldsOf, underlying134]
 rw [hfs]
 have hp : ∀ h : Nat → Nat, (part 132 (fe h) 0).run Tryz.prog w = .ok (.agg (fe h)) w := fun h => by
  have hs : (sizeOf 132).run Tryz.prog w = .ok 5 w := bo Kr w
  simp [part, jZ underlying132 rfl w, hs]
  exact .inr (by rw [ai]; omega)
 simp only [Op.eqFields]
 rw [if_pos (show "l" ≠ "_" by decide)]
 simp only [Sem.run_bind, hp, Result.andThen_ok]
 obtain ⟨i, hi⟩ : ∃ i, Tryz.prog.info? 38 = some i := Option.isSome_iff_exists.1 Kr
 have hc : Tryz.prog.cellsOf 38 = 1 := by kernel_rfl
 rw [run_equalIn_array w 9998 (fe f) (fe g) underlying132 hi, hc, show List.range 5 = [0, 1, 2, 3, 4] from rfl]
 have he : ∀ a b : Nat, (Op.equalIn 9998 38 (.int .u64 (a : Int)) (.int .u64 (b : Int))).run Tryz.prog w = .ok (decide (a = b)) w := fun a b => by
  rw [run_equalIn_int w 9997 _ .u64 .u64 _ _ underlying38]
  rw [EP]
 have P : ∀ h : Nat → Nat, ∀ j, j < 5 → (part 38 (fe h) j).run Tryz.prog w = .ok (.int .u64 ((h j : Nat) : Int)) w := fun h j hj => AY h hj w
 simp only [Op.eqItems, Nat.mul_one, Sem.run_bind, P f 0 Om, P f 1 Om, P f 2 Om, P f 3 Om, P f 4 Om, P g 0 Om, P g 1 Om, P g 2 Om, P g 3 Om, P g 4 Om, he, Result.andThen_ok, Sem.run_ite, Sem.run_pure]
 by_cases h0 : f 0 = g 0 <;> by_cases h1 : f 1 = g 1 <;> by_cases h2 : f 2 = g 2 <;> by_cases h3 : f 3 = g 3 <;> by_cases h4 : f 4 = g 4 <;> simp [h0, h1, h2, h3, h4]
theorem Lt {f g : Nat → Nat} {L : List (Nat × Value)} {w : World} {x y : Operand} {ty t' : TypeId} (hx : ev L x = some (.agg (fe f))) (hy : ev L y = some (.agg (fe g))) :
  Y Tryz.prog L w (.binOp .eql 134 x y t') ty (.bool (decide (f 0 = g 0 ∧ f 1 = g 1 ∧ f 2 = g 2 ∧ f 3 = g 3 ∧ f 4 = g 4))) := fun ρ hρ w' _ _ _ _ _ => by
 have hg := run_eqGuard_agg (P := Tryz.prog) w' .eql 134 x y (fe f) (fe g) Kr
 simp [execOp, hρ _ _ hx, hρ _ _ hy, hg, GL f g w']
attribute [local irreducible] Y Ef WL WC WK WQ WM cx
theorem Ck {a b : Nat} (ha : a < Fp.p) (hb : b < Fp.p) : (Fp.eE a 0 = Fp.eE b 0 ∧ Fp.eE a 1 = Fp.eE b 1 ∧ Fp.eE a 2 = Fp.eE b 2 ∧ Fp.eE a 3 = Fp.eE b 3 ∧ Fp.eE a 4 = Fp.eE b 4) ↔ a = b := by
 constructor
 ·rintro ⟨h0, h1, h2, h3, h4⟩
  have e : Fp.val (Fp.eE a) = Fp.val (Fp.eE b) := by unfold Fp.val; rw [h0, h1, h2, h3, h4]
  unfold Fp.p at ha hb
  rwa [Fp.tZ a Om, Fp.tZ b Om] at e
 ·rintro rfl; exact ⟨rfl, rfl, rfl, rfl, rfl⟩
theorem zu {cs ds : Array Value} {a b : Nat} (ha : Fe cs a) (hb : Fe ds b) (w : World) :
  Ct 242 #[.agg cs, .agg ds] w fun e w' => e = .returned (.bool (decide (a = b))) ∧ Ext w w' := by
 have hal := ha.lt; have hbl := hb.lt
 obtain ⟨f, rfl, hf, hfa⟩ := ha
 obtain ⟨g, rfl, hg, hgb⟩ := hb
 refine aj 10 func242 rfl rfl rfl rfl ?_
 intro _ hret
 refine aU ?_
 intro w1 g1 (B1 : ao _ _ _ (fe f)) Vl ex
 have E1 := ex
 refine aU ?_
 intro w2 g2 (B2 : ao _ _ _ (fe g)) Vm ex
 have E := E1.ext ex; replace B1 := B1.ext ex
 refine aU ?_
 refine aA Kr 6 rfl ?_; intro Vn ex Vo
 obtain ⟨E,B1,B2⟩ := bC ex E B1 B2
 refine zm [0, 2] ?_
 refine bm 1 rfl func209 rfl (jM f _ hf) ?_
 rintro e _ ⟨rfl, ex⟩
 refine au 1 ?_
 replace E := E.ext ex
 rw [hfa]
 refine bm 3 rfl func209 rfl (jM g _ hg) ?_
 rintro e _ ⟨rfl, ex⟩
 refine au 1 ?_
 replace E := E.ext ex
 rw [hgb]
 refine my 4 rfl ((Lt rfl rfl)) ?_
 refine zm [5] ?_
 refine hret rfl ?_
 exact ⟨dJ (Ck hal hbl), E⟩
end
end
end Go.Proofs.YtgfafidlkldeaaaGreat
