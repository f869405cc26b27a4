/- The field's numbers by what they are worth: Num, Add, Sub, Neg, Mul, Square, Same, Zero, Odd: what each hands back. The field's Same and Zero. -/
import Derived.Test.YtgfafidlkldeaaaGreatFieldA
import Derived.Lib.Mul64
import Derived.Laws.Externs
import Derived.Test.YtgfafidlkldeaaaGreatAu
import Derived.Laws.StructEq
import Derived.ChangeKeysEq
set_option linter.unusedVariables false
set_option linter.unusedSimpArgs false
set_option maxHeartbeats 4000000
set_option maxRecDepth 4000
namespace Go.Proofs.YtgfafidlkldeaaaGreat
section
section
open Go.RowKit Tryz
attribute [local irreducible] Y Ef WL WC WK WQ WM cE
theorem Hp (x : Nat) (hx : x < 18446744073709551616) : bits .and .u64 (x : Int) 4294967295 = ((x % 4294967296 : Nat) : Int) := by
 have h := (cu (p := x) (q := 4294967295) hx Om).1
 rw [show ((4294967295 : Int)) = ((4294967295 : Nat) : Int) from rfl, h, show (4294967295 : Nat) = 2 ^ 32 - 1 from rfl, Nat.and_two_pow_sub_one_eq_mod]
theorem wL (x : Nat) : (x : Int) / 2 ^ (min (32 : Int).toNat IntKind.u64.bits) = ((x / 4294967296 : Nat) : Int) := by
 rw [show (2 : Int) ^ (min (32 : Int).toNat IntKind.u64.bits) = ((4294967296 : Nat) : Int) from rfl]
 exact (Int.natCast_ediv _ _).symm
theorem ou (x y : Nat) (w : World) (hx : x < 18446744073709551616) (hy : y < 18446744073709551616) :
  Ct 237 #[.int .u64 (x : Int), .int .u64 (y : Int)] w fun e w' => e = .returned (.tuple #[.int .u64 ((x * y / 18446744073709551616 : Nat) : Int), .int .u64 ((x * y % 18446744073709551616 : Nat) : Int)]) ∧ Ext w w' := by
 obtain ⟨h1, h2, h3, h4⟩ := Lib.mul64_hi x y hx hy
 obtain ⟨xl, hxl⟩ : ∃ a, a = x % 4294967296 := ⟨_, rfl⟩
 obtain ⟨xh, hxh⟩ : ∃ a, a = x / 4294967296 := ⟨_, rfl⟩
 obtain ⟨yl, hyl⟩ : ∃ a, a = y % 4294967296 := ⟨_, rfl⟩
 obtain ⟨yh, hyh⟩ : ∃ a, a = y / 4294967296 := ⟨_, rfl⟩
 rw [← hxl, ← hyl] at h1
 rw [← hxl, ← hxh, ← hyl] at h2
 rw [← hxl, ← hxh, ← hyl, ← hyh] at h3 h4
 have hb := Lib.half_mul_le (a := xh) (b := yl) Om Om
 have hc := Lib.half_mul_le (a := xl) (b := yh) Om Om
 have hd := Lib.half_mul_le (a := xh) (b := yh) Om Om
 have hlt : x * y / 18446744073709551616 < 18446744073709551616 := Nat.div_lt_of_lt_mul (Nat.mul_lt_mul'' hx hy)
 obtain ⟨w0, Vw⟩ : ∃ a, a = xl * yl := ⟨_, rfl⟩
 obtain ⟨b0, Vx⟩ : ∃ a, a = xh * yl := ⟨_, rfl⟩
 obtain ⟨c0, Vy⟩ : ∃ a, a = xl * yh := ⟨_, rfl⟩
 obtain ⟨d0, Vz⟩ : ∃ a, a = xh * yh := ⟨_, rfl⟩
 rw [← Vw, ← Vx, ← Vy, ← Vz] at h4
 rw [← Vw] at h1
 rw [← Vw, ← Vx] at h2
 rw [← Vw, ← Vx, ← Vy] at h3
 rw [← Vx] at hb
 rw [← Vy] at hc
 rw [← Vz] at hd
 refine bu 51 func237 rfl rfl rfl rfl ?_
 intro _ hret
 refine au 9 ?_
 refine ak (cM rfl rfl (show bits .and .u64 (x : Int) 4294967295 = (xl : Int) by rw [hxl]; exact Hp x hx)) ?_
 refine au 6 ?_
 refine ak (bZ rfl rfl Om (show (x : Int) / 2 ^ (min (32 : Int).toNat IntKind.u64.bits) = (xh : Int) by rw [hxh]; exact wL x)) ?_
 refine au 6 ?_
 refine ak (cM rfl rfl (show bits .and .u64 (y : Int) 4294967295 = (yl : Int) by rw [hyl]; exact Hp y hy)) ?_
 refine au 6 ?_
 refine ak (bZ rfl rfl Om (show (y : Int) / 2 ^ (min (32 : Int).toNat IntKind.u64.bits) = (yh : Int) by rw [hyh]; exact wL y)) ?_
 refine au 7 ?_
 refine ak (cD rfl rfl (aF (n := w0) (by rw [Vw]; exact (Int.natCast_mul _ _).symm) h1)) ?_
 refine au 7 ?_
 refine ak (cD rfl rfl (aF (n := b0) (by rw [Vx]; exact (Int.natCast_mul _ _).symm) Om)) ?_
 refine au 1 ?_
 refine ak (bZ rfl rfl Om (wL _)) ?_
 refine ak (aO rfl rfl (aF (n := b0 + w0 / 4294967296) Om h2)) ?_
 refine au 6 ?_
 refine ak (cM rfl rfl (Hp _ h2)) ?_
 refine au 6 ?_
 refine ak (bZ rfl rfl Om (wL _)) ?_
 refine au 8 ?_
 refine ak (cD rfl rfl (aF (n := c0) (by rw [Vy]; exact (Int.natCast_mul _ _).symm) Om)) ?_
 refine ak (aO rfl rfl (aF (n := (b0 + w0 / 4294967296) % 4294967296 + c0) Om h3)) ?_
 refine au 7 ?_
 refine ak (cD rfl rfl (aF (n := d0) (by rw [Vz]; exact (Int.natCast_mul _ _).symm) Om)) ?_
 refine au 1 ?_
 refine ak (aO rfl rfl (aF (n := d0 + (b0 + w0 / 4294967296) / 4294967296) Om Om)) ?_
 refine au 1 ?_
 refine ak (bZ rfl rfl Om (wL _)) ?_
 refine ak (aO rfl rfl (aF (n := x * y / 18446744073709551616) Om hlt)) ?_
 refine au 7 ?_
 refine ak (cD rfl rfl (IM (n := x * y) (Int.natCast_mul _ _).symm)) ?_
 refine aU ?_
 refine hret rfl rfl ?_
 exact ⟨rfl, Ext.refl _⟩
theorem gL (x y c : Nat) (hc : c ≤ 1) (w : World) :
  (callFunc 201 #[.int .u64 (x : Int), .int .u64 (y : Int), .int .u64 (c : Int)]).run Tryz.prog w = .ok (.value (.tuple #[.int .u64 (((x + y + c) % 18446744073709551616 : Nat) : Int), .int .u64 (((x + y + c) / 18446744073709551616 : Nat) : Int)])) w := by
 rw [run_callFunc_extern func201 Kr Kr Kr (e := add64Entry) Kr, run_add64 x y c Om Om Om Om]
 simp only [Result.andThen]
 congr 5 <;> omega
def tw (s : Nat) : Array Value := #[.int .u64 ((s / 18446744073709551616 : Nat) : Int), .int .u64 ((s % 18446744073709551616 : Nat) : Int)]
theorem tS (s : Nat) : (tw s).all (·.oneCell') = true := by simp [tw, Value.oneCell']
theorem uN (s a b : Nat) (w : World) (ha : a < 18446744073709551616) (hb : b < 18446744073709551616) (hs : s + a * b < 340282366920938463463374607431768211456) :
  Ct 200 #[.agg (tw s), .int .u64 (a : Int), .int .u64 (b : Int)] w fun e w' => e = .returned (.agg (tw (s + a * b))) ∧ Ext w w' := by
 obtain ⟨m, hm⟩ : ∃ m, m = a * b := ⟨_, rfl⟩
 rw [← hm] at hs ⊢
 refine aH (s := 2) 34 func200 rfl rfl rfl underlying241 rfl Kr rfl ?_
 intro _ hret
 refine aU ?_
 intro w1 g1 (B1 : ao _ _ _ (tw s)) Vz ex
 have E1 := ex
 refine aU ?_
 intro w2 g2 (B2 : ao _ _ _ (tw 0)) Vx ex
 have E2 := E1.ext ex; have Vy := B1.ext ex; have Vw : w.heap.size ≤ g2 := Nat.le_trans E1.size Vx
 refine aU ?_
 refine aB func237 rfl (ou a b _ ha hb) ?_
 rintro e _ ⟨rfl, ex⟩
 refine au 1 ?_
 rw [← hm]; have E3 := E2.ext ex; have C1 := Vy.ext ex; have C2 := B2.ext ex
 refine au 12 ?_
 refine ak ((mh rfl (gL _ _ 0 Om))) ?_
 refine au 13 ?_
 refine ak ((mh rfl (gL _ _ _ Om))) ?_
 refine au 7 ?_
 rw [show (s / 18446744073709551616 + m / 18446744073709551616 + (s % 18446744073709551616 + m % 18446744073709551616 + 0) / 18446744073709551616) % 18446744073709551616 = (s + m) / 18446744073709551616 by omega, show (s % 18446744073709551616 + m % 18446744073709551616 + 0) % 18446744073709551616 = (s + m) % 18446744073709551616 by omega]
 refine au 3 ?_
 refine ak (aq rfl (cells := tw (s + m)) Kr) ?_
 refine ag (ah rfl rfl Kr C2 rfl (tS _)) rfl ?_
 rintro _ _ ⟨rfl, B4, cg⟩
 have E4 := E3.aE cg Vw
 refine aU ?_
 refine hret rfl B4 rfl ?_
 exact ⟨rfl, E4⟩
end
section
open Go.RowKit Tryz
attribute [local irreducible] Y Ef WL WC WK WQ WM cE
def sm (S : Nat → Nat) : Array Value := ((List.range 5).map fun r => (tw (S r)).toList).flatten.toArray
theorem ot (S : Nat → Nat) : sm S = #[.int .u64 ((S 0 / 18446744073709551616 : Nat) : Int), .int .u64 ((S 0 % 18446744073709551616 : Nat) : Int), .int .u64 ((S 1 / 18446744073709551616 : Nat) : Int), .int .u64 ((S 1 % 18446744073709551616 : Nat) : Int), .int .u64 ((S 2 / 18446744073709551616 : Nat) : Int), .int .u64 ((S 2 % 18446744073709551616 : Nat) : Int), .int .u64 ((S 3 / 18446744073709551616 : Nat) : Int), .int .u64 ((S 3 % 18446744073709551616 : Nat) : Int), .int .u64 ((S 4 / 18446744073709551616 : Nat) : Int), .int .u64 ((S 4 % 18446744073709551616 : Nat) : Int)] := rfl
theorem Aj (S : Nat → Nat) : (sm S).size = 10 := rfl
theorem FR (S : Nat → Nat) {r : Nat} (hr : r < 5) (j : Nat) (v : Value) (h : (tw (S r))[j]? = some v) : (sm S)[r * 2 + j]? = some v := by
 rw [ot]
 unfold tw at h
 have hj : j < 2 := by
  rcases Nat.lt_or_ge j 2 with h1 | h1
  ·exact h1
  ·rw [Array.getElem?_eq_none (by simpa using h1)] at h; cases h
 rcases Nat.lt_or_ge j 1 with h1 | h1
 ·obtain rfl : j = 0 := by omega
  match r, hr with
  | 0, _ | 1, _ | 2, _ | 3, _ | 4, _ => simpa using h
 ·obtain rfl : j = 1 := by omega
  match r, hr with
  | 0, _ | 1, _ | 2, _ | 3, _ | 4, _ => simpa using h
theorem Mr (S : Nat → Nat) {r : Nat} (hr : r < 5) : (sm S).extract (r * 2) (r * 2 + 2) = tw (S r) := by
 rw [ot]
 match r, hr with
 | 0, _ | 1, _ | 2, _ | 3, _ | 4, _ => rfl
theorem GQ (S : Nat → Nat) {r : Nat} (hr : r < 5) (x : Nat) : ((sm S).toList.take (r * 2) ++ (tw x).toList ++ (sm S).toList.drop (r * 2 + (tw x).size)).toArray = sm (fun q => if q = r then x else S q) := by
 rw [ot, ot]
 match r, hr with
 | 0, _ | 1, _ | 2, _ | 3, _ | 4, _ => rfl
theorem vY {S T : Nat → Nat} (h : ∀ r, r < 5 → S r = T r) : sm S = sm T := by
 rw [ot, ot, h 0 Om, h 1 Om, h 2 Om, h 3 Om, h 4 Om]
theorem NU (x : Nat) (hx : x * 8192 < 18446744073709551616) : IntKind.u64.wrap ((x : Int) * 2 ^ (min (13 : Int).toNat IntKind.u64.bits)) = ((x * 8192 : Nat) : Int) := by
 rw [show (2 : Int) ^ (min (13 : Int).toNat IntKind.u64.bits) = 8192 from rfl]
 exact aF Om hx
theorem PH (a b : Nat) (hb : b < 8192) (ha : a * 8192 < 18446744073709551616) : bits .or .u64 ((a * 8192 : Nat) : Int) (b : Int) = ((a * 8192 + b : Nat) : Int) := by
 have h := (cu (p := a * 8192) (q := b) ha Om).2.1
 rw [h, show a * 8192 = 2 ^ 13 * a by omega, Nat.two_pow_add_eq_or_of_lt (show b < 2 ^ 13 from hb)]
theorem Fm (f g : Nat → Nat) (w : World) (hf : Fp.small f) (hg : Fp.small g) :
  Ct 144 #[.agg (fe f), .agg (fe g)] w fun e w' => ∃ h, e = .returned (.agg (fe h)) ∧ Fp.small h ∧ Fp.val h % Fp.p = Fp.val f * Fp.val g % Fp.p ∧ Ext w w' := by
 obtain ⟨S, hS⟩ : ∃ S, S = Fp.acc f g 25 := ⟨_, rfl⟩
 have hSl : ∀ j, j < 5 → S j ≤ 9634144561734543451374944360857600 := fun j _ => by rw [hS]; exact Fp.Eu hf hg 25 j Om
 have VF : S 4 ≤ 101412048018258352119736256430080 := by rw [hS]; exact Fp.GJ hf hg
 have hz : ∀ t r, t ≤ 25 → Fp.acc f g t r ≤ 9634144561734543451374944360857600 := fun t r ht => by have := Fp.Eu hf hg t r ht; omega
 refine aH (s := 5) 88 func144 rfl rfl rfl underlying134 rfl Kr rfl ?_
 intro _ hret
 refine aU ?_
 intro w1 g1 (B1 : ao _ _ _ (fe f)) V0 ex
 have E1 := ex
 refine aU ?_
 intro w2 g2 (B2 : ao _ _ _ (fe g)) V4 ex
 have E2 := E1.ext ex; replace B1 := B1.ext ex; have V5 := B2.lt
 refine aU ?_
 intro w3 g3 (B3 : ao _ _ _ (fe (fun _ => 0))) VG ex
 have E3 := E2.ext ex; replace B1 := B1.ext ex; replace B2 := B2.ext ex; have V6 := B3.lt
 refine aU ?_
 intro w4 g4 (B4 : ao _ _ _ (sm (fun _ => 0))) VH ex
 have E4 := E3.ext ex; replace B1 := B1.ext ex; replace B2 := B2.ext ex; replace B3 := B3.ext ex; have Vw : w.heap.size ≤ g4 := Nat.le_trans E3.size VH; have Vz : w.heap.size ≤ g3 := Nat.le_trans E2.size VG
 refine aU ?_
 refine az (fun n' L wr => ∃ i : Nat, L = [(3, .pointer (some ⟨g2, 0, none⟩)), (4, .pointer (some ⟨g3, 0, none⟩)), (5, .pointer (some ⟨g4, 0, none⟩)), (18, .agg (fe f)), (19, .int .i64 (i : Int))] ∧ n' = 5 - i ∧ (i ≤ 5 ∧ Ext w wr ∧ ao wr g2 134 (fe g) ∧ ao wr g3 134 (fe (fun _ => 0)) ∧ ao wr g4 242 (sm (Fp.acc f g (5 * i))))) _ _ ⟨0, rfl, rfl, by omega, E4, B2, B3, B4⟩ Ls ?_
 rintro _ n' L wr ⟨i, rfl, rfl, _, F, C2, C3, C4⟩ VI
 refine aU ?_
 refine al rfl (fun VJ => ?_) (fun VJ => ?_)
 ·refine au 7 ?_
  refine ak (mW rfl rfl Tn.u Tn.u rfl Kr rfl Om (dy f rfl Om)) ?_
  refine aU ?_
  have hfi := hf i Om
  refine az (fun n' L wq => ∃ k : Nat, L = [(3, .pointer (some ⟨g2, 0, none⟩)), (4, .pointer (some ⟨g3, 0, none⟩)), (5, .pointer (some ⟨g4, 0, none⟩)), (6, .int .i64 (i : Int)), (7, .int .u64 ((f i : Nat) : Int)), (18, .agg (fe f)), (19, .int .i64 (i : Int)), (24, .agg (fe g)), (25, .int .i64 (k : Int))] ∧ n' = 5 - k ∧ (k ≤ 5 ∧ Ext w wq ∧ ao wq g2 134 (fe g) ∧ ao wq g3 134 (fe (fun _ => 0)) ∧ ao wq g4 242 (sm (Fp.acc f g (5 * i + k))))) _ _ ⟨0, rfl, rfl, by omega, F, C2, C3, C4⟩ Ls ?_
  rintro _ n' L wq ⟨k, rfl, rfl, _, G, K2, K3, K4⟩ VC
  refine aU ?_
  refine al rfl (fun VK => ?_) (fun VK => ?_)
  ·refine au 7 ?_
   refine ak (mW rfl rfl Tn.u Tn.u rfl Kr rfl Om (dy g rfl Om)) ?_
   refine au 9 ?_
   refine ak (aO rfl rfl (bj (n := i + k) Om Om)) ?_
   refine aU ?_
   refine al rfl (fun VL => ?_) (fun VL => ?_)
   ·have hgk := hg k Om
    refine au 2 ?_
    refine ak (cD rfl rfl (aF (n := g k * 19) Om Om)) ?_
    have VA := hg k Om
    have Vx : (i + k) % 5 < 5 := by omega
    have hac := hz (5 * i + k) ((i + k) % 5) Om
    have hpr : f i * (g k * 19) ≤ 4503599627370496 * 85568392920039424 := Nat.mul_le_mul Om Om
    have hmt : ∀ r, Fp.acc f g (5 * i + (k + 1)) r = if r = (i + k) % 5 then Fp.acc f g (5 * i + k) ((i + k) % 5) + f i * (g k * 19) else Fp.acc f g (5 * i + k) r := fun r => by
     rw [show 5 * i + (k + 1) = 5 * i + k + 1 from rfl, Fp.acc, Fp.yk, show (5 * i + k) / 5 = i by omega, show (5 * i + k) % 5 = k by omega]
     by_cases h : r = (i + k) % 5
     ·subst h; rw [if_pos rfl, if_pos rfl]; congr 2; split <;> first | rfl | (exfalso; omega)
     ·rw [if_neg h, if_neg (fun e => h e.symm), Nat.add_zero]
    refine au 6 ?_
    refine ak (aO rfl rfl (bj (n := i + k) Om Om)) ?_
    refine ak (cK rfl rfl Om (show (((i + k : Nat) : Int).tmod 5 = (((i + k) % 5 : Nat) : Int)) from rfl)) ?_
    refine au 2 ?_
    refine ak (aO rfl rfl (bj (n := i + k) Om Om)) ?_
    refine ak (cK rfl rfl Om (show (((i + k : Nat) : Int).tmod 5 = (((i + k) % 5 : Nat) : Int)) from rfl)) ?_
    refine ak (uq (s := 2) rfl rfl Tn.u Kr rfl Om) ?_
    refine ak (fL rfl Tn.u rfl (cs := tw (Fp.acc f g (5 * i + k) ((i + k) % 5))) Kr (fun j v h => by rw [Addr.add_plain, Nat.zero_add]; exact K4.get (FR _ Vx j v h))) ?_
    refine aU ?_
    refine aB func200 rfl (uN _ (f i) (g k * 19) _ Om Om Om) ?_
    rintro e w5 ⟨rfl, ex⟩
    refine au 1 ?_
    have G5 := G.ext ex; have L2 := K2.ext ex; have L3 := K3.ext ex; have L4 := K4.ext ex
    refine ak (uq (s := 2) rfl rfl Tn.u Kr rfl Om) ?_
    refine ag (aL rfl rfl Kr L4 (by rw [Aj]; show 0 + (i + k) % 5 * 2 + 2 ≤ 10; omega) (tS _)) rfl ?_
    rintro _ w6 ⟨rfl, B6, cg⟩
    rw [Nat.zero_add, GQ _ Vx] at B6; have G6 := G5.aE cg Vw; have M2 := L2.aE cg Om; have M3 := L3.aE cg Om
    refine au 7 ?_
    refine ae ?_
    refine VC _ _ ⟨k + 1, rfl, rfl, by omega, G6, M2, M3, B6.congr (vY fun r _ => (hmt r).symm)⟩ Om Ls
   ·have VA := hg k Om
    have Vx : (i + k) % 5 < 5 := by omega
    have hac := hz (5 * i + k) ((i + k) % 5) Om
    have hpr : f i * (g k) ≤ 4503599627370496 * 85568392920039424 := Nat.mul_le_mul Om Om
    have hmt : ∀ r, Fp.acc f g (5 * i + (k + 1)) r = if r = (i + k) % 5 then Fp.acc f g (5 * i + k) ((i + k) % 5) + f i * (g k) else Fp.acc f g (5 * i + k) r := fun r => by
     rw [show 5 * i + (k + 1) = 5 * i + k + 1 from rfl, Fp.acc, Fp.yk, show (5 * i + k) / 5 = i by omega, show (5 * i + k) % 5 = k by omega]
     by_cases h : r = (i + k) % 5
     ·subst h; rw [if_pos rfl, if_pos rfl]; congr 2; split <;> first | rfl | (exfalso; omega)
     ·rw [if_neg h, if_neg (fun e => h e.symm), Nat.add_zero]
    refine au 5 ?_
    refine ak (aO rfl rfl (bj (n := i + k) Om Om)) ?_
    refine ak (cK rfl rfl Om (show (((i + k : Nat) : Int).tmod 5 = (((i + k) % 5 : Nat) : Int)) from rfl)) ?_
    refine au 2 ?_
    refine ak (aO rfl rfl (bj (n := i + k) Om Om)) ?_
    refine ak (cK rfl rfl Om (show (((i + k : Nat) : Int).tmod 5 = (((i + k) % 5 : Nat) : Int)) from rfl)) ?_
    refine ak (uq (s := 2) rfl rfl Tn.u Kr rfl Om) ?_
    refine ak (fL rfl Tn.u rfl (cs := tw (Fp.acc f g (5 * i + k) ((i + k) % 5))) Kr (fun j v h => by rw [Addr.add_plain, Nat.zero_add]; exact K4.get (FR _ Vx j v h))) ?_
    refine aU ?_
    refine aB func200 rfl (uN _ (f i) (g k) _ Om Om Om) ?_
    rintro e w5 ⟨rfl, ex⟩
    refine au 1 ?_
    have G5 := G.ext ex; have L2 := K2.ext ex; have L3 := K3.ext ex; have L4 := K4.ext ex
    refine ak (uq (s := 2) rfl rfl Tn.u Kr rfl Om) ?_
    refine ag (aL rfl rfl Kr L4 (by rw [Aj]; show 0 + (i + k) % 5 * 2 + 2 ≤ 10; omega) (tS _)) rfl ?_
    rintro _ w6 ⟨rfl, B6, cg⟩
    rw [Nat.zero_add, GQ _ Vx] at B6; have G6 := G5.aE cg Vw; have M2 := L2.aE cg Om; have M3 := L3.aE cg Om
    refine au 7 ?_
    refine ae ?_
    refine VC _ _ ⟨k + 1, rfl, rfl, by omega, G6, M2, M3, B6.congr (vY fun r _ => (hmt r).symm)⟩ Om Ls
  ·refine au 10 ?_
   refine ae ?_
   refine VI _ _ ⟨i + 1, rfl, rfl, by omega, G, K2, K3, K4.congr (by rw [show k = 5 by omega]; rfl)⟩ Om Ls
 ·have VM : ao wr g4 242 (sm S) := C4.congr (by rw [hS, show i = 5 by omega])
  refine aU ?_
  intro w7 g7 (B7 : ao _ _ _ (fe (fun _ => 0))) VN ex
  have E7 := F.ext ex; have D3 := C3.ext ex; have D4 := VM.ext ex; have Vy : w.heap.size ≤ g7 := Nat.le_trans F.size VN; have VO := C3.lt
  refine aU ?_
  refine az (fun n' L wz => ∃ q : Nat, L = [(4, .pointer (some ⟨g3, 0, none⟩)), (10, .pointer (some ⟨g7, 0, none⟩)), (11, .int .u64 ((Fp.fr S q : Nat) : Int)), (51, .agg (sm S)), (52, .int .i64 (q : Int))] ∧ n' = 5 - q ∧ (q ≤ 5 ∧ Ext w wz ∧ ao wz g3 134 (fe (fun _ => 0)) ∧ ao wz g7 134 (fe (fun j => if j < q then (S j + Fp.fr S j) % 2251799813685248 else 0)))) _ _ ⟨0, rfl, rfl, by omega, E7, D3, B7⟩ Ls ?_
  rintro _ n' L wz ⟨q, rfl, rfl, _, H, J3, J7⟩ VP
  refine aU ?_
  refine al rfl (fun VQ => ?_) (fun VQ => ?_)
  ·refine au 7 ?_
   refine ak (Ow rfl rfl Tn.u Tn.u rfl Kr rfl Om (Mr S Om)) ?_
   refine aU ?_
   intro w8 g8 (B8 : ao _ _ _ (tw 0)) VR ex
   have H8 := H.ext ex; have P3 := J3.ext ex; have P7 := J7.ext ex; have VB : w.heap.size ≤ g8 := Nat.le_trans H.size VR; have VS := J3.lt; have VT := J7.lt
   refine au 1 ?_
   refine ag (ah rfl rfl Kr B8 rfl (tS _)) rfl ?_
   rintro _ _ ⟨rfl, _, cg⟩
   have H9 := H8.aE cg VB; have Q3 := P3.aE cg Om; have Q7 := P7.aE cg Om; have hfr := Fp.Lz hSl q Om; have hSq := hSl q Om
   refine au 7 ?_
   refine ak ((mh rfl (gL _ _ 0 Om))) ?_
   refine au 12 ?_
   refine ak (aO rfl rfl (aF (n := (S q + Fp.fr S q) / 18446744073709551616) Om Om)) ?_
   refine au 4 ?_
   rw [show (S q % 18446744073709551616 + Fp.fr S q + 0) % 18446744073709551616 = (S q + Fp.fr S q) % 18446744073709551616 by omega]
   refine au 3 ?_
   refine ak (cM rfl rfl (kq _ Om)) ?_
   refine au 2 ?_
   refine ag (av rfl rfl rfl Kr Q7 (by rw [aj]; omega)) rfl ?_
   rintro _ _ ⟨rfl, VD, cg⟩
   rw [Nat.zero_add, gS] at VD; have VU := H9.aE cg Vy; have R3 := Q3.aE cg Om
   refine au 4 ?_
   refine ak (fk rfl rfl Om (NU _ Om)) ?_
   refine au 1 ?_
   refine ak (bZ rfl rfl Om (tq _ Om)) ?_
   refine ak (iH rfl rfl (PH _ _ Om Om)) ?_
   refine au 8 ?_
   refine ae ?_
   have hfrs : Fp.fr S (q + 1) = (S q + Fp.fr S q) / 2251799813685248 := rfl
   refine VP _ _ ⟨q + 1, rfl, rfl, by omega, VU, R3, VD.congr (dG fun j hj => by
    by_cases h : j = q
    ·subst h; rw [if_pos rfl, if_pos Om]; omega
    ·rw [if_neg h]; by_cases h2 : j < q
     ·rw [if_pos h2, if_pos Om]
     ·rw [if_neg h2, if_neg Om])⟩ Om Ls
  ·obtain rfl : q = 5 := by omega
   have V7 := Fp.Kk hSl VF
   obtain ⟨o, ho⟩ : ∃ o : Nat → Nat, o = fun j => (S j + Fp.fr S j) % 2251799813685248 + (if j = 0 then Fp.fr S 5 * 19 else 0) := ⟨_, rfl⟩
   have hol : ∀ j, j < 5 → o j < 18446744073709551616 := fun j hj => by rw [ho]; show (S j + Fp.fr S j) % 2251799813685248 + (if j = 0 then Fp.fr S 5 * 19 else 0) < _; split <;> omega
   have hov := Fp.IE S
   rw [← ho] at hov
   have hoc : ∀ j, j < 5 → (if j = 0 then (S 0 + Fp.fr S 0) % 2251799813685248 + Fp.fr S 5 * 19 else if j < 5 then (S j + Fp.fr S j) % 2251799813685248 else 0) = o j := fun j hj => by
    rw [ho]
    show _ = (S j + Fp.fr S j) % 2251799813685248 + (if j = 0 then Fp.fr S 5 * 19 else 0)
    by_cases h : j = 0
    ·subst h; rw [if_pos rfl, if_pos rfl]
    ·rw [if_neg h, if_pos hj, if_neg h, Nat.add_zero]
   refine au 8 ?_
   refine ak (bG rfl rfl Tn.u Kr (j := 0) rfl Om) ?_
   refine ak (af rfl Tn.u rfl (J7.get (v := .int .u64 (((S 0 + Fp.fr S 0) % 2251799813685248 : Nat) : Int)) (by rw [Nat.zero_add, dy _ (j := 0) rfl Om, if_pos Om]))) ?_
   refine au 1 ?_
   refine ak (cD rfl rfl (aF (n := Fp.fr S 5 * 19) Om Om)) ?_
   refine ak (aO rfl rfl (aF (n := (S 0 + Fp.fr S 0) % 2251799813685248 + Fp.fr S 5 * 19) Om Om)) ?_
   refine au 1 ?_
   refine ak (bG rfl rfl Tn.u Kr (j := 0) rfl Om) ?_
   refine ag (av rfl rfl rfl Kr J7 (by rw [aj]; omega)) rfl ?_
   rintro _ VV ⟨rfl, VE, cg⟩
   have VW := H.aE cg Vy; have U3 := J3.aE cg Om; replace VE : ao VV g7 134 (fe o) := (VE.congr (gS _ 0 _)).congr (dG hoc)
   refine aU ?_
   refine aB func202 rfl (jk o _ hol) ?_
   rintro e _ ⟨rfl, ex⟩
   refine au 1 ?_
   have VX := VW.ext ex; have V3 := U3.ext ex
   refine ag (ah rfl rfl (by rw [aj]; kernel_rfl) V3 (by rw [aj, aj]) (bh _)) rfl ?_
   rintro _ _ ⟨rfl, VY, cg⟩
   have VZ := VX.aE cg Vz
   refine aU ?_
   refine hret rfl VY (aj _) ?_
   exact ⟨Fp.carry o, rfl, Fp.fX hol, by
    obtain ⟨n, hn⟩ := Fp.JD f g
    rw [Fp.eT, hn, Nat.add_mul_mod_self_left, ← hS, ← hov, Nat.add_mul_mod_self_left], VZ⟩
end
end
section
section
open Go.RowKit Tryz
attribute [local irreducible] Y Ef WL WC WK WQ WM cE
def Fe (cs : Array Value) (x : Nat) : Prop := ∃ f, cs = fe f ∧ Fp.small f ∧ Fp.val f % Fp.p = x
theorem Fe.lt {cs : Array Value} {x : Nat} (h : Fe cs x) : x < Fp.p := by
 obtain ⟨f, _, _, rfl⟩ := h; exact Nat.mod_lt _ (by unfold Fp.p; omega)
theorem Fe.size {cs : Array Value} {x : Nat} (h : Fe cs x) : cs.size = 5 := by obtain ⟨f, rfl, _⟩ := h; exact aj f
theorem Fe.one {cs : Array Value} {x : Nat} (h : Fe cs x) : cs.all (·.oneCell') = true := by obtain ⟨f, rfl, _⟩ := h; exact bh f
theorem Fe.zero : Fe (fe (fun _ => 0)) 0 := ⟨_, rfl, fun j _ => by show 0 < _; omega, rfl⟩
theorem vr {cs ds : Array Value} {a b : Nat} (ha : Fe cs a) (hb : Fe ds b) (w : World) :
  Ct 144 #[.agg cs, .agg ds] w fun e w' => ∃ es, e = .returned (.agg es) ∧ Fe es (a * b % Fp.p) ∧ Ext w w' := by
 obtain ⟨f, rfl, hf, rfl⟩ := ha
 obtain ⟨g, rfl, hg, rfl⟩ := hb
 refine (Fm f g w hf hg).mono ?_
 rintro e w' ⟨h, rfl, hh, hv, ex⟩
 exact ⟨_, rfl, ⟨h, rfl, hh, by rw [hv, Nat.mul_mod]⟩, ex⟩
theorem Gh {cs ds : Array Value} {a b : Nat} (ha : Fe cs a) (hb : Fe ds b) (w : World) :
  Ct 151 #[.agg cs, .agg ds] w fun e w' => ∃ es, e = .returned (.agg es) ∧ Fe es ((a + b) % Fp.p) ∧ Ext w w' := by
 obtain ⟨f, rfl, hf, rfl⟩ := ha
 obtain ⟨g, rfl, hg, rfl⟩ := hb
 refine aH (s := 5) 24 func151 rfl rfl rfl underlying134 rfl Kr rfl ?_
 intro _ hret
 refine aU ?_
 intro w1 g1 (B1 : ao _ _ _ (fe f)) Vx ex
 have E1 := ex; have VB := B1.lt
 refine aU ?_
 intro w2 g2 (B2 : ao _ _ _ (fe g)) VC ex
 have E2 := E1.ext ex; replace B1 := B1.ext ex; have VD := B2.lt
 refine aU ?_
 intro w3 g3 (B3 : ao _ _ _ (fe (fun _ => 0))) Vy ex
 have E3 := E2.ext ex; replace B1 := B1.ext ex; replace B2 := B2.ext ex; have Vw : w.heap.size ≤ g3 := Nat.le_trans E2.size Vy
 refine aU ?_
 refine az (fun n' L wr => ∃ i : Nat, L = [(2, .pointer (some ⟨g1, 0, none⟩)), (4, .pointer (some ⟨g3, 0, none⟩)), (8, .agg (fe g)), (9, .int .i64 (i : Int))] ∧ n' = 5 - i ∧ (i ≤ 5 ∧ Ext w wr ∧ ao wr g1 134 (fe (fun j => if j < i then f j + g j else f j)) ∧ ao wr g3 134 (fe (fun _ => 0)))) _ _ ⟨0, rfl, rfl, by omega, E3, B1.congr (dG fun j _ => by rw [if_neg Om]), B3⟩ Ls ?_
 rintro _ n' L wr ⟨i, rfl, rfl, _, F, C1, C3⟩ Vz
 refine aU ?_
 refine al rfl (fun VA => ?_) (fun VA => ?_)
 ·have hfi := hf i Om; have hgi := hg i Om
  refine au 7 ?_
  refine ak (mW rfl rfl Tn.u Tn.u rfl Kr rfl Om (dy g rfl Om)) ?_
  refine au 8 ?_
  refine ak (af rfl Tn.u rfl (C1.get (v := .int .u64 ((f i : Nat) : Int)) (by rw [Nat.zero_add, dy _ rfl Om, if_neg Om]))) ?_
  refine au 1 ?_
  refine ak (aO rfl rfl (aF (n := f i + g i) Om Om)) ?_
  refine au 2 ?_
  refine ag (av rfl rfl rfl Kr C1 (by rw [aj]; omega)) rfl ?_
  rintro _ _ ⟨rfl, B4, cg⟩
  rw [Nat.zero_add, gS] at B4; have F4 := F.aE cg Vx; have D3 := C3.aE cg Om
  refine au 7 ?_
  refine ae ?_
  refine Vz _ _ ⟨i + 1, rfl, rfl, by omega, F4, B4.congr (dG fun j _ => by
   by_cases h : j = i
   ·subst h; rw [if_pos rfl, if_pos Om]
   ·rw [if_neg h]; by_cases h2 : j < i
    ·rw [if_pos h2, if_pos Om]
    ·rw [if_neg h2, if_neg Om]), D3⟩ Om Ls
 ·have hs : ∀ j, j < 5 → (if j < i then f j + g j else f j) < 18446744073709551616 := fun j hj => by have := hf j hj; have := hg j hj; split <;> omega
  have hv : Fp.val (fun j => if j < i then f j + g j else f j) = Fp.val f + Fp.val g := by
   rw [Fp.val_congr (g := fun j => f j + g j) fun j hj => by rw [if_pos Om]]
   simp only [Fp.val]; omega
  refine aU ?_
  refine aB func202 rfl (jk _ _ hs) ?_
  rintro e _ ⟨rfl, ex⟩
  refine au 1 ?_
  have F5 := F.ext ex; have D5 := C3.ext ex
  refine ag (ah rfl rfl (by rw [aj]; kernel_rfl) D5 (by rw [aj, aj]) (bh _)) rfl ?_
  rintro _ _ ⟨rfl, B6, cg⟩
  have F6 := F5.aE cg Vw
  refine aU ?_
  refine hret rfl B6 (aj _) ?_
  exact ⟨_, rfl, ⟨_, rfl, Fp.fX hs, by rw [Fp.eT, hv, Nat.add_mod]⟩, F6⟩
def iR (j : Nat) : Nat := if j = 0 then 4503599627370458 else 4503599627370494
theorem wJ (j : Nat) : 4503599627370458 ≤ iR j ∧ iR j ≤ 4503599627370494 := by unfold iR; split <;> omega
theorem uv {F G a b p : Nat} (hF : F % p = a) (hG : G % p = b) (hb : b < p) (Vw : G ≤ F + 2 * p) : (F + 2 * p - G) % p = (a + p - b) % p := by
 have e1 := Nat.div_add_mod F p
 have e2 := Nat.div_add_mod G p
 rw [hF] at e1; rw [hG] at e2
 have h : F + 2 * p - G + p * (G / p) = a + p - b + p * (F / p + 1) := by
  rw [Nat.mul_add, Nat.mul_one]
  omega
 rw [← Nat.add_mul_mod_self_left (F + 2 * p - G) p (G / p), h, Nat.add_mul_mod_self_left]
theorem wK {cs ds : Array Value} {a b : Nat} (ha : Fe cs a) (hb : Fe ds b) (w : World) :
  Ct 206 #[.agg cs, .agg ds] w fun e w' => ∃ es, e = .returned (.agg es) ∧ Fe es ((a + Fp.p - b) % Fp.p) ∧ Ext w w' := by
 have hbl := hb.lt
 obtain ⟨f, rfl, hf, hfa⟩ := ha
 obtain ⟨g, rfl, hg, hgb⟩ := hb
 refine aH (s := 5) 29 func206 rfl rfl rfl underlying134 rfl Kr rfl ?_
 intro _ hret
 refine aU ?_
 intro w1 g1 (B1 : ao _ _ _ (fe f)) Vy ex
 have E1 := ex; have VD := B1.lt
 refine aU ?_
 intro w2 g2 (B2 : ao _ _ _ (fe g)) VE ex
 have E2 := E1.ext ex; replace B1 := B1.ext ex; have VF := B2.lt
 refine aU ?_
 intro w3 g3 (B3 : ao _ _ _ (fe (fun _ => 0))) Vz ex
 have E3 := E2.ext ex; replace B1 := B1.ext ex; replace B2 := B2.ext ex; have Vw : w.heap.size ≤ g3 := Nat.le_trans E2.size Vz; have VG := B3.lt
 refine au 4 ?_
 refine ak (aq rfl (cells := fe iR) Kr) ?_
 refine aU ?_
 intro w4 g4 (B4 : ao _ _ _ (fe (fun _ => 0))) VA ex
 have E4 := E3.ext ex; replace B1 := B1.ext ex; replace B2 := B2.ext ex; replace B3 := B3.ext ex; have Vx : w.heap.size ≤ g4 := Nat.le_trans E3.size VA
 refine ag (ah rfl rfl Kr B4 (by rw [aj, aj]) (bh _)) rfl ?_
 rintro _ _ ⟨rfl, B5, cg⟩
 have E5 := E4.aE cg Vx; replace B1 := B1.aE cg Om; replace B2 := B2.aE cg Om; replace B3 := B3.aE cg Om
 refine aU ?_
 refine az (fun n' L wr => ∃ i : Nat, L = [(2, .pointer (some ⟨g1, 0, none⟩)), (3, .pointer (some ⟨g2, 0, none⟩)), (4, .pointer (some ⟨g3, 0, none⟩)), (5, .pointer (some ⟨g4, 0, none⟩)), (8, .int .i64 (i : Int))] ∧ n' = 5 - i ∧ (i ≤ 5 ∧ Ext w wr ∧ ao wr g1 134 (fe (fun j => if j < i then f j + (iR j - g j) else f j)) ∧ ao wr g2 134 (fe g) ∧ ao wr g3 134 (fe (fun _ => 0)) ∧ ao wr g4 132 (fe iR))) _ _ ⟨0, rfl, rfl, by omega, E5, B1.congr (dG fun j _ => by rw [if_neg Om]), B2, B3, B5⟩ Ls ?_
 rintro _ n' L wr ⟨i, rfl, rfl, _, F, C1, C2, C3, C4⟩ VB
 refine aU ?_
 refine al rfl (fun VC => ?_) (fun VC => ?_)
 ·refine aU ?_
  have hfi := hf i Om; have hgi := hg i Om; have htw := wJ i
  refine aC Kr 16 rfl ?_; intro VH ex VI
  replace F := F.ext ex; replace C1 := C1.ext ex; replace C2 := C2.ext ex; replace C3 := C3.ext ex; replace C4 := C4.ext ex
  refine zm [0, 1, 2] ?_
  refine my 3 rfl (af rfl Tn.u rfl (C1.get (v := .int .u64 ((f i : Nat) : Int)) (by rw [Nat.zero_add, dy _ rfl Om, if_neg Om]))) ?_
  refine zm [4, 5] ?_
  refine my 6 rfl (af rfl Tn.u rfl (C4.get (dy iR (by rw [Nat.zero_add]) Om))) ?_
  refine zm [7, 8, 9] ?_
  refine my 10 rfl (af rfl Tn.u rfl (C2.get (dy g (by rw [Nat.zero_add]) Om))) ?_
  refine dk 11 rfl (fun _ => eS rfl rfl (aF (n := iR i - g i) Om Om)) ?_
  refine dk 12 rfl (fun _ => aO rfl rfl (aF (n := f i + (iR i - g i)) Om Om)) ?_
  refine zm [13, 14] ?_
  refine bk 15 Kr ?_; refine bH rfl (av rfl rfl rfl Kr C1 (by rw [aj]; omega)) rfl ?_
  rintro _ _ ⟨rfl, B6, cg⟩
  refine ⟨.inl rfl, ?_⟩
  rw [Nat.zero_add, gS] at B6; have F6 := F.aE cg Vy; have D2 := C2.aE cg Om; have D3 := C3.aE cg Om; have D4 := C4.aE cg Om
  refine au 8 ?_
  refine ae ?_
  refine VB _ _ ⟨i + 1, rfl, rfl, by omega, F6, B6.congr (dG fun j _ => by
   by_cases h : j = i
   ·subst h; rw [if_pos rfl, if_pos Om]
   ·rw [if_neg h]; by_cases h2 : j < i
    ·rw [if_pos h2, if_pos Om]
    ·rw [if_neg h2, if_neg Om]), D2, D3, D4⟩ Om Ls
 ·have hs : ∀ j, j < 5 → (if j < i then f j + (iR j - g j) else f j) < 18446744073709551616 := fun j hj => by have := hf j hj; have := wJ j; split <;> omega
  have hv : Fp.val (fun j => if j < i then f j + (iR j - g j) else f j) = Fp.val f + 2 * Fp.p - Fp.val g ∧ Fp.val g ≤ Fp.val f + 2 * Fp.p := by
   rw [Fp.val_congr (g := fun j => f j + (iR j - g j)) fun j hj => by rw [if_pos Om]]
   have h0 := hg 0 Om; have h1 := hg 1 Om; have h2 := hg 2 Om; have h3 := hg 3 Om; have h4 := hg 4 Om
   simp only [Fp.val, iR, Fp.p]
   simp
   omega
  refine aU ?_
  refine aB func202 rfl (jk _ _ hs) ?_
  rintro e _ ⟨rfl, ex⟩
  refine au 1 ?_
  have F7 := F.ext ex; have D3 := C3.ext ex
  refine ag (ah rfl rfl (by rw [aj]; kernel_rfl) D3 (by rw [aj, aj]) (bh _)) rfl ?_
  rintro _ _ ⟨rfl, B8, cg⟩
  have F8 := F7.aE cg Vw
  refine aU ?_
  refine hret rfl B8 (aj _) ?_
  exact ⟨_, rfl, ⟨_, rfl, Fp.fX hs, by rw [Fp.eT, hv.1]; exact uv hfa hgb hbl hv.2⟩, F8⟩
theorem GS {cs : Array Value} {a : Nat} (ha : Fe cs a) (w : World) :
  Ct 208 #[.agg cs] w fun e w' => ∃ es, e = .returned (.agg es) ∧ Fe es ((Fp.p - a) % Fp.p) ∧ Ext w w' := by
 have hsz := ha.size
 refine aH (s := 5) 6 func208 rfl rfl rfl underlying134 rfl Kr rfl ?_
 intro _ hret
 refine aU ?_
 intro w1 g1 (B1 : ao _ _ _ (cs)) Vy ex
 have E1 := ex
 refine aU ?_
 intro w2 g2 (B2 : ao _ _ _ (fe (fun _ => 0))) Vx ex
 have E2 := E1.ext ex; replace B1 := B1.ext ex; have Vw : w.heap.size ≤ g2 := Nat.le_trans E1.size Vx
 refine au 4 ?_
 refine ak (aq rfl (cells := fe (fun _ => 0)) Kr) ?_
 refine ak ((aY rfl Tn.u rfl (by rw [hsz]; kernel_rfl) B1)) ?_
 refine aB func206 rfl (wK Fe.zero ha _) ?_
 rintro e _ ⟨es, rfl, he, ex⟩
 refine au 1 ?_
 rw [Nat.zero_add] at he; have E3 := E2.ext ex; have D2 := B2.ext ex
 refine ag (ah rfl rfl (by rw [he.size]; kernel_rfl) D2 (by rw [aj, he.size]) he.one) rfl ?_
 rintro _ _ ⟨rfl, B4, cg⟩
 have E4 := E3.aE cg Vw
 refine aU ?_
 refine hret rfl B4 he.size ?_
 exact ⟨es, rfl, he, E4⟩
theorem vw {cs : Array Value} {a : Nat} (ha : Fe cs a) (w : World) :
  Ct 205 #[.agg cs] w fun e w' => ∃ es, e = .returned (.agg es) ∧ Fe es (a * a % Fp.p) ∧ Ext w w' := by
 have hsz := ha.size
 refine aH (s := 5) 6 func205 rfl rfl rfl underlying134 rfl Kr rfl ?_
 intro _ hret
 refine aU ?_
 intro w1 g1 (B1 : ao _ _ _ (cs)) Vy ex
 have E1 := ex
 refine aU ?_
 intro w2 g2 (B2 : ao _ _ _ (fe (fun _ => 0))) Vx ex
 have E2 := E1.ext ex; replace B1 := B1.ext ex; have Vw : w.heap.size ≤ g2 := Nat.le_trans E1.size Vx
 refine au 4 ?_
 refine ak ((aY rfl Tn.u rfl (by rw [hsz]; kernel_rfl) B1)) ?_
 refine ak ((aY rfl Tn.u rfl (by rw [hsz]; kernel_rfl) B1)) ?_
 refine aB func144 rfl (vr ha ha _) ?_
 rintro e _ ⟨es, rfl, he, ex⟩
 refine au 1 ?_
 have E3 := E2.ext ex; have D2 := B2.ext ex
 refine ag (ah rfl rfl (by rw [he.size]; kernel_rfl) D2 (by rw [aj, he.size]) he.one) rfl ?_
 rintro _ _ ⟨rfl, B4, cg⟩
 have E4 := E3.aE cg Vw
 refine aU ?_
 refine hret rfl B4 he.size ?_
 exact ⟨es, rfl, he, E4⟩
theorem DL (n : Nat) (w : World) (hn : n < 18446744073709551616) :
  Ct 143 #[.int .u64 (n : Int)] w fun e w' => ∃ es, e = .returned (.agg es) ∧ Fe es n ∧ Ext w w' := by
 obtain ⟨h, hh⟩ : ∃ h : Nat → Nat, h = fun j => if j = 0 then n % 2251799813685248 else if j = 1 then n / 2251799813685248 else 0 := ⟨_, rfl⟩
 have hsm : Fp.small h := fun j _ => by rw [hh]; show (if j = 0 then n % 2251799813685248 else if j = 1 then n / 2251799813685248 else 0) < _; split <;> (try split) <;> omega
 refine aH (s := 5) 9 func143 rfl rfl rfl underlying134 rfl Kr rfl ?_
 intro _ hret
 refine aU ?_
 intro w1 g1 (B1 : ao _ _ _ (fe (fun _ => 0))) Vw ex
 have E1 := ex
 refine au 5 ?_
 refine ak (cM rfl rfl (kq _ hn)) ?_
 refine au 1 ?_
 refine ak (bZ rfl rfl Om (tq _ hn)) ?_
 refine ak (aq rfl (cells := fe h) (by rw [hh]; kernel_rfl)) ?_
 refine ak (aq rfl (cells := fe h) (by rw [hh]; kernel_rfl)) ?_
 refine ag (ah rfl rfl (by rw [aj]; kernel_rfl) B1 (by rw [aj, aj]) (bh _)) rfl ?_
 rintro _ _ ⟨rfl, B2, cg⟩
 have E2 := E1.aE cg Vw
 refine aU ?_
 refine hret rfl B2 (aj _) ?_
 exact ⟨_, rfl, ⟨h, rfl, hsm, by rw [hh]; simp only [Fp.val, Fp.p]; simp; omega⟩, E2⟩
theorem Ff (f : Nat → Nat) : (fe f).extract 0 (0 + 5) = fe f := rfl
theorem Jw (x : Nat) (hx : x < 18446744073709551616) : bits .and .u64 (x : Int) 1 = ((x % 2 : Nat) : Int) := by
 have h := (cu (p := x) (q := 1) hx Om).1
 rw [show ((1 : Int)) = ((1 : Nat) : Int) from rfl, h, Nat.and_one_is_mod]
theorem Gq {cs : Array Value} {a : Nat} (ha : Fe cs a) (w : World) :
  Ct 156 #[.agg cs] w fun e w' => e = .returned (.bool (decide (a % 2 = 1))) ∧ Ext w w' := by
 obtain ⟨f, rfl, hf, hfa⟩ := ha
 refine ai 9 func156 rfl rfl rfl rfl ?_
 intro _ hret
 refine aU ?_
 intro w1 g1 (B1 : ao _ _ _ (fe f)) Vw ex
 have E1 := ex
 refine aU ?_
 refine aB func209 rfl (lv f _ hf) ?_
 rintro e _ ⟨rfl, ex⟩
 refine au 1 ?_
 rw [hfa]; have E2 := E1.ext ex; have hl := Fp.Bi a 0
 refine ak (FT (o := 0) (s := 5) rfl underlying134 rfl underlying132 rfl Kr (Ff _)) ?_
 refine ak (mW rfl rfl Tn.u Tn.u rfl Kr (j := 0) rfl Om (dy _ (j := 0) rfl Om)) ?_
 refine ak (cM rfl rfl (Jw _ Om)) ?_
 refine aU ?_
 refine hret rfl ?_
 exact ⟨cV (by simp only [Fp.fx, Nat.pow_zero, Nat.div_one]; omega), E2⟩
end
section
open Go.RowKit Tryz Go.ChangeMaps
theorem JW (a b : Nat) : ((a : Int) == (b : Int)) = decide (a = b) := by
 by_cases h : a = b
 ·subst h; simp
 ·rw [decide_eq_false h]; simp; omega
theorem GD (f : Nat → Nat) {j : Nat} (hj : j < 5) (w : World) : (part 38 (fe f) j).run Tryz.prog w = .ok (.int .u64 ((f j : Nat) : Int)) w := by
 have h : (fe f)[j]? = some (.int .u64 ((f j : Nat) : Int)) := dy f rfl hj
 simp [part, DM underlying38 rfl w, h]
theorem Jf (f g : Nat → Nat) (w : World) : (binOp .eql 134 (.agg (fe f)) (.agg (fe g))).run Tryz.prog w = .ok (.bool (decide (f 0 = g 0 ∧ f 1 = g 1 ∧ f 2 = g 2 ∧ f 3 = g 3 ∧ f 4 = g 4))) w := by
 rw [run_eql_struct]
 rw [run_equalIn_struct w 9999 _ _ _ (by simp [Program.fieldsOf, underlying134]) Kr]
 have hfs : (Tryz.prog.fieldsOf 134).toList = [{ name := "l", type := 132, offset := 0, embedded := false, tag := "", pkgPath := "ratline/field", byteOffset := 0 }] := by simp [Program.fieldsOf, underlying134]
 rw [hfs]
 have hp : ∀ h : Nat → Nat, (part 132 (fe h) 0).run Tryz.prog w = .ok (.agg (fe h)) w := fun h => by
  have hs : (sizeOf 132).run Tryz.prog w = .ok 5 w := bn Kr w
  simp [part, lM underlying132 rfl w, hs]
  exact .inr (by rw [aj]; omega)
 simp only [Op.eqFields]
 rw [if_pos (show "l" ≠ "_" by decide)]
 simp only [Sem.run_bind, hp, Result.andThen_ok]
 obtain ⟨i, hi⟩ : ∃ i, Tryz.prog.info? 38 = some i := Option.isSome_iff_exists.1 Kr
 have hc : Tryz.prog.cellsOf 38 = 1 := by kernel_rfl
 rw [run_equalIn_array w 9998 (fe f) (fe g) underlying132 hi, hc, show List.range 5 = [0, 1, 2, 3, 4] from rfl]
 have he : ∀ a b : Nat, (Op.equalIn 9998 38 (.int .u64 (a : Int)) (.int .u64 (b : Int))).run Tryz.prog w = .ok (decide (a = b)) w := fun a b => by
  rw [run_equalIn_int w 9997 _ .u64 .u64 _ _ underlying38]
  rw [JW]
 have P : ∀ h : Nat → Nat, ∀ j, j < 5 → (part 38 (fe h) j).run Tryz.prog w = .ok (.int .u64 ((h j : Nat) : Int)) w := fun h j hj => GD h hj w
 simp only [Op.eqItems, Nat.mul_one, Sem.run_bind, P f 0 Om, P f 1 Om, P f 2 Om, P f 3 Om, P f 4 Om, P g 0 Om, P g 1 Om, P g 2 Om, P g 3 Om, P g 4 Om, he, Result.andThen_ok, Sem.run_ite, Sem.run_pure]
 by_cases h0 : f 0 = g 0 <;> by_cases h1 : f 1 = g 1 <;> by_cases h2 : f 2 = g 2 <;> by_cases h3 : f 3 = g 3 <;> by_cases h4 : f 4 = g 4 <;> simp [h0, h1, h2, h3, h4]
theorem Ob {f g : Nat → Nat} {L : List (Nat × Value)} {w : World} {x y : Operand} {ty t' : TypeId} (hx : ev L x = some (.agg (fe f))) (hy : ev L y = some (.agg (fe g))) :
  Y Tryz.prog L w (.binOp .eql 134 x y t') ty (.bool (decide (f 0 = g 0 ∧ f 1 = g 1 ∧ f 2 = g 2 ∧ f 3 = g 3 ∧ f 4 = g 4))) := fun ρ hρ w' _ _ _ _ _ => by
 have hg := run_eqGuard_agg (P := Tryz.prog) w' .eql 134 x y (fe f) (fe g) Kr
 simp [execOp, hρ _ _ hx, hρ _ _ hy, hg, Jf f g w']
attribute [local irreducible] Y Ef WL WC WK WQ WM cE
theorem Dk {a b : Nat} (ha : a < Fp.p) (hb : b < Fp.p) : (Fp.fx a 0 = Fp.fx b 0 ∧ Fp.fx a 1 = Fp.fx b 1 ∧ Fp.fx a 2 = Fp.fx b 2 ∧ Fp.fx a 3 = Fp.fx b 3 ∧ Fp.fx a 4 = Fp.fx b 4) ↔ a = b := by
 constructor
 ·rintro ⟨h0, h1, h2, h3, h4⟩
  have e : Fp.val (Fp.fx a) = Fp.val (Fp.fx b) := by unfold Fp.val; rw [h0, h1, h2, h3, h4]
  unfold Fp.p at ha hb
  rwa [Fp.vg a Om, Fp.vg b Om] at e
 ·rintro rfl; exact ⟨rfl, rfl, rfl, rfl, rfl⟩
theorem By {cs ds : Array Value} {a b : Nat} (ha : Fe cs a) (hb : Fe ds b) (w : World) :
  Ct 242 #[.agg cs, .agg ds] w fun e w' => e = .returned (.bool (decide (a = b))) ∧ Ext w w' := by
 have hal := ha.lt; have hbl := hb.lt
 obtain ⟨f, rfl, hf, hfa⟩ := ha
 obtain ⟨g, rfl, hg, hgb⟩ := hb
 refine ai 10 func242 rfl rfl rfl rfl ?_
 intro _ hret
 refine aU ?_
 intro w1 g1 (B1 : ao _ _ _ (fe f)) Vw ex
 have E1 := ex
 refine aU ?_
 intro w2 g2 (B2 : ao _ _ _ (fe g)) Vx ex
 have E := E1.ext ex; replace B1 := B1.ext ex
 refine aU ?_
 refine aC Kr 6 rfl ?_; intro Vy ex Vz
 obtain ⟨E,B1,B2⟩ := bC ex E B1 B2
 refine zm [0, 2] ?_
 refine bD 1 rfl func209 rfl (lv f _ hf) ?_
 rintro e _ ⟨rfl, ex⟩
 refine au 1 ?_
 replace E := E.ext ex
 rw [hfa]
 refine bD 3 rfl func209 rfl (lv g _ hg) ?_
 rintro e _ ⟨rfl, ex⟩
 refine au 1 ?_
 replace E := E.ext ex
 rw [hgb]
 refine my 4 rfl ((Ob rfl rfl)) ?_
 refine zm [5] ?_
 refine hret rfl ?_
 exact ⟨cV (Dk hal hbl), E⟩
end
end
end Go.Proofs.YtgfafidlkldeaaaGreat
