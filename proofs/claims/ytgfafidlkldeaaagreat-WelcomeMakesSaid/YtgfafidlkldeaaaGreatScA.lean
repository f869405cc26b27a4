/- Scalars as four words: sums, differences, what is left of the order: plain laws. No program in sight. Scalars as the program holds them: four words; sums, differences, modulo the order. -/
import Derived.Test.YtgfafidlkldeaaaGreatFieldS
import Derived.Test.YtgfafidlkldeaaaGreatFieldA
import Derived.Test.YtgfafidlkldeaaaGreatFieldB
import Derived.Shelf.Spec.BitsCarry
import Derived.Test.YtgfafidlkldeaaaGreatVc7
import Derived.Test.YtgfafidlkldeaaaGreatFieldL
import Derived.Test.YtgfafidlkldeaaaGreatAu
set_option linter.unusedVariables false
set_option linter.unusedSimpArgs false
set_option maxHeartbeats 4000000
set_option maxRecDepth 4000
namespace Go.Proofs.YtgfafidlkldeaaaGreat
section
namespace Sc
def W : Nat := 18446744073709551616
theorem Hv : 0 < W := by unfold W; omega
theorem Wp (i : Nat) : 0 < W ^ i := Nat.pow_pos Hv
def wl (k n : Nat) : List Nat := Fp.fn k fun j => n / W ^ j % W
def L : Nat := Ed.L
theorem MS : L = 7237005577332262213973186563042994240857116359379907606001950938285454250989 := rfl
theorem eo (a i : Nat) : a % W ^ (i + 1) = a % W ^ i + W ^ i * (a / W ^ i % W) := by rw [Nat.pow_succ, Nat.mod_mul]
theorem DQ (a b i : Nat) : (a / W ^ i % W + b / W ^ i % W + (a % W ^ i + b % W ^ i) / W ^ i) % W = (a + b) / W ^ i % W ∧ (a / W ^ i % W + b / W ^ i % W + (a % W ^ i + b % W ^ i) / W ^ i) / W = (a % W ^ (i + 1) + b % W ^ (i + 1)) / W ^ (i + 1) := by
 have hp := Wp i
 have e1 := eo a i
 have e2 := eo b i
 have hS : (a % W ^ (i + 1) + b % W ^ (i + 1)) / W ^ i = a / W ^ i % W + b / W ^ i % W + (a % W ^ i + b % W ^ i) / W ^ i := by
  rw [e1, e2, show a % W ^ i + W ^ i * (a / W ^ i % W) + (b % W ^ i + W ^ i * (b / W ^ i % W)) = (a % W ^ i + b % W ^ i) + W ^ i * (a / W ^ i % W + b / W ^ i % W) from by rw [Nat.mul_add]; omega, Nat.add_mul_div_left _ _ hp]
  omega
 constructor
 ·rw [← hS]
  have h : a + b = (a % W ^ (i + 1) + b % W ^ (i + 1)) + W ^ (i + 1) * (a / W ^ (i + 1) + b / W ^ (i + 1)) := by
   have h1 := Nat.mod_add_div a (W ^ (i + 1)); have h2 := Nat.mod_add_div b (W ^ (i + 1))
   rw [Nat.mul_add]; omega
  rw [h, Nat.pow_succ, Nat.mul_assoc, Nat.add_mul_div_left _ _ hp, Nat.add_mul_mod_self_left]
 ·rw [← hS, Nat.div_div_eq_div_mul, Nat.pow_succ]
def vn (a b i : Nat) : Nat := if a % W ^ i < b % W ^ i then 1 else 0
theorem wJ (a b i : Nat) : vn a b i ≤ 1 := by unfold vn; split <;> omega
theorem lex_lt {P A B la lb : Nat} (ha : la < P) (hb : lb < P) : la + P * A < lb + P * B ↔ A < B ∨ (A = B ∧ la < lb) := by
 rcases Nat.lt_trichotomy A B with h | h | h
 ·have := Nat.mul_le_mul_left P (Nat.succ_le_of_lt h)
  rw [Nat.mul_succ] at this
  constructor
  ·intro _; exact .inl h
  ·intro _; omega
 ·subst h
  constructor
  ·intro h2; exact .inr ⟨rfl, by omega⟩
  ·rintro (h2 | ⟨_, h2⟩)
   ·omega
   ·omega
 ·have := Nat.mul_le_mul_left P (Nat.succ_le_of_lt h)
  rw [Nat.mul_succ] at this
  constructor
  ·intro h2; omega
  ·rintro (h2 | ⟨h2, _⟩) <;> omega
theorem DX (a b i : Nat) : vn a b (i + 1) = if a / W ^ i % W < b / W ^ i % W + vn a b i then 1 else 0 := by
 have hp := Wp i
 have key := lex_lt (P := W ^ i) (A := a / W ^ i % W) (B := b / W ^ i % W) (Nat.mod_lt a hp) (Nat.mod_lt b hp)
 rw [← eo, ← eo] at key
 unfold vn
 by_cases h0 : a % W ^ i < b % W ^ i
 ·rw [if_pos h0]
  by_cases h1 : a % W ^ (i + 1) < b % W ^ (i + 1)
  ·rw [if_pos h1, if_pos]
   rcases key.1 h1 with h | ⟨h, _⟩ <;> omega
  ·rw [if_neg h1, if_neg]
   intro h
   apply h1
   rw [key]
   rcases Nat.lt_or_ge (a / W ^ i % W) (b / W ^ i % W) with h2 | h2
   ·exact .inl h2
   ·exact .inr ⟨by omega, h0⟩
 ·rw [if_neg h0]
  by_cases h1 : a % W ^ (i + 1) < b % W ^ (i + 1)
  ·rw [if_pos h1, if_pos]
   rcases key.1 h1 with h | ⟨_, h⟩
   ·omega
   ·exact absurd h h0
  ·rw [if_neg h1, if_neg]
   intro h
   apply h1
   rw [key]
   left; omega
theorem r7 (qa qb M c : Nat) (hc : c ≤ 1) (h : qb + c ≤ qa + 18446744073709551616 * M) : (qa + 18446744073709551616 * M - qb - c) % 18446744073709551616 = (qa % 18446744073709551616 + 2 * 18446744073709551616 - qb % 18446744073709551616 - c) % 18446744073709551616 := by
 omega
theorem FD {P M a b ra rb qa qb : Nat} (hp : 0 < P) (ha : a = P * qa + ra) (hb : b = P * qb + rb) (la : ra < P) (lb : rb < P) (h : b ≤ P * M) : (a + P * M - b) / P = qa + M - qb - (if ra < rb then 1 else 0) ∧ qb + (if ra < rb then 1 else 0) ≤ M := by
 have hq : qb ≤ M := by
  apply Classical.byContradiction; intro hc
  have := Nat.mul_le_mul_left P (show M + 1 ≤ qb by omega)
  rw [Nat.mul_succ] at this; omega
 split
 ·rename_i hlt
  have Vl : qb + 1 ≤ M := by
   apply Classical.byContradiction; intro hc
   have : qb = M := by omega
   subst this; omega
  refine ⟨?_, Vl⟩
  obtain ⟨k, rfl⟩ : ∃ k, M = qb + 1 + k := ⟨M - (qb + 1), by omega⟩
  have e : a + P * (qb + 1 + k) - b = (P + ra - rb) + P * (qa + k) := by
   rw [ha, hb, Nat.mul_add P (qb + 1), Nat.mul_add P qb, Nat.mul_add P qa]; omega
  rw [e, Nat.add_mul_div_left _ _ hp, Nat.div_eq_of_lt Om]; omega
 ·rename_i hlt
  refine ⟨?_, hq⟩
  obtain ⟨k, rfl⟩ : ∃ k, M = qb + k := ⟨M - qb, by omega⟩
  have e : a + P * (qb + k) - b = (ra - rb) + P * (qa + k) := by
   rw [ha, hb, Nat.mul_add P qb, Nat.mul_add P qa]; omega
  rw [e, Nat.add_mul_div_left _ _ hp, Nat.div_eq_of_lt Om]; omega
theorem Dq {a b i : Nat} (hb : b ≤ W ^ 4) (hi : i < 4) : (a + W ^ 4 - b) / W ^ i % W = (a / W ^ i % W + 2 * W - b / W ^ i % W - vn a b i) % W := by
 have hp := Wp i
 have e4 : W ^ 4 = W ^ i * (W * W ^ (3 - i)) := by rw [← Nat.mul_assoc, ← Nat.pow_succ, ← Nat.pow_add]; congr 1; omega
 have h := FD (M := W * W ^ (3 - i)) hp (Nat.div_add_mod a (W ^ i)).symm (Nat.div_add_mod b (W ^ i)).symm (Nat.mod_lt _ hp) (Nat.mod_lt _ hp) (by rw [← e4]; exact hb)
 rw [e4, h.1]
 have hc := wJ a b i
 have h2 := h.2
 unfold vn at *
 exact r7 _ _ _ _ hc (Nat.le_trans h2 (Nat.le_add_left _ _))
theorem Et {a b : Nat} (ha : a < W ^ 4) (hb : b < W ^ 4) : vn a b 4 = if a < b then 1 else 0 := by
 unfold vn; rw [Nat.mod_eq_of_lt ha, Nat.mod_eq_of_lt hb]
theorem CU : L < W ^ 4 := by decide +kernel
theorem LG : 2 * L < W ^ 4 := by decide +kernel
theorem Nr : wl 4 L = [0x5812631a5cf5d3ed, 0x14def9dea2f79cd6, 0, 0x1000000000000000] := by decide +kernel
end Sc
end
section
open Go.RowKit Tryz
section
attribute [local irreducible] Y Ef WL WC WK WQ WM cx WN WF cT
theorem zC (x y c : Nat) (hc : c ≤ 1) (w : World) :
  (callFunc 263 #[.int .u64 (x : Int), .int .u64 (y : Int), .int .u64 (c : Int)]).run Tryz.prog w = .ok (.value (.tuple #[.int .u64 (((x + 18446744073709551616 - y - c) % 18446744073709551616 : Nat) : Int), .int .u64 ((if x < y + c then 1 else 0 : Nat) : Int)])) w := by
 rw [run_callFunc_extern func263 Kr Kr Kr (e := sub64Entry) Kr, run_sub64 x y c hc]
 rfl
def ws (f : Nat → Nat) : Array Value := aK .u64 (Fp.fn 4 f)
theorem ar (f : Nat → Nat) : (ws f).size = 4 := by rw [ws, bc, Fp.dF]
theorem iT (f : Nat → Nat) {i j : Nat} (hi : i = j) (h : j < 4) : (ws f)[i]? = some (.int .u64 (f j : Nat)) := by
 subst hi; rw [ws, de _ _ _ (by rw [Fp.dF]; exact h), Fp.ow f h]
theorem Dz (f : Nat → Nat) (i x : Nat) : (ws f).setIfInBounds i (.int .u64 (x : Int)) = ws (fun j => if j = i then x else f j) := by
 rw [ws, eS, Fp.vZ, ws]
theorem dp (f : Nat → Nat) : (ws f).all (·.oneCell') = true := cF _ _
theorem gJ {f g : Nat → Nat} (h : ∀ j, j < 4 → f j = g j) : ws f = ws g := by unfold ws; rw [Fp.lX h]
def z4 : Nat → Nat := fun _ => 0
namespace Sc
def wd (n j : Nat) : Nat := n / W ^ j % W
theorem rH (n j : Nat) : wd n j < 18446744073709551616 := Nat.mod_lt _ Hv
def mq (n i j : Nat) : Nat := if j < i then wd n j else 0
theorem qt (n : Nat) : ws (mq n 4) = ws (wd n) := gJ fun j h => by unfold mq; rw [if_pos h]
theorem oO (n : Nat) : ws z4 = ws (mq n 0) := gJ fun j h => by unfold mq; rw [if_neg Om]; rfl
theorem pD {n i x : Nat} (h : x = wd n i) : (ws (mq n i)).setIfInBounds (0 + i) (.int .u64 (x : Int)) = ws (mq n (i + 1)) := by
 rw [Nat.zero_add, Dz]
 refine gJ fun j hj => ?_
 unfold mq
 by_cases h1 : j = i
 ·subst h1; rw [if_pos rfl, if_pos Om, h]
 ·rw [if_neg h1]
  by_cases h2 : j < i
  ·rw [if_pos h2, if_pos Om]
  ·rw [if_neg h2, if_neg Om]
def G0 (a b i : Nat) : Nat := (a % W ^ i + b % W ^ i) / W ^ i
theorem JF (a b i : Nat) : G0 a b i ≤ 1 := by
 unfold G0
 have h1 := Nat.mod_lt a (Wp i); have h2 := Nat.mod_lt b (Wp i)
 have := Nat.div_lt_of_lt_mul (show a % W ^ i + b % W ^ i < W ^ i * 2 by omega)
 omega
theorem uG (a b i : Nat) : (wd a i + wd b i + G0 a b i) % 18446744073709551616 = wd (a + b) i ∧ (wd a i + wd b i + G0 a b i) / 18446744073709551616 = G0 a b (i + 1) := DQ a b i
theorem CY {a b i : Nat} (hb : b ≤ W ^ 4) (hi : i < 4) : (wd a i + 18446744073709551616 - wd b i - vn a b i) % 18446744073709551616 = wd (a + W ^ 4 - b) i := by
 have h := Dq (a := a) hb hi
 have h1 := rH a i; have h2 := rH b i; have h3 := wJ a b i
 unfold wd at *
 rw [h]
 simp only [show W = 18446744073709551616 from rfl] at *
 omega
theorem CB (a b : Nat) : vn a b 0 = 0 := by unfold vn; rw [if_neg (by simp [Nat.mod_one])]
theorem Ee (a b : Nat) : G0 a b 0 = 0 := by unfold G0; simp [Nat.mod_one]
theorem Aq (a b i : Nat) : (if wd a i < wd b i + vn a b i then 1 else 0) = vn a b (i + 1) := (DX a b i).symm
end Sc
theorem vu (w : World) : Ct 245 #[] w fun e w' => e = .returned (.agg (ws (Sc.wd Sc.L))) ∧ Ext w w' := by
 have E := Ext.refl w
 have hL : ws (Sc.wd Sc.L) = #[.int .u64 6346243789798364141, .int .u64 1503914060200516822, .int .u64 0, .int .u64 1152921504606846976] := by
  have := Sc.Nr
  unfold Sc.wl at this
  show aK .u64 (Fp.fn 4 (Sc.wd Sc.L)) = _
  rw [show Fp.fn 4 (Sc.wd Sc.L) = _ from this]
  rfl
 refine aI (s := 4) 2 func245 rfl rfl rfl underlying139 rfl Kr rfl ?_
 intro _ hret
 refine aU ?_
 intro w1 g0 (B0 : ao _ _ _ (ws z4)) Vl ex
 replace E := E.ext ex
 refine au 4 ?_
 refine ak (aJ rfl (cells := ws (Sc.wd Sc.L)) (by rw [hL]; kernel_rfl)) ?_
 refine af (ag rfl rfl (by rw [ar]; kernel_rfl) B0 (by rw [ar, ar]) (dp _)) rfl ?_
 rintro _ _ ⟨rfl, D0, cg⟩
 replace E := E.aw cg Vl
 refine aU ?_
 refine hret rfl D0 (ar _) ?_
 exact ⟨rfl, E⟩
theorem CO (a b : Nat) (w : World) (hb : b ≤ Sc.W ^ 4) :
  Ct 244 #[.agg (ws (Sc.wd a)), .agg (ws (Sc.wd b))] w fun e w' => e = .returned (.tuple #[.agg (ws (Sc.wd (a + Sc.W ^ 4 - b))), .int .u64 ((Sc.vn a b 4 : Nat) : Int)]) ∧ Ext w w' := by
 have E := Ext.refl w
 refine cV (s := 4) 28 func244 rfl rfl rfl underlying139 rfl Kr rfl ?_
 intro _ hret
 refine aU ?_
 intro w1 g2 (B2 : ao _ _ _ (ws (Sc.wd a))) Vn ex
 replace E := E.ext ex
 refine aU ?_
 intro w2 g3 (B3 : ao _ _ _ (ws (Sc.wd b))) Vo ex
 obtain ⟨E,B2⟩ := aY ex E B2
 have Vp := E.size
 refine aU ?_
 intro w3 g4 (B4 : ao _ _ _ (ws z4)) Vq ex
 obtain ⟨E,B2,B3⟩ := bC ex E B2 B3
 have Vr := B2.lt; have Vs := B3.lt; have Vt := B4.lt
 refine aU ?_
 intro w4 g6 (B6 : ao _ _ _ (ws z4)) Vu ex
 obtain ⟨E,B2,B3,B4⟩ := bU ex E B2 B3 B4
 rw [Sc.oO (a + Sc.W ^ 4 - b)] at B6
 refine aU ?_
 refine aF (fun n' L wr => ∃ (i k : Nat), L = [(2, .pointer (some ⟨g2, 0, none⟩)), (3, .pointer (some ⟨g3, 0, none⟩)), (4, .pointer (some ⟨g4, 0, none⟩)), (6, .pointer (some ⟨g6, 0, none⟩)), (7, .int .u64 (k : Int)), (9, .int .i64 (i : Int))] ∧ n' = 4 - i ∧ (i ≤ 4 ∧ k = Sc.vn a b i ∧ Ext w wr ∧ ao wr g2 139 (ws (Sc.wd a)) ∧ ao wr g3 139 (ws (Sc.wd b)) ∧ ao wr g4 139 (ws z4) ∧ ao wr g6 139 (ws (Sc.mq (a + Sc.W ^ 4 - b) i)))) _ _ ⟨0, 0, rfl, rfl, by omega, (Sc.CB a b).symm, E, B2, B3, B4, B6⟩ Ls ?_
 rintro _ n' L wr ⟨i, k, rfl, rfl, _, hk, E, B2, B3, B4, B6⟩ Vl
 refine aU ?_
 refine al rfl (fun Vm => ?_) (fun Vm => ?_)
 ·refine aU ?_
  refine aA Kr 15 rfl ?_; intro Vv ex Vw
  obtain ⟨E,B2,B3,B4,B6⟩ := gQ ex E B2 B3 B4 B6
  refine zm [0, 1, 2] ?_
  refine my 3 rfl (ah rfl Tn.u rfl (B2.get (iT _ (Nat.zero_add i) Om))) ?_
  refine zm [4, 5] ?_
  refine my 6 rfl (ah rfl Tn.u rfl (B3.get (iT _ (Nat.zero_add i) Om))) ?_
  refine zm [7] ?_
  refine my 8 rfl ((kI rfl (zC _ _ _ (hk ▸ Sc.wJ a b i)))) ?_
  refine Cc [9, 10, 11, 12] ?_
  refine au 5 ?_
  subst hk
  rw [Sc.Aq a b i]
  refine aM 13 Kr ?_; refine aO rfl (az rfl rfl rfl Kr B6 (by rw [ar]; omega)) rfl ?_
  rintro _ _ ⟨rfl, D6, cg⟩
  refine ⟨.inl rfl, ?_⟩
  rw [Sc.pD (Sc.CY hb Om)] at D6; replace E := E.aw cg Om; replace B2 := B2.aw cg Om; replace B3 := B3.aw cg Om; replace B4 := B4.aw cg Om; replace B6 := D6
  refine Cc [14] ?_
  refine au 10 ?_
  refine ae ?_
  refine Vl _ _ ⟨i + 1, _, rfl, rfl, by omega, rfl, E, B2, B3, B4, B6⟩ Om Ls
 ·obtain rfl : i = 4 := by omega
  subst hk
  rw [Sc.qt] at B6
  refine au 9 ?_
  refine af (ag rfl rfl (by rw [ar]; kernel_rfl) B4 (by rw [ar, ar]) (dp _)) rfl ?_
  rintro _ _ ⟨rfl, D4, cg⟩
  replace E := E.aw cg Om
  refine aU ?_
  refine hret rfl rfl D4 (ar _) ?_
  exact ⟨rfl, E⟩
theorem uj (a b : Nat) (w : World) :
  Ct 235 #[.agg (ws (Sc.wd a)), .agg (ws (Sc.wd b))] w fun e w' => e = .returned (.tuple #[.agg (ws (Sc.wd (a + b))), .int .u64 ((Sc.G0 a b 4 : Nat) : Int)]) ∧ Ext w w' := by
 have E := Ext.refl w
 refine cV (s := 4) 28 func235 rfl rfl rfl underlying139 rfl Kr rfl ?_
 intro _ hret
 refine aU ?_
 intro w1 g2 (B2 : ao _ _ _ (ws (Sc.wd a))) Vn ex
 replace E := E.ext ex
 refine aU ?_
 intro w2 g3 (B3 : ao _ _ _ (ws (Sc.wd b))) Vo ex
 obtain ⟨E,B2⟩ := aY ex E B2
 have Vp := E.size
 refine aU ?_
 intro w3 g4 (B4 : ao _ _ _ (ws z4)) Vq ex
 obtain ⟨E,B2,B3⟩ := bC ex E B2 B3
 have Vr := B2.lt; have Vs := B3.lt; have Vt := B4.lt
 refine aU ?_
 intro w4 g6 (B6 : ao _ _ _ (ws z4)) Vu ex
 obtain ⟨E,B2,B3,B4⟩ := bU ex E B2 B3 B4
 rw [Sc.oO (a + b)] at B6
 refine aU ?_
 refine aF (fun n' L wr => ∃ (i k : Nat), L = [(2, .pointer (some ⟨g2, 0, none⟩)), (3, .pointer (some ⟨g3, 0, none⟩)), (4, .pointer (some ⟨g4, 0, none⟩)), (6, .pointer (some ⟨g6, 0, none⟩)), (7, .int .u64 (k : Int)), (9, .int .i64 (i : Int))] ∧ n' = 4 - i ∧ (i ≤ 4 ∧ k = Sc.G0 a b i ∧ Ext w wr ∧ ao wr g2 139 (ws (Sc.wd a)) ∧ ao wr g3 139 (ws (Sc.wd b)) ∧ ao wr g4 139 (ws z4) ∧ ao wr g6 139 (ws (Sc.mq (a + b) i)))) _ _ ⟨0, 0, rfl, rfl, by omega, (Sc.Ee a b).symm, E, B2, B3, B4, B6⟩ Ls ?_
 rintro _ n' L wr ⟨i, k, rfl, rfl, _, hk, E, B2, B3, B4, B6⟩ Vl
 refine aU ?_
 refine al rfl (fun Vm => ?_) (fun Vm => ?_)
 ·refine aU ?_
  refine aA Kr 15 rfl ?_; intro Vv ex Vw
  obtain ⟨E,B2,B3,B4,B6⟩ := gQ ex E B2 B3 B4 B6
  refine zm [0, 1, 2] ?_
  refine my 3 rfl (ah rfl Tn.u rfl (B2.get (iT _ (Nat.zero_add i) Om))) ?_
  refine zm [4, 5] ?_
  refine my 6 rfl (ah rfl Tn.u rfl (B3.get (iT _ (Nat.zero_add i) Om))) ?_
  refine zm [7] ?_
  refine my 8 rfl ((kI rfl (fX _ _ _ (hk ▸ Sc.JF a b i)))) ?_
  refine Cc [9, 10, 11, 12] ?_
  refine au 5 ?_
  subst hk
  rw [(Sc.uG a b i).2]
  refine aM 13 Kr ?_; refine aO rfl (az rfl rfl rfl Kr B6 (by rw [ar]; omega)) rfl ?_
  rintro _ _ ⟨rfl, D6, cg⟩
  refine ⟨.inl rfl, ?_⟩
  rw [Sc.pD (Sc.uG a b i).1] at D6; replace E := E.aw cg Om; replace B2 := B2.aw cg Om; replace B3 := B3.aw cg Om; replace B4 := B4.aw cg Om; replace B6 := D6
  refine Cc [14] ?_
  refine au 10 ?_
  refine ae ?_
  refine Vl _ _ ⟨i + 1, _, rfl, rfl, by omega, rfl, E, B2, B3, B4, B6⟩ Om Ls
 ·obtain rfl : i = 4 := by omega
  subst hk
  rw [Sc.qt] at B6
  refine au 9 ?_
  refine af (ag rfl rfl (by rw [ar]; kernel_rfl) B4 (by rw [ar, ar]) (dp _)) rfl ?_
  rintro _ _ ⟨rfl, D4, cg⟩
  replace E := E.aw cg Om
  refine aU ?_
  refine hret rfl rfl D4 (ar _) ?_
  exact ⟨rfl, E⟩
theorem Sc.Kj (n j : Nat) (h : j < 4) : Sc.wd (n + Sc.W ^ 4) j = Sc.wd n j := by
 unfold Sc.wd
 have e4 : Sc.W ^ 4 = Sc.W ^ j * (Sc.W * Sc.W ^ (3 - j)) := by rw [← Nat.mul_assoc, ← Nat.pow_succ, ← Nat.pow_add]; congr 1; omega
 rw [e4, Nat.add_mul_div_left _ _ (Sc.Wp j), Nat.add_mul_mod_self_left]
theorem rB (a : Nat) (w : World) (ha : a < 2 * Sc.L) :
  Ct 236 #[.agg (ws (Sc.wd a))] w fun e w' => e = .returned (.agg (ws (Sc.wd (a % Sc.L)))) ∧ Ext w w' := by
 have E := Ext.refl w
 have hL := Sc.CU
 have Vt := Sc.LG
 have hbor := Sc.Et (a := a) (b := Sc.L) Om hL
 have hge : ¬ a < Sc.L → ws (Sc.wd (a + Sc.W ^ 4 - Sc.L)) = ws (Sc.wd (a % Sc.L)) := fun h => gJ fun j hj => by
  rw [show a + Sc.W ^ 4 - Sc.L = (a - Sc.L) + Sc.W ^ 4 by omega, Sc.Kj _ _ hj, Nat.mod_eq_sub_mod Om, Nat.mod_eq_of_lt Om]
 refine aI (s := 4) 15 func236 rfl rfl rfl underlying139 rfl Kr rfl ?_
 intro _ hret
 refine aU ?_
 intro w1 g1 (B1 : ao _ _ _ (ws (Sc.wd a))) Vu ex
 replace E := E.ext ex
 have hz := E.size
 refine aU ?_
 intro w2 g2 (B2 : ao _ _ _ (ws z4)) Vv ex
 obtain ⟨E,B1⟩ := aY ex E B1
 have Vq : w.heap.size ≤ g2 := Om
 refine aU ?_
 refine dc Kr 9 rfl ?_; intro Vr ex Vw
 obtain ⟨E,B1,B2⟩ := bC ex E B1 B2
 have Vs := E
 have Vl := B1
 have Vo := B2
 have X0 := Ext.refl Vr
 refine cR 0 rfl Kr ((aV rfl Tn.u rfl (by rw [ar]; kernel_rfl) Vl)) rfl ?_
 refine dd (fl := [nT 6 3 139 (ws z4)]) rfl ?_
 refine jj 1 (some 7) func245 ?_
 intro _ ex exb
 obtain ⟨E,B1,B2,X0⟩ := bU ex E B1 B2 X0
 refine ⟨_, (vu _), ?_⟩
 rintro e _ ⟨rfl, ex⟩
 refine ⟨_, rfl, ex, ?_⟩
 obtain ⟨E,B1,B2,X0⟩ := bU ex E B1 B2 X0
 refine jj 2 (some 8) func244 ?_
 intro _ ex exb
 obtain ⟨E,B1,B2,X0⟩ := bU ex E B1 B2 X0
 refine ⟨_, (CO a Sc.L _ Om), ?_⟩
 rintro e _ ⟨rfl, ex⟩
 refine ⟨_, rfl, ex, ?_⟩
 obtain ⟨E,B1,B2,X0⟩ := bU ex E B1 B2 X0
 rw [hbor]
 refine mZ (dst := some 5) 3 rfl Kr (bj rfl) rfl (aS (of_decide_eq_true rfl) av) ?_
 refine mZ (dst := some 9) 4 rfl Kr (du rfl rfl) rfl (aS (of_decide_eq_true rfl) av) ?_
 refine mZ (dst := some 10) 5 rfl Kr (du rfl rfl) rfl (aS (of_decide_eq_true rfl) av) ?_
 refine ie ⟨(aS (bw rfl Kr) av), of_decide_eq_true rfl, of_decide_eq_true rfl, (aS (⟨rfl, of_decide_eq_true rfl⟩) av), (aS (aR Kr) av)⟩ Kr ?_
 rintro _ _ ex ⟨⟨g3, rfl, Vn⟩, Vp⟩
 replace Vp := Vp g3 rfl
 obtain ⟨E,B1,B2,X0⟩ := bU ex E B1 B2 X0
 refine cL 7 Kr ?_
 refine dx rfl (ag rfl rfl (by rw [ar]; kernel_rfl) Vn (by rw [ar, ar]) (dp _)) rfl ?_
 rintro _ _ ⟨rfl, Vn, cg⟩
 replace X0 := X0.aw cg Vp
 refine ⟨X0, ?_⟩
 replace E := Vs.ext X0
 replace B1 := Vl.ext X0
 replace B2 := Vo.ext X0
 refine zm [8] ?_
 refine dA Kr ?_
 refine aU ?_
 refine al rfl (fun Vm => ?_) (fun Vm => ?_)
 ·have hlt : ¬ a < Sc.L := fun h => by rw [if_pos h] at Vm; exact absurd Vm (by decide)
  rw [hge hlt] at Vn
  refine au 2 ?_
  refine ak ((aV rfl Tn.u rfl (by rw [ar]; kernel_rfl) Vn)) ?_
  refine af (ag rfl rfl (by rw [ar]; kernel_rfl) B2 (by rw [ar, ar]) (dp _)) rfl ?_
  rintro _ w6 ⟨rfl, D2, cg⟩
  replace E := E.aw cg Vq
  refine aU ?_
  refine hret rfl D2 (ar _) ?_
  exact ⟨rfl, E⟩
 ·have hlt : a < Sc.L := Classical.byContradiction fun h => by rw [if_neg h] at Vm; exact absurd rfl Vm
  refine au 4 ?_
  refine ak ((aV rfl Tn.u rfl (by rw [ar]; kernel_rfl) B1)) ?_
  refine af (ag rfl rfl (by rw [ar]; kernel_rfl) B2 (by rw [ar, ar]) (dp _)) rfl ?_
  rintro _ w6 ⟨rfl, D2, cg⟩
  replace E := E.aw cg Vq
  refine aU ?_
  refine hret rfl D2 (ar _) ?_
  exact ⟨by rw [Nat.mod_eq_of_lt hlt], E⟩
end
section
attribute [local irreducible] Y Ef WL WC WK WQ WM cx WN WF cT
theorem JU (x k : Nat) (h : k < 64) : (x : Int) / 2 ^ (min ((k : Int)).toNat IntKind.u64.bits) = ((x / 2 ^ k : Nat) : Int) := by
 have e : min ((k : Int)).toNat IntKind.u64.bits = k := by show min k 64 = k; omega
 rw [e, Int.natCast_ediv, Int.natCast_pow]; rfl
namespace Sc
theorem yo : W = 2 ^ 64 := rfl
theorem AG (N b : Nat) : wd N (b / 64) / 2 ^ (b % 64) % 2 = N / 2 ^ b % 2 := by
 unfold wd
 have hr : b % 64 < 64 := Nat.mod_lt _ Om
 have e : W = 2 ^ (b % 64) * (2 * 2 ^ (63 - b % 64)) := by
  rw [yo, ← Nat.mul_assoc, ← Nat.pow_succ, ← Nat.pow_add]; congr 1; omega
 have hb : 2 ^ b = W ^ (b / 64) * 2 ^ (b % 64) := by
  rw [yo, ← Nat.pow_mul, ← Nat.pow_add]; congr 1; omega
 rw [hb, ← Nat.div_div_eq_div_mul]
 generalize N / W ^ (b / 64) = x
 rw [e, Nat.mod_mul_right_div_self, Nat.mod_mul_right_mod]
theorem FL (o b : Nat) (hb : b < 2) : wd (o + o) 0 / 2 * 2 = wd (o + o) 0 ∧ wd (o + o + b) 0 = wd (o + o) 0 + b := by
 unfold wd
 simp only [show W = 18446744073709551616 from rfl, Nat.pow_zero, Nat.div_one]
 omega
theorem Cp (o b j : Nat) (hb : b < 2) (hj : j ≠ 0) : wd (o + o + b) j = wd (o + o) j := by
 unfold wd
 obtain ⟨k, rfl⟩ : ∃ k, j = k + 1 := ⟨j - 1, by omega⟩
 have e : W ^ (k + 1) = 2 * (9223372036854775808 * W ^ k) := by rw [Nat.pow_succ, show W = 2 * 9223372036854775808 from rfl, ← Nat.mul_assoc 2, Nat.mul_comm _ (2 * 9223372036854775808)]
 rw [e, ← Nat.div_div_eq_div_mul, ← Nat.div_div_eq_div_mul (o + o)]
 congr 2
 omega
theorem Dv (o b : Nat) (hb : b < 2) : bits .or .u64 ((wd (o + o) 0 : Nat) : Int) ((b : Nat) : Int) = ((wd (o + o + b) 0 : Nat) : Int) := by
 have h1 := rH (o + o) 0
 have h2 := FL o b hb
 have h3 := (cf (p := wd (o + o) 0) (q := b) h1 Om).2.1
 rw [h3, h2.2]
 congr 1
 have e : wd (o + o) 0 = 2 ^ 1 * (wd (o + o) 0 / 2) := by omega
 rw [e, ← Nat.two_pow_add_eq_or_of_lt (by omega : b < 2 ^ 1)]
theorem Kq (o b : Nat) (hb : b < 2) : (ws (wd (o + o))).setIfInBounds (0 + 0) (.int .u64 ((wd (o + o + b) 0 : Nat) : Int)) = ws (wd (o + o + b)) := by
 rw [Nat.zero_add, Dz]
 refine gJ fun j _ => ?_
 split
 ·rename_i h; rw [h]
 ·rename_i h; rw [Cp o b j hb h]
theorem Bb (N b : Nat) : (N / 2 ^ (b + 1) % L + N / 2 ^ (b + 1) % L + N / 2 ^ b % 2) % L = N / 2 ^ b % L := by
 have e : N / 2 ^ b = N / 2 ^ (b + 1) * 2 + N / 2 ^ b % 2 := by
  rw [Nat.pow_succ, ← Nat.div_div_eq_div_mul]; omega
 generalize N / 2 ^ (b + 1) = q at *
 generalize N / 2 ^ b % 2 = r at *
 rw [e]
 have h2 : q * 2 + r = L * (q / L * 2) + (q % L + q % L + r) := by
  have h3 := Nat.div_add_mod q L
  have h4 : L * (q / L * 2) = (L * (q / L)) * 2 := by rw [Nat.mul_assoc]
  rw [h4]; omega
 rw [h2, Nat.mul_add_mod_self_left]
theorem xx : 0 < L := by rw [MS]; omega
end Sc
theorem nv (A : Oa) (n c N : Nat) (w : World) (H : Ns .u64 w A n (Fp.fn n (Sc.wd N))) (hN : N < 2 ^ (64 * n)) (hn : n ≤ 1000) :
  Ct 233 #[.slice A n c] w fun e w' => e = .returned (.agg (ws (Sc.wd (N % Sc.L)))) ∧ Ext w w' := by
 have E := Ext.refl w
 have hLp := Sc.xx
 refine aI (s := 4) 35 func233 rfl rfl rfl underlying141 rfl Kr rfl ?_
 intro _ hret
 refine aU ?_
 intro w1 g2 (B2 : ao _ _ _ (ws z4)) Vt ex
 replace E := E.ext ex
 refine aU ?_
 refine eY 0 (fun n' L wr => ∃ (b g3 : Nat), L = [(0, .slice A n c), (2, .pointer (some ⟨g2, 0, none⟩)), (3, .pointer (some ⟨g3, 0, none⟩)), (4, .int .i64 (b : Int))] ∧ n' = 1 + b ∧ (b ≤ 64 * n ∧ w.heap.size ≤ g3 ∧ g2 < g3 ∧ Ext w wr ∧ ao wr g2 141 (ws z4) ∧ ao wr g3 139 (ws (Sc.wd (N / 2 ^ b % Sc.L))))) rfl ?_ ?_
 ·rintro G n' L wr ⟨b, g3, rfl, rfl, _, Vp, Vq, E, B2, B3⟩ Vl
  refine au 3 ?_
  refine ak (eK rfl rfl (show IntKind.i64.wrap ((b : Int) - 1) = (b : Int) - 1 from br Om Om)) ?_
  refine aU ?_
  refine al rfl (fun Vr => ?_) (fun Vr => ?_)
  ·refine au 1 ?_
   obtain ⟨k, rfl⟩ : ∃ k, b = k + 1 := ⟨b - 1, by omega⟩
   rw [show (((k + 1 : Nat) : Int) - 1) = (k : Int) by omega]
   have ho := Nat.mod_lt (N / 2 ^ (k + 1)) hLp
   have hst := Sc.Bb N k
   have hbt := Sc.AG N k
   obtain ⟨o, hoe⟩ : ∃ o, o = N / 2 ^ (k + 1) % Sc.L := ⟨_, rfl⟩
   rw [← hoe] at B3 ho hst
   have Vn : N / 2 ^ k % 2 < 2 := Nat.mod_lt _ Om
   refine au 1 ?_
   refine ak ((aV rfl Tn.u rfl (by rw [ar]; kernel_rfl) B3)) ?_
   refine ak ((aV rfl Tn.u rfl (by rw [ar]; kernel_rfl) B3)) ?_
   refine aL func235 rfl (uj o o _) ?_
   rintro e _ ⟨rfl, ex⟩
   obtain ⟨E,B2,B3⟩ := bC ex E B2 B3
   refine au 4 ?_
   refine af (ag rfl rfl (by rw [ar]; kernel_rfl) B3 (by rw [ar, ar]) (dp _)) rfl ?_
   rintro _ _ ⟨rfl, D3, cg⟩
   replace E := E.aw cg Om; replace B2 := B2.aw cg Om; replace B3 := D3
   refine aU ?_
   refine aA Kr 14 rfl ?_; intro Vu ex Vv
   obtain ⟨E,B2,B3⟩ := bC ex E B2 B3
   obtain ⟨b1, Vs, x, rfl, hx, _, hcx⟩ := (H.ext E).get (i := k / 64) Om
   have Vo := hx.out
   rw [Fp.ow _ Om] at Vo
   subst Vo
   have hxd := Nat.lt_of_le_of_lt (Nat.div_le_self (Sc.wd N (k / 64)) (2 ^ (k % 64))) (Sc.rH N (k / 64))
   refine cU 0 rfl (fun _ => bG rfl rfl Tn.u Kr (j := 0) rfl Om) ?_
   refine my 1 rfl (ah rfl Tn.u rfl (B3.get (iT _ rfl Om))) ?_
   refine zm [2, 3] ?_
   refine cU 4 rfl (fun _ => cY rfl rfl Om (show IntKind.i64.wrap ((k : Int).tdiv 64) = ((k / 64 : Nat) : Int) from bk rfl Om)) ?_
   refine cU 5 rfl (fun _ => aD rfl rfl Tn.u Kr (j := k / 64) rfl Om) ?_
   refine my 6 rfl (ah rfl Tn.u rfl hcx) ?_
   refine zm [7] ?_
   refine cU 8 rfl (fun _ => cy rfl rfl Om (show ((k : Int).tmod 64) = ((k % 64 : Nat) : Int) from rfl)) ?_
   refine cU 9 rfl (fun _ => bY rfl rfl Om (JU _ _ (Nat.mod_lt _ Om))) ?_
   refine cU 10 rfl (fun _ => cD rfl rfl (show bits .and .u64 _ 1 = ((N / 2 ^ k % 2 : Nat) : Int) by rw [Fi _ hxd, hbt])) ?_
   refine cU 11 rfl (fun _ => jk rfl rfl (Sc.Dv o _ Vn)) ?_
   refine cU 12 rfl (fun _ => bG rfl rfl Tn.u Kr (j := 0) rfl Om) ?_
   refine aM 13 Kr ?_; refine aO rfl (az rfl rfl rfl Kr B3 (by rw [ar]; omega)) rfl ?_
   rintro _ _ ⟨rfl, D3, cg⟩
   refine ⟨.inl rfl, ?_⟩
   rw [Sc.Kq o _ Vn] at D3; replace E := E.aw cg Om; replace B2 := B2.aw cg Om; replace B3 := D3
   refine au 5 ?_
   refine ak ((aV rfl Tn.u rfl (by rw [ar]; kernel_rfl) B3)) ?_
   refine aL func236 rfl (rB _ _ Om) ?_
   rintro e _ ⟨rfl, ex⟩
   refine au 1 ?_
   obtain ⟨E,B2,B3⟩ := bC ex E B2 B3
   rw [hst]
   refine af (ag rfl rfl (by rw [ar]; kernel_rfl) B3 (by rw [ar, ar]) (dp _)) rfl ?_
   rintro _ _ ⟨rfl, D3, cg⟩
   replace E := E.aw cg Om; replace B2 := B2.aw cg Om; replace B3 := D3
   refine aU ?_
   refine bZ ?_
   refine Vl _ _ ⟨k, g3, rfl, rfl, by omega, Vp, Vq, E, B2, B3⟩ Om Ls
  ·obtain rfl : b = 0 := by omega
   rw [Nat.pow_zero, Nat.div_one] at B3
   refine au 4 ?_
   refine ak ((aV rfl Tn.u rfl (by rw [ar]; kernel_rfl) B3)) ?_
   refine ak (aJ rfl (cells := ws (Sc.wd (N % Sc.L))) Kr) ?_
   refine af (ag rfl rfl (by rw [ar]; kernel_rfl) B2 (by rw [ar, ar]) (dp _)) rfl ?_
   rintro _ _ ⟨rfl, D2, cg⟩
   replace E := E.aw cg Om
   refine aU ?_
   refine cC ?_
   refine hret rfl D2 (ar _) ?_
   exact ⟨rfl, E⟩
 ·intro G Vl
  have Vw := B2.lt
  refine aU ?_
  intro w2 g3 (B3 : ao _ _ _ (ws z4)) Vx ex
  obtain ⟨E,B2⟩ := aY ex E B2
  replace B3 := B3.congr (show _ = ws (Sc.wd (N / 2 ^ (64 * n) % Sc.L)) by rw [Nat.div_eq_of_lt hN, Nat.zero_mod]; exact gJ fun j _ => by unfold z4 Sc.wd; simp)
  refine au 6 ?_
  refine ak (cz rfl rfl (show IntKind.i64.wrap (64 * (n : Int)) = ((64 * n : Nat) : Int) from bk Om Om)) ?_
  refine au 3 ?_
  refine lk ?_; intro Vy Vm
  refine gI ?_
  refine ae (Vm ?_)
  exact Vl _ _ ⟨64 * n, g3, rfl, rfl, by omega, by omega, by omega, E, B2, B3⟩ Ls
end
end
end Go.Proofs.YtgfafidlkldeaaaGreat
