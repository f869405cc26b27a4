/- The reference's digest, its bits and words: plain laws. No program in sight. -/
import Derived.Test.YtgfafidlkldeaaaGreatBigC
import Derived.Test.YtgfafidlkldeaaaGreatVc7
import Derived.RangeFuncNested
import Derived.RangeFuncBound
import Derived.RangeFuncCalls
import Derived.RangeFuncLeaves
import Derived.Test.YtgfafidlkldeaaaGreatVc
import Derived.Lib.AppendZeros
set_option linter.unusedVariables false
set_option linter.unusedSimpArgs false
set_option maxHeartbeats 4000000
set_option maxRecDepth 4000
namespace Go.Proofs.YtgfafidlkldeaaaGreat
variable {Vq after : Array Edge} {ops : Array Oper} {args cs lb : Array Value} {Q : Exit → Act → World → Prop} {fn : Func} {f : FuncId} {k k2 k3 kn : IntKind} {L : List (Nat × Value)} {a ds : List Nat} {l : List UInt8} {xs : List Value} {B D b b1 b2 base c g h id j lp m n off : Nat} {N : Nd} {A : Oa} {x y : Operand} {P : Program} {Vr pos : String} {d : Tmp} {Vt e t tn ty : TypeId} {u v : Value} {C W W' w w' : World}
section
section
open Go.RowKit Tryz
attribute [local irreducible] Y Ef WL WC WK WQ WM cv WN WF cZ
theorem Pk (n : Nat) (h1 : 1 ≤ n) (h2 : n ≤ 63) : bits .and .u64 ((18446744073709551616 - n : Nat) : Int) 63 = ((64 - n : Nat) : Int) := by have h := u64_and_nat (18446744073709551616 - n) 63 Om Om;rw [show ((63 : Nat) : Int) = 63 from rfl] at h;rw [h, show (63 : Nat) = 2 ^ 6 - 1 from rfl, Nat.and_two_pow_sub_one_eq_mod];congr 1;omega
theorem OY (k : Nat) (h : k ≤ 64) : min ((k : Int)).toNat IntKind.u64.bits = k := by show min k 64 = k; omega
theorem OP (x k : Nat) (h : k ≤ 64) : IntKind.u64.wrap ((x : Int) * 2 ^ (min ((k : Int)).toNat IntKind.u64.bits)) = ((x * 2 ^ k % 18446744073709551616 : Nat) : Int) := by rw [OY k h];show ((x : Int) * 2 ^ k) % 18446744073709551616 = _;rw [Int.natCast_emod, Int.natCast_mul, Int.natCast_pow]; rfl
theorem zj (x k : Nat) (h : k ≤ 64) : (x : Int) / 2 ^ (min ((k : Int)).toNat IntKind.u64.bits) = ((x / 2 ^ k : Nat) : Int) := by rw [OY k h, Int.natCast_ediv, Int.natCast_pow]; rfl
theorem Kz (x n : Nat) (w : World) (hx : x < 18446744073709551616) (h1 : 1 ≤ n) (h2 : n ≤ 63) :
  Ct 272 #[.int .u64 (x : Int), .int .i64 (-(n : Int))] w fun e w' => e = .returned (.int .u64 ((Lng.cQ x n : Nat) : Int)) ∧ Ext w w' := by
 have E := Ext.refl w;refine ai 17 func272 rfl rfl rfl rfl ?_;intro _ hret;refine au 8 ?_;refine al (bo rfl Tn.u Tn.u (show IntKind.u64.wrap (-(n : Int)) = ((18446744073709551616 - n : Nat) : Int) from by show (-(n : Int)) % 18446744073709551616 = _; omega)) ?_;refine al (cV rfl rfl (Pk n h1 h2)) ?_;refine au 7 ?_;refine al (gd rfl rfl Om (OP x (64 - n) Om)) ?_;refine au 2 ?_;refine al (fI rfl rfl (aH (n := n) Om Om)) ?_;refine al (cB rfl rfl Om (zj x n Om)) ?_;refine al (jN rfl rfl (show _ = ((Lng.cQ x n : Nat) : Int) from by rw [u64_or_nat _ _ (Nat.mod_lt _ Om) (Nat.lt_of_le_of_lt (Nat.div_le_self _ _) hx), Lng.xi hx Om])) ?_;refine aU ?_;refine hret rfl ?_;exact ⟨rfl, E⟩
theorem dU (x n : Nat) (w : World) (hx : x < 18446744073709551616) (h1 : 1 ≤ n) (h2 : n ≤ 63) :
  Ct 269 #[.int .u64 (x : Int), .int .i64 (n : Int)] w fun e w' => e = .returned (.int .u64 ((Lng.cQ x n : Nat) : Int)) ∧ Ext w w' := by
 have E := Ext.refl w;refine ai 9 func269 rfl rfl rfl rfl ?_;intro _ hret;refine au 9 ?_;refine al (Ju rfl (show IntKind.i64.wrap (0 - (n : Int)) = -(n : Int) from by rw [bj Om Om]; omega)) ?_;refine aC func272 rfl (Kz x n _ hx h1 h2) ?_;rintro e _ ⟨rfl, ex⟩;replace E := E.ext ex;refine aU ?_;refine hret rfl ?_;exact ⟨rfl, E⟩
theorem Bj (w : World) : Ct 255 #[] w fun e w' => e = .returned (.agg (aM .u64 Lng.H0)) ∧ Ext w w' := by refine aK (s := 8) 2 func255 rfl rfl rfl underlying294 rfl Kr rfl ?_;intro _ hret;refine aU ?_;intro w1 g1 (B1 : ao _ _ _ (aM .u64 (lC 8))) Vq ex;have E1 := ex;refine au 4 ?_;refine al (ar rfl (cells := aM .u64 Lng.H0) Kr) ?_;refine ag (ah rfl rfl Kr B1 rfl (dc _ _)) rfl ?_;rintro _ _ ⟨rfl, B2, cg⟩;have E2 := E1.aA cg Vq;refine aU ?_;refine hret rfl B2 (by rw [bu]; rfl) ?_;exact ⟨rfl, E2⟩
set_option maxRecDepth 100000 in
theorem Cs (w : World) : Ct 256 #[] w fun e w' => e = .returned (.agg (aM .u64 Lng.K)) ∧ Ext w w' := by refine aK (s := 80) 2 func256 rfl rfl rfl underlying296 rfl Kr rfl ?_;intro _ hret;refine aU ?_;intro w1 g1 (B1 : ao _ _ _ (aM .u64 (lC 80))) Vq ex;have E1 := ex;refine au 4 ?_;refine al (ar rfl (cells := aM .u64 Lng.K) Kr) ?_;refine ag (ah rfl rfl Kr B1 rfl (dc _ _)) rfl ?_;rintro _ _ ⟨rfl, B2, cg⟩;have E2 := E1.aA cg Vq;refine aU ?_;refine hret rfl B2 (by rw [bu]; rfl) ?_;exact ⟨rfl, E2⟩
theorem j9 (z : Int) : IntKind.u64.wrap z = z % 18446744073709551616 := rfl
theorem vc (a b c : Nat) (ha : a < 18446744073709551616) (hb : b < 18446744073709551616) (hc : c < 18446744073709551616) : bits .xor .u64 (bits .xor .u64 (a : Int) (b : Int)) (c : Int) = (((a ^^^ b) ^^^ c : Nat) : Int) := by rw [u64_xor_nat _ _ ha hb, u64_xor_nat _ _ (Lng.ix ha hb) hc]
theorem rL (l r : List Nat) (h : j < l.length) : (aM .u64 (l ++ r))[0 + j]? = some (.int .u64 ((l.getD j 0 : Nat) : Int)) := by
 rw [Nat.zero_add, dL .u64 (l ++ r) j (by rw [List.length_append]; omega)];have e : (l ++ r).getD j 0 = l.getD j 0 := by rw [List.getD_eq_getElem?_getD, List.getElem?_append_left h, List.getD_eq_getElem?_getD]
 rw [e]
theorem By (l r : List Nat) (x : Nat) (h : j = l.length) : (aM .u64 (l ++ x :: r))[0 + j]? = some (.int .u64 ((x : Nat) : Int)) := by subst h;rw [Nat.zero_add, dL .u64 (l ++ x :: r) _ (by rw [List.length_append, List.length_cons]; omega)];congr 4;simp
theorem DZ (l r : List Nat) (x y : Nat) (h : j = l.length) : (aM .u64 (l ++ x :: r)).setIfInBounds (0 + j) (.int .u64 ((y : Nat) : Int)) = aM .u64 (l ++ y :: r) := by subst h;rw [Nat.zero_add, gD];congr 1;simp
theorem SO {k : Nat} (h : k < n) : List.replicate (n - k) 0 = 0 :: List.replicate (n - 1 - k) 0 := by rw [show n - k = (n - 1 - k) + 1 from by omega, List.replicate_succ]
theorem Tv (a b : Nat) (ha : 256 * a + b < 18446744073709551616) (hb : b < 256) : bits .or .u64 ((a * 2 ^ 8 % 18446744073709551616 : Nat) : Int) ((b : Nat) : Int) = ((256 * a + b : Nat) : Int) := by rw [u64_or_nat _ _ (Nat.mod_lt _ Om) Om, Nat.mod_eq_of_lt Om];congr 1;rw [nat_join 8 _ b Om Om]; omega
theorem KR (xs : Lb) (t i : Nat) (h : i < 8) (hl : 8 * t + 8 ≤ xs.length) : ((xs.drop (8 * t)).take 8).getD i 0 = xs.getD (8 * t + i) 0 := by simp [List.getD_eq_getElem?_getD, List.getElem?_take, List.getElem?_drop, h]
theorem AU (A : Oa) (c : Nat) (xs : Lb) (w : World) (HA : Bs w A 128 xs) (hc : 128 ≤ c) (Vv : c ≤ 9223372036854775807) :
  Ct 268 #[.slice A 128 c] w fun e w' => e = .returned (.agg (aM .u64 (Lng.words xs))) ∧ Ext w w' := by
 have hxl := HA.1;refine aK (s := 80) 78 func268 rfl rfl rfl underlying296 rfl Kr rfl ?_;intro _ hret;refine au 2 ?_;refine ag (dJ (Z := aM .u64 (lC 80)) Kr) rfl ?_;rintro _ _ ⟨g2, rfl, B2, Vz, ex⟩;have E1 := ex;refine au 4 ?_;refine ag (dJ (Z := aM .u64 (lC 80)) Kr) rfl ?_;rintro _ _ ⟨g3, rfl, B3, Vw, ex⟩;have E2 := E1.ext ex; have C2 := B2.ext ex; have Vq := Nat.le_trans E1.size Vw; have hne : g2 < g3 := Nat.lt_of_lt_of_le B2.lt Vw;refine au 9 ?_;refine aD (fun n' L wr => ∃ t : Nat, L = [(0, .slice A 128 c), (2, .pointer (some ⟨g2, 0, none⟩)), (3, .pointer (some ⟨g3, 0, none⟩)), (10, .int .i64 (t : Int))] ∧ n' = 16 - t ∧ (t ≤ 16 ∧ Ext w wr ∧ ao wr g2 296 (aM .u64 (lC 80)) ∧ ao wr g3 296 (aM .u64 (Lng.jr xs t ++ List.replicate (80 - t) 0)))) _ _ ⟨0, rfl, rfl, by omega, E2, C2, B3⟩ Ls ?_;rintro _ n' L wr ⟨t, rfl, rfl, ht, E, C2, D3⟩ VA;refine au 2 ?_;refine al (eX rfl rfl) ?_;refine au 3 ?_;refine ak rfl (fun VB => ?_) (fun VB => ?_)
 ·refine au 14 ?_;refine al (cL rfl rfl (bD (n := 8 * t) Om Om)) ?_;refine au 1 ?_;refine al (cL rfl rfl (bD (n := 8 * t) Om Om)) ?_;refine al (aN rfl rfl (bD (n := 8 * t + 8) Om Om)) ?_;refine al (wZ (s := 1) rfl rfl rfl Tn.u Kr (j := 8 * t) (h := 8 * t + 8) rfl rfl Om Om) ?_;refine al (Y.as (qS rfl Tn.u) (congrArg (Value.int .i64) (show (((8 * t + 8 - 8 * t : Nat)) : Int) = 8 from by omega))) ?_;refine au 4 ?_;refine aD (fun n' L wq => ∃ i : Nat, L = [(0, .slice A 128 c), (2, .pointer (some ⟨g2, 0, none⟩)), (3, .pointer (some ⟨g3, 0, none⟩)), (4, .int .i64 (t : Int)), (10, .int .i64 (t : Int)), (19, .slice (lE A c (8 * t) 1) (8 * t + 8 - 8 * t) (c - 8 * t)), (20, .int .i64 8), (21, .int .i64 (i : Int))] ∧ n' = 8 - i ∧ (i ≤ 8 ∧ Ext w wq ∧ ao wq g2 296 (aM .u64 (lC 80)) ∧ ao wq g3 296 (aM .u64 (Lng.jr xs t ++ Lng.pre xs t i :: List.replicate (79 - t) 0)))) _ _ ⟨0, rfl, rfl, by omega, E, C2, (by rw [SO Om] at D3; exact D3)⟩ Ls ?_;rintro _ n' L wq ⟨i, rfl, rfl, _, F, C2, D3⟩ VC;refine au 2 ?_;refine al (eX rfl rfl) ?_;refine au 3 ?_;refine ak rfl (fun Vv => ?_) (fun Vv => ?_)
  ·have HW := ((HA.wk F).lE (j := 8 * t) Om hc).take (k := 8) Om;obtain ⟨b, off, x, hAc, hx, hcell⟩ := HW.byte (k := i) Om;have VD := x.toNat_lt;have hxe : x = xs.getD (8 * t + i) 0 := by rw [hx.out, KR xs t i Om Om]
   have hpl := Lng.wF xs t i;have hpp : 256 ^ i ≤ 72057594037927936 := Nat.pow_le_pow_right (n := 256) Om (show i ≤ 7 by omega);have hwl := Lng.fS xs t;refine au 6 ?_;refine al (aB (show some (Value.slice (lE A c (8 * t) 1) (8 * t + 8 - 8 * t) (c - 8 * t)) = some (Value.slice (some ⟨b, off, none⟩) (8 * t + 8 - 8 * t) (c - 8 * t)) from by rw [hAc]) rfl Tn.u Kr rfl Om) ?_;refine al (af rfl Tn.u rfl hcell) ?_;refine au 6 ?_;refine al (bS rfl rfl Tn.u Kr rfl Om) ?_;refine al (af rfl Tn.u rfl (D3.get (By _ _ _ hwl.symm))) ?_;refine al (gd rfl rfl Om (OP _ 8 Om)) ?_;refine au 1 ?_;refine al (bo rfl Tn.u Tn.u (IntWalk.u64_in _ ⟨by omega, by omega⟩)) ?_;refine al (jN rfl rfl (Tv _ _ Om Om)) ?_;refine al (bS rfl rfl Tn.u Kr rfl Om) ?_;refine ag (aq rfl rfl rfl Kr D3 (Array.getElem?_eq_some_iff.1 (By _ _ _ hwl.symm)).1) rfl ?_;rintro _ w5 ⟨rfl, B5, cg⟩;rw [DZ _ _ _ _ hwl.symm] at B5; have F5 := F.aA cg Vq; have G2 := C2.aA cg Om;refine au 4 ?_;refine al (aN rfl rfl (bj Om Om)) ?_;refine au 2 ?_;refine ae ?_;refine VC _ _ ⟨i + 1, rfl, rfl, by omega, F5, G2, (by rw [Lng.pre, ← hxe]; exact B5)⟩ Om Ls
  obtain rfl : i = 8 := by omega
  refine au 7 ?_;refine al (aN rfl rfl (bj Om Om)) ?_;refine au 2 ?_;refine ae ?_;refine VA _ _ ⟨t + 1, rfl, rfl, by omega, F, C2, (by show ao _ _ _ (aM .u64 ((Lng.jr xs t ++ [Lng.TS xs t]) ++ _)); rw [List.append_assoc, show 80 - (t + 1) = 79 - t from by omega]; exact D3)⟩ Om Ls
 obtain rfl : t = 16 := by omega
 refine au 12 ?_;refine aD (fun n' L wr => ∃ t : Nat, L = [(2, .pointer (some ⟨g2, 0, none⟩)), (3, .pointer (some ⟨g3, 0, none⟩)), (7, .int .i64 (t : Int))] ∧ n' = 80 - t ∧ (16 ≤ t ∧ t ≤ 80 ∧ Ext w wr ∧ ao wr g2 296 (aM .u64 (lC 80)) ∧ ao wr g3 296 (aM .u64 (Lng.wt xs t ++ List.replicate (80 - t) 0)))) _ _ ⟨16, rfl, rfl, by omega, by omega, E, C2, D3⟩ Ls ?_;rintro _ n' L wr ⟨t, rfl, rfl, VE, ht, E, C2, D3⟩ VF;refine au 4 ?_;refine al (eX rfl rfl) ?_;refine au 2 ?_;refine ak rfl (fun VG => ?_) (fun VG => ?_)
 ·refine au 5 ?_;have hwl := Lng.FK xs t;have hlt : ∀ j, (Lng.wt xs t).getD j 0 < 18446744073709551616 := Lng.gV (Lng.GY xs t)
  obtain ⟨Vr, Vt⟩ : ∃ v, v = (Lng.wt xs t).getD (t - 15) 0 := ⟨_, rfl⟩
  obtain ⟨v2, e2⟩ : ∃ v, v = (Lng.wt xs t).getD (t - 2) 0 := ⟨_, rfl⟩
  obtain ⟨v7, e7⟩ : ∃ v, v = (Lng.wt xs t).getD (t - 7) 0 := ⟨_, rfl⟩
  obtain ⟨Vx, Vu⟩ : ∃ v, v = (Lng.wt xs t).getD (t - 16) 0 := ⟨_, rfl⟩
  have Vs := hlt (t - 15); have l2 := hlt (t - 2); have l7 := hlt (t - 7); have VH := hlt (t - 16);rw [← Vt] at Vs; rw [← e2] at l2; rw [← e7] at l7; rw [← Vu] at VH;refine az Kr 10 rfl ?_; intro VI ex VJ;obtain ⟨E,C2,D3⟩ := bF ex E C2 D3;refine my 0 rfl (aY rfl) ?_;refine my 1 rfl (fI rfl rfl (bj Om Om)) ?_;refine my 2 rfl (bS rfl rfl Tn.u Kr (j := t - 15) Om Om) ?_;refine my 3 rfl (af rfl Tn.u rfl (D3.get (v := .int .u64 (Vr : Int)) (by rw [Vt]; exact rL _ _ Om))) ?_;refine my 4 rfl (aY rfl) ?_;refine my 5 rfl (fI rfl rfl (bj Om Om)) ?_;refine my 6 rfl (bS rfl rfl Tn.u Kr (j := t - 2) Om Om) ?_;refine my 7 rfl (af rfl Tn.u rfl (D3.get (v := .int .u64 (v2 : Int)) (by rw [e2]; exact rL _ _ Om))) ?_;refine my 8 rfl (fp rfl) ?_;refine my 9 rfl (fp rfl) ?_;refine oq Kr ?_;refine au 2 ?_;refine az Kr 30 rfl ?_; intro VK ex VL;obtain ⟨E,C2,D3⟩ := bF ex E C2 D3;refine dg 0 rfl (fun _ => aY rfl) ?_;refine dg 1 rfl (fun _ => aY rfl) ?_;refine dg 3 rfl (fun _ => aY rfl) ?_;refine dg 6 rfl (fun _ => aY rfl) ?_;refine dg 7 rfl (fun _ => cB rfl rfl Om (zj v2 6 Om)) ?_;refine dg 9 rfl (fun _ => aY rfl) ?_;refine dg 10 rfl (fun _ => fI rfl rfl (bj Om Om)) ?_;refine dg 11 rfl (fun _ => bS rfl rfl Tn.u Kr (j := t - 7) Om Om) ?_;refine my 12 rfl (af rfl Tn.u rfl (D3.get (v := .int .u64 (v7 : Int)) (by rw [e7]; exact rL _ _ Om))) ?_;refine dg 14 rfl (fun _ => aY rfl) ?_;refine dg 16 rfl (fun _ => aY rfl) ?_;refine dg 19 rfl (fun _ => aY rfl) ?_;refine dg 20 rfl (fun _ => cB rfl rfl Om (zj Vr 7 Om)) ?_;refine dg 23 rfl (fun _ => aY rfl) ?_;refine dg 24 rfl (fun _ => fI rfl rfl (bj Om Om)) ?_;refine dg 25 rfl (fun _ => bS rfl rfl Tn.u Kr (j := t - 16) Om Om) ?_;refine my 26 rfl (af rfl Tn.u rfl (D3.get (v := .int .u64 (Vx : Int)) (by rw [Vu]; exact rL _ _ Om))) ?_;refine bz 2 rfl func269 rfl (dU v2 19 _ l2 Om Om) ?_;rintro e w9 ⟨rfl, ex⟩;obtain ⟨E,C2,D3⟩ := bF ex E C2 D3;refine au 1 ?_;refine bz 4 rfl func269 rfl (dU v2 61 _ l2 Om Om) ?_;rintro e w9 ⟨rfl, ex⟩;obtain ⟨E,C2,D3⟩ := bF ex E C2 D3;refine au 1 ?_;refine dg 5 rfl (fun _ => bP rfl rfl rfl) ?_;refine dg 8 rfl (fun _ => bP rfl rfl (vc _ _ _ (Lng.br l2 Om) (Lng.br l2 Om) Om)) ?_;refine dg 13 rfl (fun _ => aN rfl rfl rfl) ?_;refine bz 15 rfl func269 rfl (dU Vr 1 _ Vs Om Om) ?_;rintro e w9 ⟨rfl, ex⟩;obtain ⟨E,C2,D3⟩ := bF ex E C2 D3;refine au 1 ?_;refine bz 17 rfl func269 rfl (dU Vr 8 _ Vs Om Om) ?_;rintro e w9 ⟨rfl, ex⟩;obtain ⟨E,C2,D3⟩ := bF ex E C2 D3;refine au 1 ?_;refine dg 18 rfl (fun _ => bP rfl rfl rfl) ?_;refine dg 21 rfl (fun _ => bP rfl rfl (vc _ _ _ (Lng.br Vs Om) (Lng.br Vs Om) Om)) ?_;refine dg 22 rfl (fun _ => aN rfl rfl rfl) ?_;refine dg 27 rfl (fun _ => Y.as (aN rfl rfl rfl) (congrArg (Value.int .u64) (show _ = (((Lng.s1 v2 + v7 + Lng.s0 Vr + Vx) % 18446744073709551616 : Nat) : Int) from by rw [j9, j9, j9]; simp only [Lng.s1, Lng.s0, Nat.reducePow]; omega))) ?_;refine dg 28 rfl (fun _ => bS rfl rfl Tn.u Kr rfl Om) ?_;have Vy := D3; rw [SO Om] at Vy;refine aL 29 Kr ?_; refine aQ rfl (aq rfl rfl rfl Kr Vy (Array.getElem?_eq_some_iff.1 (By _ _ _ hwl.symm)).1) rfl ?_;rintro _ w5 ⟨rfl, B5, cg⟩;refine ⟨.inl rfl, ?_⟩;rw [DZ _ _ _ _ hwl.symm] at B5; have F5 := E.aA cg Vq; have G2 := C2.aA cg Om;refine oq Kr ?_;refine au 5 ?_;refine al (aN rfl rfl (bj Om Om)) ?_;refine au 2 ?_;refine ae ?_;refine VF _ _ ⟨t + 1, rfl, rfl, by omega, by omega, F5, G2, (by rw [Lng.xt VE, List.append_assoc, show 80 - (t + 1) = 80 - 1 - t from by omega]; unfold Lng.jg; rw [show t - 16 + 14 = t - 2 from by omega, show t - 16 + 9 = t - 7 from by omega, show t - 16 + 1 = t - 15 from by omega, ← e2, ← e7, ← Vt, ← Vu]; exact B5)⟩ Om Ls
 refine au 7 ?_;obtain rfl : t = 80 := by omega
 have D4 : ao wr g3 296 (aM .u64 (Lng.words xs)) := by have := D3; rw [List.replicate_zero, List.append_nil, Lng.r9] at this; exact this
 refine al (aW rfl Tn.u rfl Kr D4) ?_;refine ag (ah rfl rfl (by rw [bu, Lng.cM]; kernel_rfl) C2 (by rw [bu, bu, Lng.cM]; rfl) (dc _ _)) rfl ?_;rintro _ _ ⟨rfl, B8, cg⟩;have G8 := E.aA cg Vz;refine au 3 ?_;refine hret rfl B8 (by rw [bu, Lng.cM]) ?_;exact ⟨rfl, G8⟩
theorem Kv (e f g : Nat) (he : e < 18446744073709551616) (hf : f < 18446744073709551616) (hg : g < 18446744073709551616) :
  bits .xor .u64 (bits .and .u64 (e : Int) (f : Int)) (bits .and .u64 (bits .xor .u64 IntKind.u64.max (e : Int)) (g : Int)) = ((Lng.ch e f g : Nat) : Int) := by
 have h1 : bits .xor .u64 IntKind.u64.max (e : Int) = ((18446744073709551615 - e : Nat) : Int) := by
  show bits .xor .u64 ((18446744073709551615 : Nat) : Int) (e : Int) = _;rw [u64_xor_nat _ _ Om he];congr 1;apply Nat.eq_of_testBit_eq;intro i;have h1 := Nat.testBit_two_pow_sub_succ (n := 64) he i;have h2 := Nat.testBit_two_pow_sub_one 64 i;rw [show (2 : Nat) ^ 64 - (e + 1) = 18446744073709551615 - e from by omega] at h1;rw [show (2 : Nat) ^ 64 - 1 = 18446744073709551615 from rfl] at h2;rw [Nat.testBit_xor, h1, h2];by_cases hi : i < 64
  ·simp [hi]
  have : e.testBit i = false := Nat.testBit_lt_two_pow (Nat.lt_of_lt_of_le he (Nat.pow_le_pow_right (n := 2) Om (by omega : 64 ≤ i)));simp [hi, this]
 rw [h1, u64_and_nat _ _ he hf, u64_and_nat _ _ Om hg, u64_xor_nat _ _ (Lng.fE he) (Lng.fE Om)];rfl
theorem EW (a b c : Nat) (ha : a < 18446744073709551616) (hb : b < 18446744073709551616) (hc : c < 18446744073709551616) :
  bits .xor .u64 (bits .xor .u64 (bits .and .u64 (a : Int) (b : Int)) (bits .and .u64 (a : Int) (c : Int))) (bits .and .u64 (b : Int) (c : Int)) = ((Lng.Gi a b c : Nat) : Int) := by
 rw [u64_and_nat _ _ ha hb, u64_and_nat _ _ ha hc, u64_and_nat _ _ hb hc, vc _ _ _ (Lng.fE ha) (Lng.fE ha) (Lng.fE hb)];rfl
theorem PG {s : Lng.S8} (h : s.ok) (i : Nat) : s.list.getD i 0 < 18446744073709551616 := by obtain ⟨h1, h2, h3, h4, h5, h6, h7, h8⟩ := h;refine Lng.gV ?_ i;simp only [Lng.S8.list, List.mem_cons, List.not_mem_nil, or_false];rintro _ (rfl | rfl | rfl | rfl | rfl | rfl | rfl | rfl) <;> assumption
theorem Bh {a d e f kt wt : Nat} {x y : Int} (hx : x = (((d + Lng.T1 ⟨a, b, c, d, e, f, g, h⟩ kt wt) % 18446744073709551616 : Nat) : Int)) (hy : y = (((Lng.T1 ⟨a, b, c, d, e, f, g, h⟩ kt wt + Lng.T2 ⟨a, b, c, d, e, f, g, h⟩) % 18446744073709551616 : Nat) : Int)) :
  ((aM .u64 [a, a, b, c, d, e, f, g]).setIfInBounds 4 (.int .u64 x)).setIfInBounds 0 (.int .u64 y) = aM .u64 (Lng.As ⟨a, b, c, d, e, f, g, h⟩ kt wt).list := by subst hx; subst hy; rfl
theorem ki (s : Lng.S8) : s.list.length = 8 := rfl
theorem Cr (s : Lng.S8) (xs : Lb) : (Lng.step s xs).list = Lng.fV s.list (Lng.rounds (Lng.words xs) s 80).list 8 := by unfold Lng.step; exact Lng.r8 _ _
theorem oN (l : List Nat) (h : j < l.length) : (aM .u64 l)[0 + j]? = some (.int .u64 ((l.getD j 0 : Nat) : Int)) := by rw [Nat.zero_add]; exact dL _ _ _ h
theorem EI (A : Oa) (c : Nat) (xs : Lb) (s : Lng.S8) (w : World) (HA : Bs w A 128 xs) (hc : 128 ≤ c) (Vs : c ≤ 9223372036854775807) (hs : s.ok) :
  Ct 258 #[.agg (aM .u64 s.list), .agg (aM .u64 Lng.K), .slice A 128 c] w fun e w' => e = .returned (.agg (aM .u64 (Lng.step s xs).list)) ∧ Ext w w' := by
 have E := Ext.refl w;refine aK (s := 8) 105 func258 rfl rfl rfl underlying294 rfl Kr rfl ?_;intro _ hret;refine aU ?_;intro w1 g3 (B3 : ao _ _ _ (aM .u64 s.list)) Vt ex;obtain ⟨E,HA⟩ := aZ ex E HA;have VD := B3.lt;refine aU ?_;intro w2 g4 (B4 : ao _ _ _ (aM .u64 Lng.K)) VE ex;obtain ⟨E,HA,B3⟩ := bF ex E HA B3;have VF := B4.lt;refine aU ?_;intro w3 g6 (B6 : ao _ _ _ (aM .u64 (lC 8))) VG ex;obtain ⟨E,HA,B3,B4⟩ := bU ex E HA B3 B4;have VH := B6.lt;refine aU ?_;refine aC func268 rfl (AU A c xs _ HA hc Vs) ?_;rintro e w4 ⟨rfl, ex⟩;obtain ⟨E,B3,B4,B6⟩ := bU ex E B3 B4 B6;have VI := ex.size;have F := Ext.refl w4; have E0 := E; have J3 := B3; have J4 := B4; have J6 := B6;refine aU ?_;intro w5 g7 (B7 : ao _ _ _ (aM .u64 (lC 80))) Vu ex;replace F := F.ext ex;refine ag (ah rfl rfl (by rw [bu, Lng.cM]; kernel_rfl) B7 (by rw [bu, bu, Lng.cM]; rfl) (dc _ _)) rfl ?_;rintro _ w6 ⟨rfl, D7, cg⟩;replace F := F.aA cg Vu; replace E := E0.ext F; replace J3 := J3.ext F; replace J4 := J4.ext F; replace J6 := J6.ext F; have VJ := F.size;refine aU ?_;intro w7 g8 (B8 : ao _ _ _ (aM .u64 (lC 8))) Vq ex;have G := ex;refine ag (ah rfl rfl (by rw [bu]; kernel_rfl) B8 (by rw [bu, bu]; rfl) (dc _ _)) rfl ?_;rintro _ _ ⟨rfl, D8, cg⟩;replace G := G.aA cg Vq;refine aU ?_;refine aD (fun n' L wr => ∃ t : Nat, L = [(3, .pointer (some ⟨g3, 0, none⟩)), (4, .pointer (some ⟨g4, 0, none⟩)), (6, .pointer (some ⟨g6, 0, none⟩)), (7, .pointer (some ⟨g7, 0, none⟩)), (8, .pointer (some ⟨g8, 0, none⟩)), (18, .int .i64 (t : Int))] ∧ n' = 80 - t ∧ (t ≤ 80 ∧ Ext w6 wr ∧ ao wr g8 294 (aM .u64 (Lng.rounds (Lng.words xs) s t).list))) _ _ ⟨0, rfl, rfl, by omega, G, D8⟩ Ls ?_;rintro _ n' L wr ⟨t, rfl, rfl, _, G, D8⟩ Vv;refine aU ?_;refine ak rfl (fun Vw => ?_) (fun Vw => ?_)
 ·obtain ⟨R, hR⟩ : ∃ R, R = Lng.rounds (Lng.words xs) s t := ⟨_, rfl⟩
  have hok : R.ok := by rw [hR]; exact Lng.iH _ hs _
  rw [← hR] at D8;obtain ⟨a, b, cc, d, e, f, gg, hh⟩ := R;obtain ⟨la, lb, lc, ld, le, lf, lg, lh⟩ := hok;refine aU ?_;refine az Kr 6 rfl ?_; intro VK ex VL;obtain ⟨G,D8⟩ := aZ ex G D8;refine my 0 rfl (bS rfl rfl Tn.u Kr (j := 0) rfl Om) ?_;refine zm [1] ?_;refine my 2 rfl (bS rfl rfl Tn.u Kr (j := 4) rfl Om) ?_;refine zm [3, 4, 5] ?_
  obtain ⟨kt, hkt⟩ : ∃ q, q = Lng.K.getD t 0 := ⟨_, rfl⟩
  obtain ⟨wt, hwt⟩ : ∃ q, q = (Lng.words xs).getD t 0 := ⟨_, rfl⟩
  obtain ⟨T, hT⟩ : ∃ T, T = Lng.T1 ⟨a, b, cc, d, e, f, gg, hh⟩ kt wt := ⟨_, rfl⟩
  obtain ⟨U, hU⟩ : ∃ T, T = Lng.T2 ⟨a, b, cc, d, e, f, gg, hh⟩ := ⟨_, rfl⟩
  refine az Kr 31 rfl ?_; intro VM ex VN;obtain ⟨G,D8⟩ := aZ ex G D8;refine my 0 rfl (bS rfl rfl Tn.u Kr (j := 7) rfl Om) ?_;refine zm [1, 2, 4, 7, 11] ?_;refine my 12 rfl (bS rfl rfl Tn.u Kr (j := 5) rfl Om) ?_;refine zm [13] ?_;refine my 14 rfl (cV rfl rfl rfl) ?_;refine zm [15] ?_;refine my 16 rfl (I0 rfl rfl rfl) ?_;refine my 17 rfl (bS rfl rfl Tn.u Kr (j := 6) rfl Om) ?_;refine zm [18] ?_;refine my 19 rfl (cV rfl rfl rfl) ?_;refine my 20 rfl (bP rfl rfl (Kv e f gg le lf lg)) ?_;refine zm [22, 23] ?_;refine my 24 rfl (af rfl Tn.u rfl ((J4.ext G).get (v := .int .u64 (kt : Nat)) (by rw [hkt]; exact oN _ (by show t < 80; omega)))) ?_;refine zm [26, 27] ?_;refine my 28 rfl (af rfl Tn.u rfl ((D7.ext G).get (v := .int .u64 (wt : Nat)) (by rw [hwt]; exact oN _ (by rw [Lng.cM]; omega)))) ?_;refine bz 3 rfl func269 rfl (dU e 14 _ le Om Om) ?_;rintro e w9 ⟨rfl, ex⟩;obtain ⟨G,D8⟩ := aZ ex G D8;refine aU ?_;refine bz 5 rfl func269 rfl (dU e 18 _ le Om Om) ?_;rintro e w9 ⟨rfl, ex⟩;obtain ⟨G,D8⟩ := aZ ex G D8;refine aU ?_;refine my 6 rfl (bP rfl rfl rfl) ?_;refine bz 8 rfl func269 rfl (dU e 41 _ le Om Om) ?_;rintro e w9 ⟨rfl, ex⟩;obtain ⟨G,D8⟩ := aZ ex G D8;refine aU ?_;refine my 9 rfl (bP rfl rfl (vc _ _ _ (Lng.br le Om) (Lng.br le Om) (Lng.br le Om))) ?_;refine my 10 rfl (aN rfl rfl rfl) ?_;refine my 21 rfl (aN rfl rfl rfl) ?_;refine my 25 rfl (aN rfl rfl rfl) ?_;refine my 29 rfl (Y.as (aN rfl rfl rfl) (congrArg (Value.int .u64) (show _ = ((T % 18446744073709551616 : Nat) : Int) from by rw [j9, j9, j9, j9, hT]; simp only [Lng.T1, Lng.S1]; omega))) ?_;refine zm [30] ?_;refine az Kr 25 rfl ?_; intro VO ex VP;obtain ⟨G,D8⟩ := aZ ex G D8;refine zm [0, 2, 5, 8] ?_;refine my 9 rfl (bS rfl rfl Tn.u Kr (j := 1) rfl Om) ?_;refine zm [10] ?_;refine my 11 rfl (cV rfl rfl rfl) ?_;refine zm [12] ?_;refine my 13 rfl (bS rfl rfl Tn.u Kr (j := 2) rfl Om) ?_;refine zm [14] ?_;refine my 15 rfl (cV rfl rfl rfl) ?_;refine my 16 rfl (bP rfl rfl rfl) ?_;refine my 17 rfl (bS rfl rfl Tn.u Kr (j := 1) rfl Om) ?_;refine zm [18] ?_;refine my 19 rfl (bS rfl rfl Tn.u Kr (j := 2) rfl Om) ?_;refine zm [20] ?_;refine my 21 rfl (cV rfl rfl rfl) ?_;refine my 22 rfl (bP rfl rfl (EW a b cc la lb lc)) ?_;refine bz 1 rfl func269 rfl (dU a 28 _ la Om Om) ?_;rintro e w9 ⟨rfl, ex⟩;obtain ⟨G,D8⟩ := aZ ex G D8;refine aU ?_;refine bz 3 rfl func269 rfl (dU a 34 _ la Om Om) ?_;rintro e w9 ⟨rfl, ex⟩;obtain ⟨G,D8⟩ := aZ ex G D8;refine aU ?_;refine my 4 rfl (bP rfl rfl rfl) ?_;refine bz 6 rfl func269 rfl (dU a 39 _ la Om Om) ?_;rintro e w9 ⟨rfl, ex⟩;obtain ⟨G,D8⟩ := aZ ex G D8;refine aU ?_;refine my 7 rfl (bP rfl rfl (vc _ _ _ (Lng.br la Om) (Lng.br la Om) (Lng.br la Om))) ?_;refine my 23 rfl (Y.as (aN rfl rfl rfl) (congrArg (Value.int .u64) (show _ = ((U % 18446744073709551616 : Nat) : Int) from by rw [j9, hU]; simp only [Lng.T2, Lng.S0]; omega))) ?_;refine zm [24] ?_;refine az Kr 3 rfl ?_; intro VQ ex VR;obtain ⟨G,D8⟩ := aZ ex G D8;refine dg 0 rfl (fun _ => EL (s := 1) rfl rfl Tn.u Kr (j := 1) rfl Om) ?_;refine dg 1 rfl (fun _ => Gu (s := 1) rfl rfl Tn.u Kr (j := 7) rfl Om) ?_;refine aL 2 Kr ?_; refine aQ rfl (gY rfl rfl Tn.u Kr D8 (D8.at 0 _ (yZ .u64 [a, b, cc, d, e, f, gg] [hh])) rfl (Nat.le_refl 8) nB) rfl ?_;rintro _ _ ⟨rfl, F8, cg⟩;refine ⟨.inl rfl, ?_⟩;replace G := G.aA cg Vq;refine au 5 ?_;refine al (bS rfl rfl Tn.u Kr (j := 4) rfl Om) ?_;refine au 2 ?_;refine al (aN rfl rfl rfl) ?_;refine al (bS rfl rfl Tn.u Kr (j := 4) rfl Om) ?_;refine ag (aq rfl rfl rfl Kr F8 (by show 4 < 8; omega)) rfl ?_;rintro _ _ ⟨rfl, H8, cg⟩;replace G := G.aA cg Vq;refine au 5 ?_;refine al (aN rfl rfl rfl) ?_;refine al (bS rfl rfl Tn.u Kr (j := 0) rfl Om) ?_;refine ag (aq rfl rfl rfl Kr H8 (by show 0 < 8; omega)) rfl ?_;rintro _ Vx ⟨rfl, I8, cg⟩;replace G := G.aA cg Vq;refine au 7 ?_;refine ae ?_;have e1 : Lng.rounds (Lng.words xs) s (t + 1) = Lng.As ⟨a, b, cc, d, e, f, gg, hh⟩ kt wt := by rw [hkt, hwt]; show Lng.As (Lng.rounds (Lng.words xs) s t) _ _ = _; rw [← hR]
  have I9 : ao Vx g8 294 (aM .u64 (Lng.rounds (Lng.words xs) s (t + 1)).list) := by rw [e1]; exact I8.congr (Bh (by rw [j9, ← hT]; omega) (by rw [j9, ← hT, ← hU]; omega))
  refine Vv _ _ ⟨t + 1, rfl, rfl, by omega, G, I9⟩ Om Ls
 obtain rfl : t = 80 := by omega
 obtain ⟨m, hm⟩ : ∃ m, m = (Lng.rounds (Lng.words xs) s 80).list := ⟨_, rfl⟩
 have Vr : s.list.length = m.length := by rw [hm, ki, ki]
 have Vy := ki s;have okl := PG hs;have hfin : (Lng.step s xs).list = Lng.fV s.list m 8 := by rw [hm]; exact Cr s xs
 rw [← hm] at D8;have C3 := J3.ext G; have C6 := J6.ext G; replace E := E.ext G
 obtain ⟨l, hl⟩ : ∃ l, l = s.list := ⟨_, rfl⟩
 rw [← hl] at C3 okl Vy Vr hfin;refine aU ?_;refine aD (fun n' L wx => ∃ k : Nat, L = [(3, .pointer (some ⟨g3, 0, none⟩)), (6, .pointer (some ⟨g6, 0, none⟩)), (8, .pointer (some ⟨g8, 0, none⟩)), (92, .int .i64 (k : Int))] ∧ n' = 8 - k ∧ (k ≤ 8 ∧ Ext w wx ∧ ao wx g3 294 (aM .u64 (Lng.fV l m k)) ∧ ao wx g6 294 (aM .u64 (lC 8)) ∧ ao wx g8 294 (aM .u64 m))) _ _ ⟨0, rfl, rfl, by omega, E, (by rw [Lng.mE]; exact C3), C6, D8⟩ Ls ?_;rintro _ n' L wx ⟨k, rfl, rfl, _, E, C3, C6, D8⟩ Vz;refine aU ?_;refine ak rfl (fun Vs => ?_) (fun Vs => ?_)
 ·refine aU ?_
  obtain ⟨p, hp⟩ : ∃ p, p = l.getD k 0 := ⟨_, rfl⟩
  obtain ⟨q, hq⟩ : ∃ q, q = m.getD k 0 := ⟨_, rfl⟩
  have hkl : k < l.length := by omega
  have hml := Lng.l9 Vr (k := k) Om;have x1 : (aM .u64 (Lng.fV l m k))[0 + k]? = some (.int .u64 (p : Nat)) := by rw [oN _ Om, Lng.oe Vr hkl, hp]
  have x2 : (aM .u64 m)[0 + k]? = some (.int .u64 (q : Nat)) := by rw [oN _ Om, hq]
  refine az Kr 9 rfl ?_; intro VA ex VB;obtain ⟨E,C3,C6,D8⟩ := bU ex E C3 C6 D8;refine zm [0, 1] ?_;refine my 2 rfl (af rfl Tn.u rfl (C3.get x1)) ?_;refine zm [3, 4] ?_;refine my 5 rfl (af rfl Tn.u rfl (D8.get x2)) ?_;refine dg 6 rfl (fun _ => Y.as (aN rfl rfl rfl) (congrArg (Value.int .u64) (show _ = (((p + q) % 18446744073709551616 : Nat) : Int) from by rw [j9]; omega))) ?_;refine zm [7] ?_;refine aL 8 Kr ?_; refine aQ rfl (aq rfl rfl rfl Kr C3 (Array.getElem?_eq_some_iff.1 x1).1) rfl ?_;rintro _ _ ⟨rfl, C9, cg⟩;refine ⟨.inl rfl, ?_⟩;replace C6 := C6.aA cg Om; replace D8 := D8.aA cg Om; replace E := E.aA cg Vt; rw [Nat.zero_add, gD, hp, hq, Lng.ox Vr hkl] at C9;refine au 8 ?_;refine ae ?_;refine Vz _ _ ⟨k + 1, rfl, rfl, by omega, E, C9, C6, D8⟩ Om Ls
 obtain rfl : k = 8 := by omega
 rw [← hfin] at C3
 obtain ⟨S, hS⟩ : ∃ S, S = Lng.step s xs := ⟨_, rfl⟩
 rw [← hS] at C3;refine au 8 ?_;refine ag (ah rfl rfl (by rw [bu]; kernel_rfl) C6 (by rw [bu, bu]; rfl) (dc _ _)) rfl ?_;rintro _ _ ⟨rfl, VC, cg⟩;replace E := E.aA cg Om;refine aU ?_;refine hret rfl VC (by rw [bu]; rfl) ?_;exact ⟨by rw [hS], E⟩
end
section
open Go.RowKit Tryz
section
variable {k : Nat} {a : Act}
theorem N4 {row : String} {R : Value → World → Prop} (h : Rows P row args w R) : RowsIn Fence.wide n P row args w R :=
 fun c cs _ => let ⟨v, w', r, s⟩ := h c cs; ⟨v, w', r, stepsIn_wide.2 s⟩
theorem DX {o : Oper} {next next' : Act → World → Prop} (hn : ∀ a w, next a w → next' a w) : ∀ {r : Result Next}, o.upon P a next Q r → o.uponIn (Fence.wide.inRound k) n P a next' Q r
  | .ok (.value v) w', h => hn _ _ h
  | .ok .skip w', h => hn _ _ h
  | .ok (.defer d) w', h => hn _ _ h
  | .ok (.enter f args) w', h => by refine ⟨fun e => by simp [Fence.wide] at e, CallsIn.inRound k (callsIn_wide.2 (Calls.mono h ?_))⟩;grind
  | .ok (.row row args) w', h => ⟨fun e => by simp [Fence.wide] at e, (N4 (h.mono fun v Vq hr => hn _ _ hr) : RowsIn Fence.wide (n - 1) P row args w' _)⟩
  | .halt (.panic v) w', h => h
theorem wB (hQ : ¬ LetsOut Q) : ∀ {l : List Oper} {a : Act} {w : World}, (∀ o ∈ l, ∀ c, o.op ≠ .defer c) → wpList P ops Q l a w → wpListIn (Fence.wide.inRound k) n P ops Q l a w
  | [], a, w, _, h => h
  | o :: l, a, w, hd, h => by
    have ih := fun a w => @wB hQ l a w (fun o ho => hd o (List.mem_cons_of_mem _ ho));unfold wpList at h;unfold wpListIn;split at h
    · rename_i hw
      rw [if_pos hw];rcases h with h | h
      · refine ⟨fun _ _ => trivial, ?_⟩
        rw [show (Fence.wide.inRound k).round = some k from rfl, Oper.semAt_some k a.eval o (hd o (List.mem_cons_self ..))];exact DX ih h
      exact absurd h.2 hQ
    rename_i hw;rw [if_neg hw];exact ⟨fun _ _ => trivial, ih _ _ h⟩
end
def oC : Op → Bool
 | .defer _ => false
 | _ => true
section
theorem Bp {α : Type} {Kp : World → World → Prop} {I : List α → World → Prop} {Ix : Code → List α → World → Prop} {xs : List α} : ¬ LetsOut (Exit.inBlock b (ownPostG B Kp I Ix xs W)) := fun ⟨_, _, h⟩ => h
theorem KV {α : Type} {g : Operand} {p x r0 r1 gf M : Nat} {l : List Oper} {enc : α → Value} {Kp : World → World → Prop} {S Sp : List α → Prop}
  (hn : 1 ≤ n) (hg : ev L g = some (.func (.func gf) #[] lb)) (eg : ∀ args w, (callFunc gf args).run P w = .ok (.enter gf args) w)
  (hseq : SeqStopsK Fence.wide (n - 1) P gf lb (fun v => #[enc v]) Kp S Sp M w)
  (hKt : ∀ {A B C : World}, Kp A B → Kp B C → Kp A C) (hKb : ∀ (W : World) (l : Nat) (o o' : Obj), w.heap.size ≤ l → W.heap[l]? = some o → o.isCells = false → o.isWalk = false → Kp W (W.putObj l o'))
  (I : List α → World → Prop) (hI : OwnFrom w.heap.size I) (h0 : I [] w) (hp : Nat.ble (p + 1) N.n = true) (hx : Nat.ble (x + 1) N.n = true) (hdl : l.all (fun o => oC o.op) = true)
  (hbody : ∀ (Q' : Exit → Act → World → Prop) (pre : List α) (v : α) (W : World), I pre W → pre.length < M → (∀ {N' : Nd} {L' : List (Nat × Value)} {W' : World}, KeepsFrom w.heap.size W W' → Kp W W' → I (pre ++ [v]) W' → WQ Q' .normal N' L' W') → WL P l.toArray Q' l ⟨N.n, []⟩ ((x, enc v) :: (p, enc v) :: L) W)
  (hdone : ∀ (D : Nat) (xs : List α) (W : World), w.heap.size ≤ D → S xs → I xs W → W.heap[D]? = some (.deferred (some [])) → WQ Q .normal ⟨N.n, { target := .collected D, args := #[] } :: N.ds⟩ L W) :
  WC P Q (.rangeFunc g #[p] (.region r0 #[⟨some x, .assign (.tmp p), Vt, Vr, Vq, none⟩] false) (.block b (.region r1 l.toArray false))) N L w := by
 intro a ha;rw [← wpIn_wide (n := n)];have Vu : p < a.tmps.size := by rw [ha.size]; exact Nat.le_of_ble_eq_true hp
 have fr : ∀ v, Fr ⟨N.n, []⟩ ((x, enc v) :: (p, enc v) :: L) { tmps := (a.tmps.setIfInBounds p (enc v)).setIfInBounds x (enc v), defers := [] } := fun v => by
  have h1 : Fr ⟨N.n, []⟩ L { tmps := a.tmps, defers := [] } := ⟨ha.size, rfl, ha.has⟩
  exact (h1.put hp (enc v)).put hx (enc v)
 refine wpIn_rangeFunc_ownG rfl hn (ha.ev hg) trivial eg hseq hKt hKb (Below.refl _ _) (fun _ => rfl) I (fun _ _ _ => False) hI (fun _ _ _ _ _ hs _ _ => hs) h0 (fun v => { tmps := (a.tmps.setIfInBounds p (enc v)).setIfInBounds x (enc v), defers := [] }) ?_ ?_ ?_ ?_
 ·intro k v W _ hK;refine wpIn_region_list ?_;refine wpListIn_plain rfl fun K' Vv => ?_;refine ⟨fun _ _ => trivial, ?_⟩;rw [show (Fence.wide.inRound k).round = some k from rfl, Oper.semAt_some k _ _ (fun c e => by cases e)];have e : ∀ ρ : Operand → Value, (execOp ρ ⟨some x, .assign (.tmp p), Vt, Vr, Vq, none⟩).run P W = .ok (.value (ρ (.tmp p))) W := fun ρ => by simp [execOp]
  rw [e];refine Vv _ _ ?_;simpa [wpListIn, Act.put, Act.eval, Vu, Exit.then] using hK
 ·intro k pre v W Vs hl;refine wpIn_block (wpIn_region_lit (wB Bp ?_ ?_))
  ·intro o ho c e;have := List.all_eq_true.1 hdl o ho;rw [e] at this;cases this
  exact hbody _ pre v W Vs hl (fun h1 h2 h3 _ _ => ⟨h1, h2, h3⟩) _ (fr v)
 ·intro D xs W hD hS Vs hK;exact hdone D xs W hD hS Vs hK _ ⟨ha.size, by rw [ha.defers], ha.has⟩
 grind
end
/-! A function that holds such a loop: what it owes where it returns. -/
section
variable {c : Code} {R : Ending → World → Prop}
theorem pI (n N : Nat) (hf : P.funcs[f]? = some fn) (hb : fn.body = some c) (hN : fn.ntmps = N) (hsz : Nat.ble args.size N = true)
  (h : ∀ Q : Exit → Act → World → Prop, (∀ {e : Exit} {a : Act} {w : World}, bodyPostM Fence.wide n P fn R e a w → Q e a w) → WC P Q c ⟨N, []⟩ (gk 0 args.toList) w) : Calls P f args w R := by
 subst hN;exact (callsIn_wide (n := n)).1 (callsIn_of_wp_marks hf hb trivial (wpIn_wide.2 (h _ (fun h => h) _ (yC hsz))))
theorem Cv (n N : Nat) {t : Tmp} (hf : P.funcs[f]? = some fn) (hb : fn.body = some c) (hN : fn.ntmps = N) (hr : fn.results = #[.tmp t]) (hsz : Nat.ble args.size N = true)
  (h : ∀ Q : Exit → Act → World → Prop, (∀ {N : Nat} {L : List (Nat × Value)} {w : World} {v : Value}, look L t = some v → R (.returned v) w → WQ Q .ret (⟨N, []⟩ : Nd) L w) →
   (∀ {N D : Nat} {L : List (Nat × Value)} {w : World} {v : Value}, look L t = some v → w.heap[D]? = some (.deferred (some [])) → R (.returned v) (w.putObj D (.deferred none)) → WQ Q .ret (⟨N, [{ target := .collected D, args := #[] }]⟩ : Nd) L w) → WC P Q c ⟨N, []⟩ (gk 0 args.toList) w) : Calls P f args w R :=
 pI n N hf hb hN hsz fun Q hQ => h Q
  (fun hv hR a ha => hQ (by
   show LeavesInM _ _ _ _ _ _ a.defers _ _;rw [ha.defers]
   exact ⟨_, results_tmp hr _ _ _, by rw [cK (ha.has _ _ hv)]; exact hR⟩))
  (fun hv hK hR a ha => hQ (by
   show LeavesInM _ _ _ _ _ _ a.defers _ _;rw [ha.defers];refine ⟨by simp, .inl ⟨_, _, rfl, run_takeDeferred hK, ?_⟩⟩
   exact ⟨_, results_tmp hr _ _ _, by rw [cK (ha.has _ _ hv)]; exact hR⟩))
end
theorem zH {P : Program} {w : World} {f : FuncId} {fn : Func} {c : Code} {args : Array Value} {R : Ending → World → Prop} {ty : TypeId} {s : Nat} {d : TypeDesc} (n N : Nat) {u : Tmp} (hf : P.funcs[f]? = some fn) (hb : fn.body = some c) (hN : fn.ntmps = N) (hr : fn.results = #[.cell u ty]) (hu : P.underlying ty = some d)
  (hd : (match d with | .struct _ | .array _ _ => true | _ => false) = true) (hs : (P.info? ty).map (·.size) = some s) (hsz : Nat.ble args.size N = true)
  (h : ∀ Q : Exit → Act → World → Prop, (∀ {N D : Nat} {L : List (Nat × Value)} {w : World} {g : Nat} {e : TypeId} {cs : Array Value}, look L u = some (.pointer (some ⟨g, 0, none⟩)) → w.heap[D]? = some (.deferred (some [])) → ao w g e cs → cs.size = s → R (.returned (.agg cs)) (w.putObj D (.deferred none)) →
   WQ Q .ret (⟨N, [{ target := .collected D, args := #[] }]⟩ : Nd) L w) → WC P Q c ⟨N, []⟩ (gk 0 args.toList) w) : Calls P f args w R :=
 pI n N hf hb hN hsz fun Q hQ => h Q
  (fun {N D L w g e cs} hv hK hg hz hR a ha => hQ (by
   show LeavesInM _ _ _ _ _ _ a.defers _ _;rw [ha.defers];refine ⟨by simp, .inl ⟨_, _, rfl, run_takeDeferred hK, ?_⟩⟩;have hne : g ≠ D := fun e' => by subst e'; rw [show w.heap[g]? = _ from hg] at hK; cases hK
   have Vq : ao (w.putObj D (.deferred none)) g e cs := (World.putObj_heap_other hne).trans hg
   exact ⟨_, results_cell_row hr _ _ _ _ _ _ _ (cK (ha.has _ _ hv)) Vq hu hd (by grind), hR⟩))
/-! An iterator's region that calls yield. -/
section
variable {rest : List Oper}
def RI (n : Nat) (P : Program) (ops : Array Oper) (Q : Exit → Act → World → Prop) (l : List Oper) (N : Nd) (L : List (Nat × Value)) (w : World) : Prop := ∀ a, Fr N L a → wpListIn Fence.wide n P ops Q l a w
theorem sc (n : Nat) {l : List Oper} (h : RI n P l.toArray Q l N L w) : WC P Q (.region id l.toArray false) N L w := fun a ha => (wpIn_wide (n := n)).1 (wpIn_region_lit (h a ha))
theorem Eh (h : WQ Q .normal N L w) : RI n P ops Q [] N L w := h
theorem fB {op : Op} (h : Y P L w op ty v) (hd : Nat.ble (d + 1) N.n = true) (hr : RI n P ops Q rest N ((d, v) :: L) w) :
  RI n P ops Q (⟨some d, op, ty, pos, after, none⟩ :: rest) N L w := by
 intro a ha;refine wpListIn_plain rfl fun K hK => ⟨fun _ _ => trivial, ?_⟩;rw [show Fence.wide.round = none from rfl, Oper.semAt_none, h a.eval (fun _ _ hx => ha.ev hx) w (Ext.refl w)];exact hK _ _ (hr _ (ha.put hd v))
theorem vh {ats : Array TypeId} {R : Ending → World → Prop} (hx : ev L x = some (.func (.yield lp) #[] #[])) (hy : ev L y = some u)
  (h : YieldAt Fence.wide (n - 1) P lp #[u] w R) (hd : Nat.ble (d + 1) N.n = true) (hr : ∀ e w', R e w' → ∃ v, e = .returned v ∧ RI n P ops Q rest N ((d, v) :: L) w') :
  RI n P ops Q (⟨some d, .call { callee := .value x, args := #[y], argTypes := ats }, ty, pos, after, none⟩ :: rest) N L w := by
 intro a ha;refine wpListIn_plain rfl fun K hK => ⟨fun _ _ => trivial, ?_⟩;obtain ⟨fn, tmps, assign, body, Vq, hR⟩ := h;rw [show Fence.wide.round = none from rfl, Oper.semAt_none]
 have e : (execOp a.eval ⟨some d, .call { callee := .value x, args := #[y], argTypes := ats }, ty, pos, after, none⟩).run P w = .ok (.round lp fn tmps assign body) w := by simp [execOp, resolve, invoke, Deferred.ofValue, ha.ev hx, ha.ev hy, Vq]
 rw [e];refine ⟨fun e => by simp [Fence.wide] at e, hR.mono ?_⟩;intro e w' Vr;obtain ⟨v, rfl, hv⟩ := hr e w' Vr;exact hK _ _ (hv _ (ha.put hd v))
end
theorem th {F : Fence} {l : Nat} {Rt Rf : World → Prop} (h : YieldAt F m P l args W fun e W' => (e = .returned (.bool true) ∧ Rt W') ∨ (e = .returned (.bool false) ∧ Rf W')) :
  YieldAt F m P l args W fun e W' => ∃ b, e = .returned (.bool b) ∧ (b = true → Rt W') ∧ (b = false → Rf W') := by
 obtain ⟨fn, tmps, assign, body, hy, hR⟩ := h;refine ⟨fn, tmps, assign, body, hy, hR.mono ?_⟩;grind
theorem zY {z u : Operand} {o c' s : Nat} {a b d : Int} (hx : ev L x = some (.slice (some ⟨g, o, none⟩) n c')) (hy : ev L y = some (.int k a)) (hz : ev L z = some (.int k2 b)) (hv : ev L u = some (.int k3 d)) (hu : P.underlying t = some (.slice e)) (hs : (P.info? e).map (·.size) = some s) (ha : a = (j : Int)) (Vq : b = (h : Int)) (hd : d = (m : Int)) (hj : j ≤ h) (hh : h ≤ m) (hm : m ≤ c') (hjm : j < m) :
  Y P L w (.slice t x (some y) (some z) (some u)) ty (.slice (some ⟨g, o + j * s, none⟩) (h - j) (m - j)) := fun ρ hρ w' _ _ _ _ _ => by
 subst ha; subst Vq; subst hd
 have hb : ((Instr.sliceBounds true n c' (some (.int k j)) (some (.int k2 h)) (some (.int k3 m))).run P w') = .ok (j, h, m) w' := by simp [Instr.sliceBounds, Instr.sliceBound, asIntOf, hj, hh, hm]
 have hne : ¬ (m = j) := by omega
 simp [execOp, hρ _ _ hx, hρ _ _ hy, hρ _ _ hz, hρ _ _ hv, Instr.sliceAt, Instr.slice, run_underlying hu, hb, bJ hs, hne, Addr.add]
end
section
open Go.RowKit Tryz
attribute [local irreducible] Y Ef WL WC WK WQ WM cv WN WF cZ
def vF (g off K j : Nat) : Value := .slice (some ⟨g, off + K * j, none⟩) K K
def wD (b1 b2 : Nat) (W W' : World) : Prop := W.heap.size ≤ W'.heap.size ∧ W'.heap[b1]? = W.heap[b1]? ∧ W'.heap[b2]? = W.heap[b2]?
theorem wD.trans {A B : World} (h : wD b1 b2 A B) (k : wD b1 b2 B C) : wD b1 b2 A C := ⟨Nat.le_trans h.1 k.1, k.2.1.trans h.2.1, k.2.2.trans h.2.2⟩
theorem wD.S6 {A B : World} (h : wD b1 b2 A B) (D : ao A b1 t cs) : ao B b1 t cs := h.2.1.trans D
theorem wD.Sa {A B : World} (h : wD b1 b2 A B) (D : ao A b2 t cs) : ao B b2 t cs := h.2.2.trans D
theorem uF {A B : World} (h : Ext A B) : A.grownBy B none := ⟨h.os, h.tape, h.output, h.size, fun k hk _ => h.block k hk⟩
theorem AL (n l g off c K m b1 b2 : Nat) (J Jx : List (Fin m) → World → Prop) (w : World) (hK : 1 ≤ K) (hc : K * m ≤ c) (hm : K * m ≤ 70368744177664) (hab : AbidesFrom w.heap.size J)
  (C1 : ao w b1 23 #[.slice (some ⟨g, off, none⟩) (K * m) c]) (C2 : ao w b2 3 #[.int .i64 (K : Int)])
  (hY : ∀ pre x W1, J pre W1 → pre.length < m → YieldAt Fence.wide (n - 1) Tryz.prog l #[vF g off K x.val] W1 fun e W' => (e = .returned (.bool true) ∧ J (pre ++ [x]) W' ∧ wD b1 b2 W1 W') ∨ (e = .returned (.bool false) ∧ Jx (pre ++ [x]) W'))
  (h0 : J [] w) :
  Ct 228 #[.func (.yield l) #[] #[], .pointer (some ⟨b1, 0, none⟩), .pointer (some ⟨b2, 0, none⟩)] w fun e W' => (∃ v, e = .returned v) ∧ ((∃ xs, xs = List.finRange m ∧ J xs W') ∨ (∃ pre : List (Fin m), True ∧ Jx pre W')) := by
 refine gj 31 func228 rfl rfl rfl rfl ?_;intro _ hret;refine aU ?_;refine aD (fun n' L wr => ∃ i : Nat, L = [(0, .func (.yield l) #[] #[]), (1, .pointer (some ⟨b1, 0, none⟩)), (2, .pointer (some ⟨b2, 0, none⟩)), (4, .int .i64 ((K * i : Nat) : Int))] ∧ n' = m - i ∧ (i ≤ m ∧ J ((List.finRange m).take i) wr ∧ ao wr b1 23 #[.slice (some ⟨g, off, none⟩) (K * m) c] ∧ ao wr b2 3 #[.int .i64 (K : Int)])) _ _ ⟨0, rfl, rfl, by omega, h0, C1, C2⟩ Ls ?_;rintro _ n' L wr ⟨i, rfl, rfl, _, hJ, D1, D2⟩ Vr;refine aU ?_;refine ak rfl (fun Vs => ?_) (fun Vs => ?_)
 ·have hki : K * i < K * m := by omega
  have hlt : i < m := Nat.lt_of_mul_lt_mul_left hki;have hge : K * i + K ≤ K * m := by rw [← Nat.mul_succ]; exact Nat.mul_le_mul_left _ hlt
  refine aU ?_;refine az Kr 7 rfl ?_; intro Vu ex Vv;obtain ⟨D1,D2⟩ := aZ ex D1 D2;replace hJ := hab _ _ _ none hJ (uF ex) (fun r e => by cases e);refine zm [0, 1, 2] ?_;refine my 3 rfl (pH (s := 1) rfl rfl Tn.u Kr (j := K * i) rfl Om) ?_;refine zm [4] ?_;refine my 5 rfl (Y.as (CU rfl rfl) (congrArg (Value.int .i64) (if_neg Om))) ?_;refine Gh [6] ?_;refine au 6 ?_;refine sc (n) ?_;refine fB (aY rfl) rfl ?_;refine fB (af rfl underlying23 rfl (D1.get (i := 0) rfl)) rfl ?_;refine fB (aY rfl) rfl ?_;refine fB (aY rfl) rfl ?_;refine fB (aY rfl) rfl ?_;refine fB (aN rfl rfl (bj Om Om)) rfl ?_;refine fB (aY rfl) rfl ?_;refine fB (aY rfl) rfl ?_;refine fB (aN rfl rfl (bj Om Om)) rfl ?_;refine fB (Y.as (zY (s := 1) rfl rfl rfl rfl underlying23 Kr (j := K * i) (h := K * i + K) (m := K * i + K) rfl Om Om Om Om Om Om) (show _ = vF g off K i from by unfold vF; rw [Nat.mul_one, Nat.add_sub_cancel_left])) rfl ?_;refine vh rfl rfl ((th (hY ((List.finRange m).take i) ⟨i, hlt⟩ _ hJ (by grind)))) rfl ?_;rintro e _ ⟨_, rfl, hbt, hbf⟩;refine aU ?_;refine fB (nr rfl) rfl ?_;refine Eh ?_;refine aU ?_;refine bB rfl (fun Vq => ?_) (fun Vq => ?_)
  ·refine aU ?_;refine hret (.inl rfl) ?_;exact ⟨⟨_, rfl⟩, .inr ⟨_, trivial, hbf (by simpa using Vq)⟩⟩
  obtain ⟨Vt, hk⟩ := hbt (by simpa using Vq);replace D1 := hk.S6 D1;replace D2 := hk.Sa D2;refine au 9 ?_;refine ae ?_;refine Vr _ _ ⟨i + 1, rfl, rfl, by omega, by rw [List.take_succ_eq_append_getElem (by grind)]; simpa using Vt, D1, D2⟩ Om Ls
 refine aU ?_;refine hret (.inr rfl) ?_;exact ⟨⟨_, rfl⟩, .inl ⟨_, rfl, by rw [List.take_of_length_le (by rw [List.length_finRange]; exact Nat.le_of_mul_le_mul_left (show K * m ≤ K * i by omega) hK)] at hJ; exact hJ⟩⟩
theorem zn (n g off c K m b1 b2 : Nat) (w : World) (hK : 1 ≤ K) (hc : K * m ≤ c) (hm : K * m ≤ 70368744177664)
  (C1 : ao w b1 23 #[.slice (some ⟨g, off, none⟩) (K * m) c]) (C2 : ao w b2 3 #[.int .i64 (K : Int)]) :
  SeqStopsK Fence.wide n Tryz.prog 228 #[.pointer (some ⟨b1, 0, none⟩), .pointer (some ⟨b2, 0, none⟩)] (fun x : Fin m => #[vF g off K x.val]) (wD b1 b2) (fun xs => xs = List.finRange m) (fun _ => True) m w :=
 fun l J Jx W hW hJ _ hY h0 => callsIn_wide.2 (AL n l g off c K m b1 b2 J Jx W hK hc hm hJ (C1.ext hW) (C2.ext hW) hY h0)
theorem FP (g off c K m : Nat) (w : World) (hK : 1 ≤ K) :
  Ct 176 #[.slice (some ⟨g, off, none⟩) (K * m) c, .int .i64 (K : Int)] w fun e w' => ∃ b1 b2, e = .returned (.func (.func 228) #[] #[.pointer (some ⟨b1, 0, none⟩), .pointer (some ⟨b2, 0, none⟩)]) ∧ w.heap.size ≤ b1 ∧ w.heap.size ≤ b2 ∧
   ao w' b1 23 #[.slice (some ⟨g, off, none⟩) (K * m) c] ∧ ao w' b2 3 #[.int .i64 (K : Int)] ∧ Ext w w' := by
 have E := Ext.refl w;refine ai 9 func176 rfl rfl rfl rfl ?_;intro _ hret;refine aU ?_;intro _ g1 B1 Vq ex;replace E := E.ext ex;have Vr := E.size;refine aU ?_;intro _ g2 B2 _ ex;obtain ⟨E,B1⟩ := aZ ex E B1;refine au 15 ?_;refine al (kr rfl) ?_;refine aU ?_;refine hret rfl ?_;exact ⟨g1, g2, rfl, Vq, by omega, B1, B2, E⟩
end
section
open Go.RowKit Tryz
def xQ (w : World) (D : Nat) : Prop := w.heap[D]? = some (.deferred (some []))
theorem xQ.lt (h : xQ w D) : D < w.heap.size := (Array.getElem?_eq_some_iff.1 h).1
theorem xQ.ext (h : xQ w D) (k : Ext w w') : xQ w' D := (k.block D h.lt).trans h
theorem yT (hg : W.grownBy W' (some g)) (h : g < B) : KeepsFrom B W W' := KeepsFrom.of_grownBy hg (fun j e => by grind)
theorem Gf (hg : W.grownBy W' (some g)) (h1 : b1 < W.heap.size) (h2 : b2 < W.heap.size) (n1 : b1 ≠ g) (n2 : b2 ≠ g) : wD b1 b2 W W' :=
 ⟨hg.size, hg.block b1 h1 (fun e => n1 (by injection e)), hg.block b2 h2 (fun e => n2 (by injection e))⟩
theorem rE (W : World) (l : Nat) (o o' : Obj) (h1 : b1 < l) (h2 : b2 < l) (h : W.heap[l]? = some o) : wD b1 b2 W (W.putObj l o') :=
 ⟨by simp_all, World.putObj_heap_other Om, World.putObj_heap_other Om⟩
theorem enters {c : Code} (hf : P.funcs[f]? = some fn) (hb : fn.body = some c) (hn : (fn.name == "runtime.NumGoroutine") = false) (args : Array Value) (w : World) : (callFunc f args).run P w = .ok (.enter f args) w := by
 have Vq : ¬ fn.name = "runtime.NumGoroutine" := by simpa using hn
 simp [callFunc, hf, hb, Vq]
theorem fO {β : Type} {f : β → Array Value} : OwnFrom B (fun s W => ao W g t (f s)) := fun s W W' row hs hg hr =>
 (grownBy_keeps_cells hg (fun r e => (hr r e).2) hs rfl).trans hs
theorem QU {β : Type} {xs : Lb} : OwnFrom B (fun (_ : β) W => Bs W A n xs) := fun s W W' row hs hg hr => by
 refine ⟨hs.1, ?_⟩
 rcases hs.2 with h | ⟨b, off, hA, hc⟩
 ·exact .inl h
 exact .inr ⟨b, off, hA, fun j u hj => cell_kept (hc j u hj) hg (fun r e => (hr r e).2)⟩
theorem nX {β : Type} {k : Nat} : OwnFrom B (fun (_ : β) W => k ≤ W.heap.size) := fun _ _ _ _ hs hg _ => Nat.le_trans hs hg.size
theorem qj (t tn e : TypeId) (i : TypeInfo) (z : Value) (k kn : IntKind) (ht : P.underlying t = some (.slice e)) (htn : P.underlying tn = some (.int kn)) (hi : P.info? e = some i) (hz : i.zero = some z)
  (g sLen sCap m : Nat) (cur : Array Value) (hg : w.heap[g]? = some (.cells cur e (0, 0))) (hs : i.size = 1) (h0 : 0 < m) (Vs : (m : Int) ≤ 9223372036854775807) (Vt : m * i.bytes ≤ 281474976710656)
  (news : List Value) (hnews : (Builtin.zeroCells z.cells m).toList = news) (h1 : ∀ u ∈ news, u.oneCell' = true) (hroom : sLen + m ≤ sCap) (hfit : sLen + news.length ≤ cur.size) :
  (Builtin.append_ #[t, tn] ty #[.slice (some ⟨g, 0, none⟩) sLen sCap, .int k m]).run P w = .ok (.slice (some ⟨g, 0, none⟩) (sLen + m) sCap) (w.setRow g (cur.toList.take sLen ++ news ++ cur.toList.drop (sLen + news.length)).toArray) := by
 have hst := run_storeCells_at P g sLen e news 0 cur w hg Om h1;simp only [Nat.add_zero] at hst;have hw : IntKind.i64.wrap (m : Int) = m := by rw [IntKind.wrap_i64]; omega
 have hneg : ¬ ((m : Int) < 0) := by omega
 have Vr : m ≠ 0 := by omega
 have Vq : ¬ (281474976710656 < (m : Int) * (i.bytes : Int)) := by omega
 simp [Builtin.append_, run_underlying ht, run_underlying htn, sizeOf, typeInfo, zeroValue, hi, hz, asInt, asIntOf, hw, hneg, Vr, hs, Vq, hroom, Addr.add_lit, hnews, hst]
theorem qp (t tn e : TypeId) (i : TypeInfo) (z : Value) (k kn : IntKind) (ht : P.underlying t = some (.slice e)) (htn : P.underlying tn = some (.int kn)) (hi : P.info? e = some i) (hz : i.zero = some z)
  (b : Addr) (sLen sCap m : Nat) (olds : List Value) (hlo : olds.length = sLen * i.size) (holds : ∀ j v, olds[j]? = some v → w.cell? (b.add j) = some v) (hs : i.size = 1) (h0 : 0 < m) (Vt : m * i.bytes ≤ 281474976710656)
  (news : List Value) (hnews : (Builtin.zeroCells z.cells m).toList = news)
  (hg : sCap < sLen + m) (Vw : ((sLen + m : Nat) : Int) ≤ 9223372036854775807) (hfit : Builtin.nextslicecap (sLen + m) sCap * i.bytes ≤ 281474976710656) :
  (Builtin.append_ #[t, tn] ty #[.slice (some b) sLen sCap, .int k m]).run P w = .ok (.slice (some ⟨w.heap.size, 0, none⟩) (sLen + m) (grownCap w (sLen + m) sCap e))
    (w.drew.alloc (.cells (olds.toArray ++ news.toArray ++ Builtin.zeroCells z.cells (grownCap w (sLen + m) sCap e - (sLen + m))) e)) := by
 have hn : ¬ (sLen + m ≤ sCap) := by omega
 have Vq : ¬ (9223372036854775807 < ((sLen : Int) + (m : Int))) := by omega
 have Vr : ¬ (281474976710656 < Builtin.nextslicecap (sLen + m) sCap * i.bytes) := by omega
 have hw : IntKind.i64.wrap (m : Int) = m := by rw [IntKind.wrap_i64]; omega
 have hneg : ¬ ((m : Int) < 0) := by omega
 have Vu : m ≠ 0 := by omega
 have Vs : ¬ (281474976710656 < (m : Int) * (i.bytes : Int)) := by omega
 have hfo := run_firstCells_some (P := P) w.drew i.size sLen b sLen sCap olds hlo (by simpa using holds);rw [hs] at hfo;have Vv : Builtin.zeroCells z.cells m = news.toArray := by rw [← hnews]
 simp [Builtin.append_, run_underlying ht, run_underlying htn, sizeOf, typeInfo, zeroValue, hi, hz, asInt, asIntOf, hw, hneg, Vu, hs, Vs, hn, Vq, Vr, Question.forced, hfo, newRow, grownCap, Vv];grind
theorem rm {bytes : Nat} (hE : Ap P t e bytes) (htn : P.underlying tn = some (.int kn)) (hown : Row w base e A n c xs)
  (hu : (P.info? e).map (·.zero) = some (some u)) (h1 : u.oneCell' = true) (hn : 0 < n) (h0 : 0 < m) (hlen : (n + m) * bytes ≤ 140737488355328) (Vs : n + m ≤ 140737488355328) (hbase : base ≤ w.heap.size) :
  ∃ A' c' w', (Builtin.append_ #[t, tn] ty #[.slice A n c, .int k m]).run P w = .ok (.slice A' (n + m) c') w' ∧ Row w' base e A' (n + m) c' (xs ++ List.replicate m u) ∧ Below base w w' ∧ w.grownBy w' (Value.slice A (n + m) c).ownBlock ∧ ((Value.slice A' (n + m) c').ownBlock = (Value.slice A (n + m) c).ownBlock ∨ (Value.slice A' (n + m) c').ownBlock = some w.heap.size) := by
 obtain ⟨ht, i, z, hi, hz, hs, hb, hzs⟩ := hE;have hzu : z = u := by grind
 subst hzu;have Vr : z.cells = #[z] := mz h1
 have hnews : (Builtin.zeroCells z.cells m).toList = List.replicate m z := by
  rw [Vr];simp only [Builtin.zeroCells, Array.size, List.length_singleton, Nat.mul_one, Array.toList_map, Array.toList_range];apply List.ext_getElem
  ·simp
  grind
 have hone : ∀ v ∈ List.replicate m z, v.oneCell' = true := fun v hv => by grind
 have hlx := hown.len
 rcases hown.2 with ⟨hv, Vt⟩ | ⟨g, cap, cur, hv, hbg, hg, hnc, hcm, hcs, htake⟩
 ·omega
 injection hv with h2 h3 h4
 subst h2; subst h4;have hmb : m * bytes ≤ 140737488355328 := Nat.le_trans (Nat.mul_le_mul_right _ Om) hlen;rw [Nat.mul_one] at hcs htake;by_cases hroom : n + m ≤ c
 ·have hr := qj (P := P) (w := w) (ty := ty) t tn e i z k kn ht htn hi hz g n c m cur hg hs h0 Om (by rw [hb]; omega) _ hnews hone hroom (by grind);refine ⟨_, c, _, hr, ⟨by grind, .inr ⟨g, c, _, rfl, hbg, setRow_heap w g cur _ e _ hg, hroom, hcm, ?_, ?_⟩⟩, ?_, ?_, .inl rfl⟩
  ·grind
  ·rw [htake, Nat.mul_one, List.take_append_of_le_length (by rw [List.length_append, List.length_replicate]; omega), List.take_of_length_le (by rw [List.length_append, List.length_replicate]; omega)]
  ·exact ⟨rfl, rfl, rfl, by simp_all, fun j hj => setRow_other w g j _ Om⟩
  exact ⟨rfl, rfl, rfl, by simp, fun j _ hj => setRow_other w g j _ (fun e => hj (by simp [Value.ownBlock, e]))⟩
 have holds : ∀ j v, xs[j]? = some v → w.cell? ((⟨g, 0, none⟩ : Addr).add j) = some v := World.ownsRow.cells hown rfl;have hr := qp (P := P) (w := w) (ty := ty) t tn e i z k kn ht htn hi hz ⟨g, 0, none⟩ n c m xs (by rw [hs]; omega) holds hs h0 (by rw [hb]; omega) _ hnews Om Om (growslice_fits Om (by rw [hb]; omega));have hge := grownCap_ge w (n + m) c e;have Vq : grownCap w (n + m) c e ≤ maxLen := grownCap_le_maxLen w (n + m) c e (by unfold maxLen; omega);refine ⟨_, _, _, hr, ⟨by grind, .inr ⟨w.heap.size, _, _, rfl, hbase, heap_alloc_new w.drew _, hge, Vq, ?_, ?_⟩⟩, ?_, ?_, .inr rfl⟩
 ·simp only [Array.size_append, List.size_toArray, size_zeroCells, hzs, List.length_replicate, hlx]; omega
 ·grind
 ·exact (Below.refl _ _).drew.alloc hbase _
 exact ⟨rfl, rfl, rfl, by simp, fun j hj _ => ((Below.refl w.heap.size w).drew.alloc (Nat.le_refl _) _).block j hj⟩
theorem Mt {bytes : Nat} (hx : ev L x = some (.slice A n c)) (hy : ev L y = some (.int k (m : Int))) (hE : Ap P t e bytes) (htn : P.underlying tn = some (.int kn)) (hown : Row w base e A n c xs)
  (hu : (P.info? e).map (·.zero) = some (some u)) (h1 : u.oneCell' = true) (hn : 0 < n) (h0 : 0 < m) (hlen : (n + m) * bytes ≤ 140737488355328) (Vq : n + m ≤ 140737488355328) (hbase : base ≤ w.heap.size) :
  Ef P L w (.call { callee := .builtin .append, args := #[x, y], argTypes := #[t, tn] }) ty (T9 w base e A (n + m) c (xs ++ List.replicate m u)) := Ef.run fun ρ hρ => by
 obtain ⟨A', c', w', hrun, h2, h3, h4, h5⟩ := rm (P := P) (w := w) (ty := ty) (k := k) hE htn hown hu h1 hn h0 hlen Vq hbase;exact ⟨_, w', ⟨A', c', rfl, h2, h3, h4, h5⟩, fun _ _ _ _ => by simp [execOp, resolve, invoke, builtin, hρ _ _ hx, hρ _ _ hy, hrun]⟩
end
section
open Go.RowKit Tryz
attribute [local irreducible] Y Ef WL WC WK WQ WM cv WN WF cZ
theorem Oz (x : Nat) (k : Nat) (hk : k ≤ 64) : IntKind.u8.wrap (((x / 2 ^ k : Nat)) : Int) = ((UInt8.ofNat (x / 2 ^ k)).toNat : Int) := by rw [UInt8.toNat_ofNat'];show (((x / 2 ^ k : Nat) : Int) % 256) = _;omega
theorem OF (x j : Nat) (h : j < 8) : UInt8.ofNat (x / 2 ^ (8 * (7 - j))) = (Lng.kT x).getD j 0 := by
 have : j = 0 ∨ j = 1 ∨ j = 2 ∨ j = 3 ∨ j = 4 ∨ j = 5 ∨ j = 6 ∨ j = 7 := by omega
 rcases this with rfl | rfl | rfl | rfl | rfl | rfl | rfl | rfl
 all_goals simp [Lng.kT]
theorem Cf (x j : Nat) (h : j < 8) : (Lng.kT x).take j ++ [(Lng.kT x).getD j 0] = (Lng.kT x).take (j + 1) := by
 have : j = 0 ∨ j = 1 ∨ j = 2 ∨ j = 3 ∨ j = 4 ∨ j = 5 ∨ j = 6 ∨ j = 7 := by omega
 rcases this with rfl | rfl | rfl | rfl | rfl | rfl | rfl | rfl
 all_goals rfl
theorem Fq (A : Oa) (n c : Nat) (xs : Lb) (w : World) (HA : Bs w A n xs) (hn : n ≤ 1000000) :
  Ct 257 #[.slice A n c] w fun e w' => ∃ A' c', e = .returned (.slice A' (n + (17 + Lng.cA n)) c') ∧ Row w' w.heap.size 5 A' (n + (17 + Lng.cA n)) c' ((xs ++ Lng.pad n).map bv) ∧ Ext w w' := by
 have hxl := HA.1;have hzl : Lng.cA n < 128 := Nat.mod_lt _ Om;have hz : Lng.cA n = (239 - n % 128) % 128 := rfl;refine ai 34 func257 rfl rfl rfl rfl ?_;intro _ hret;refine aU ?_;refine aC func181 rfl (jU A n c xs _ HA Om) ?_;rintro e w1 ⟨A1, c1, rfl, O1, ex⟩;refine aU ?_;have E1 := ex; have R1 : Row w1 w.heap.size 5 A1 n c1 (xs.map bv) := O1;refine ag (aF (z := .int .u8 0) Tn.u Kr rfl rfl rfl rfl rfl) rfl ?_;rintro _ _ ⟨_, rfl, B2, _, ex⟩;have E2 := E1.ext ex; have R2 := R1.ext ex;refine ag (aX rfl rfl bT R2 (At.jn (vs := [(128 : UInt8)].map bv) (B2.congr rfl)) rfl aJ Om Om E2.size) rfl ?_;rintro _ _ ⟨A3, c3, rfl, R3, be, gr, hl⟩;have E3 := E2.trans be; replace R3 := R3.cat;refine aU ?_;refine aD (fun n' L wr => ∃ (k c4 : Nat) (A4 : Oa), L = [(0, .slice A n c), (3, .slice A4 (n + 1 + k) c4)] ∧ n' = Lng.cA n - k ∧ (k ≤ Lng.cA n ∧ Ext w wr ∧ Row wr w.heap.size 5 A4 (n + 1 + k) c4 ((xs ++ 128 :: List.replicate k 0).map bv))) _ _ ⟨0, c3, A3, rfl, rfl, by omega, E3, R3⟩ Ls ?_;rintro _ n' L wr ⟨k, c4, A4, rfl, rfl, _, E, R⟩ Vr;refine au 5 ?_;refine al (ck rfl rfl Om (show (((n + 1 + k : Nat) : Int).tmod 128) = (((n + 1 + k) % 128 : Nat) : Int) from rfl)) ?_;refine aU ?_;refine ak rfl (fun Vs => ?_) (fun Vs => ?_)
 ·have hkz : k < Lng.cA n := by omega
  refine aU ?_;refine ag (aF (z := .int .u8 0) Tn.u Kr rfl rfl rfl rfl rfl) rfl ?_;rintro _ _ ⟨_, rfl, B5, _, ex⟩;have E5 := E.ext ex; have R5 := R.ext ex;refine ag (aX rfl rfl bT R5 (At.jn (vs := [(0 : UInt8)].map bv) (B5.congr rfl)) rfl aJ Om Om E5.size) rfl ?_;rintro _ _ ⟨A6, c6, rfl, R6, be, gr, hl⟩;have E6 := E5.trans be; replace R6 := R6.cat;refine au 3 ?_;refine ae ?_;refine Vr _ _ ⟨k + 1, c6, A6, rfl, rfl, by omega, E6, (by rw [List.append_assoc, List.cons_append, ← List.replicate_succ'] at R6; exact R6)⟩ Om Ls
 obtain rfl : k = Lng.cA n := by omega
 refine aU ?_;refine ag (Mt (m := 8) rfl rfl bT (kn := .i64) Kr R (u := .int .u8 0) Kr rfl Om Om Om Om E.size) rfl ?_;rintro _ _ ⟨A7, c7, rfl, R7, be, gr, hl⟩;have E7 := E.trans be; have e7 : List.replicate 8 (Value.int .u8 0) = (List.replicate 8 (0 : UInt8)).map bv := rfl;rw [e7] at R7;refine aU ?_;refine aD (fun n' L wr => ∃ (j c8 : Nat) (A8 : Oa), L = [(0, .slice A n c), (3, .slice A8 (n + 1 + Lng.cA n + 8 + j) c8), (4, .int .i64 (7 - (j : Int)))] ∧ n' = 8 - j ∧ (j ≤ 8 ∧ Ext w wr ∧ Row wr w.heap.size 5 A8 (n + 1 + Lng.cA n + 8 + j) c8 ((xs ++ 128 :: List.replicate (Lng.cA n) 0 ++ List.replicate 8 0 ++ (Lng.kT (n * 8)).take j).map bv))) _ _ ⟨0, c7, A7, rfl, rfl, by omega, E7, (by grind)⟩ Ls ?_;rintro _ n' L wr ⟨j, c8, A8, rfl, rfl, _, E, R⟩ Vt;refine aU ?_;refine ak rfl (fun Vu => ?_) (fun Vu => ?_)
 ·refine au 8 ?_;refine al (bo rfl Tn.u Tn.u (c := (n : Int)) (show IntKind.u64.wrap (n : Int) = (n : Int) from aH rfl Om)) ?_;refine al (cL rfl rfl (aH (n := n * 8) Om Om)) ?_;refine au 1 ?_;refine al (cL rfl rfl (bD (n := 8 * (7 - j)) Om Om)) ?_;refine al (cB rfl rfl Om (zj (n * 8) (8 * (7 - j)) Om)) ?_;refine al (bo rfl Tn.u Tn.u (Oz _ _ Om)) ?_;refine ag (aF (z := .int .u8 0) Tn.u Kr rfl rfl rfl rfl rfl) rfl ?_;rintro _ _ ⟨_, rfl, B9, _, ex⟩;have E9 := E.ext ex; have R9 := R.ext ex;refine ag (aX rfl rfl bT R9 (At.jn (vs := [UInt8.ofNat (n * 8 / 2 ^ (8 * (7 - j)))].map bv) (B9.congr rfl)) rfl aJ Om Om E9.size) rfl ?_;rintro _ _ ⟨Vv, c10, rfl, Vq, be, gr, hl⟩;have Vw := E9.trans be; replace Vq := Vq.cat; rw [OF _ _ Om, List.append_assoc _ (List.take j _), Cf _ _ Om] at Vq;refine au 9 ?_;refine ae ?_;refine Vt _ _ ⟨j + 1, c10, Vv, rfl, rfl, by omega, Vw, Vq⟩ Om Ls
 refine aU ?_;refine hret rfl ?_;obtain rfl : j = 8 := by omega
 exact ⟨A8, c8, (by congr 2; omega), R.congr Om (by congr 1; rw [show (Lng.kT (n * 8)).take 8 = Lng.kT (n * 8) from rfl]; simp [Lng.pad]), E⟩
def kB (s : Lng.S8) (l : Lb) (js : List Nat) : Lng.S8 := js.foldl (fun s j => Lng.step s ((l.drop (128 * j)).take 128)) s
theorem wj (s : Lng.S8) (l : Lb) (k : Nat) : kB s l (List.range k) = Lng.blocks s l k := by
 induction k with
 | zero => rfl
 | succ k ih => unfold kB at *; rw [List.range_succ, List.foldl_append, ih]; rfl
theorem BS (s : Lng.S8) (l : Lb) (k : Nat) : kB s l ((List.finRange k).map (·.val)) = Lng.blocks s l k := by rw [← wj]; congr 1;exact List.ext_getElem (by simp) (fun i h1 h2 => by simp)
theorem zL (s : Lng.S8) (l : Lb) (js : List Nat) (j : Nat) : kB s l (js ++ [j]) = Lng.step (kB s l js) ((l.drop (128 * j)).take 128) := by unfold kB; grind
theorem vq (l : Lb) : ∀ (js : List Nat) {s : Lng.S8}, s.ok → (kB s l js).ok
 | [], _, h => h
 | j :: js, s, _ => vq l js (Lng.vH s ((l.drop (128 * j)).take 128))
theorem xw (S : Lng.S8) (i : Nat) (h : i < 64) : UInt8.ofNat (S.list.getD (i / 8) 0 / 2 ^ (56 - i % 8 * 8)) = S.bytes.getD i 0 := by
 have e : 56 - i % 8 * 8 = 8 * (7 - i % 8) := by omega
 rw [e, OF _ _ (Nat.mod_lt _ Om)]
 obtain ⟨q, r, hq, hr, rfl⟩ : ∃ q r, q < 8 ∧ r < 8 ∧ i = 8 * q + r := ⟨i / 8, i % 8, by omega, by omega, by omega⟩
 rw [show (8 * q + r) / 8 = q from by omega, show (8 * q + r) % 8 = r from by omega];have Vq : q = 0 ∨ q = 1 ∨ q = 2 ∨ q = 3 ∨ q = 4 ∨ q = 5 ∨ q = 6 ∨ q = 7 := by omega
 have Vr : r = 0 ∨ r = 1 ∨ r = 2 ∨ r = 3 ∨ r = 4 ∨ r = 5 ∨ r = 6 ∨ r = 7 := by omega
 rcases Vq with rfl | rfl | rfl | rfl | rfl | rfl | rfl | rfl <;> rcases Vr with rfl | rfl | rfl | rfl | rfl | rfl | rfl | rfl <;> rfl
theorem Nh (l : Lb) (k : Nat) (h : k < l.length) : (dd (l.take k ++ List.replicate (l.length - k) 0)).setIfInBounds (0 + k) (.int .u8 ((l.getD k 0).toNat : Int)) = dd (l.take (k + 1) ++ List.replicate (l.length - (k + 1)) 0) := by
 have e : (l.take k).length = k := by simp; omega
 rw [Nat.zero_add];unfold dd;apply Array.ext';simp only [Array.toList_setIfInBounds];rw [show l.length - k = (l.length - (k + 1)) + 1 from by omega, List.replicate_succ, List.map_append, List.set_append_right _ _ So, List.map_cons, List.length_map, e, Nat.sub_self, List.set_cons_zero, List.take_succ_eq_append_getElem h, List.append_assoc, List.map_append, List.map_append, List.map_cons, List.map_nil];congr 1;have : l.getD k 0 = l[k] := by simp [h]
 rw [this];rfl
theorem NM (A : Oa) (c : Nat) (xs : Lb) (s : Lng.S8) (k : Array Value) (w : World) (HA : Bs w A 128 xs) (hc : 128 ≤ c) (Vq : c ≤ 9223372036854775807) (hs : s.ok) (hk : k = aM .u64 Lng.K) :
  Ct 258 #[.agg (aM .u64 s.list), .agg k, .slice A 128 c] w fun e w' => e = .returned (.agg (aM .u64 (Lng.step s xs).list)) ∧ Ext w w' := by
 subst hk; exact EI A c xs s w HA hc Vq hs
theorem JT (A : Oa) (n c : Nat) (xs : Lb) (w : World) (HA : Bs w A n xs) (hn : n ≤ 900000) :
  Ct 234 #[.slice A n c] w fun e w' => e = .returned (.agg (dd (Lng.sum xs))) ∧ Ext w w' := by
 have E := Ext.refl w;have hxl := HA.1;have hz : Lng.cA n < 128 := Nat.mod_lt _ Om
 obtain ⟨M, hM⟩ : ∃ M, n + (17 + Lng.cA n) = 128 * M := ⟨(n + (17 + Lng.cA n)) / 128, by have := Lng.kF n; rw [Lng.cP] at this; omega⟩
 refine zH (s := 64) (3) 35 func234 rfl rfl rfl underlying275 rfl Kr rfl ?_;intro _ hretD;refine aU ?_;intro w1 g2 (B2 : ao _ _ _ (dd (iC 64))) Vu ex;replace E := E.ext ex;refine aU ?_;refine aC func255 rfl (Bj _) ?_;rintro e _ ⟨rfl, ex⟩;obtain ⟨E,B2⟩ := aZ ex E B2;refine aU ?_;refine aC func256 rfl (Cs _) ?_;rintro e _ ⟨rfl, ex⟩;obtain ⟨E,B2⟩ := aZ ex E B2;have VA := B2.lt;refine aU ?_;intro w4 g3 (B3 : ao _ _ _ (aM .u64 (lC 8))) VB ex;obtain ⟨E,B2⟩ := aZ ex E B2;have VC := B3.lt;refine aU ?_;intro w5 g4 (B4 : ao _ _ _ (aM .u64 (lC 80))) VD ex;obtain ⟨E,B2,B3⟩ := bF ex E B2 B3;refine ag (ah rfl rfl Kr B3 rfl (dc _ _)) rfl ?_;rintro _ _ ⟨rfl, D3, cg⟩;replace E := E.aA cg Om; replace B2 := B2.aA cg Om; replace B4 := B4.aA cg Om;refine ag (ah rfl rfl Kr B4 Kr (dc _ _)) rfl ?_;rintro _ _ ⟨rfl, D4, cg⟩;replace E := E.aA cg Om; replace B2 := B2.aA cg Om; replace D3 := D3.aA cg Om; obtain ⟨KK, hKK⟩ : ∃ k, k = aM .u64 Lng.K := ⟨_, rfl⟩; have hKs : KK.size = 80 := by rw [hKK, bu]; rfl
 rw [← hKK] at D4 ;refine aU ?_;have VE := D3.lt; have VF := D4.lt;refine aC func257 rfl (Fq A n c xs _ (HA.wk E) Om) ?_;rintro e _ ⟨_, c5, rfl, R5, ex⟩;refine aU ?_;obtain ⟨E,B2,D3,D4⟩ := bU ex E B2 D3 D4;have HT := R5.bs; obtain ⟨g5, v5, rfl, _, _, VG, VH, _⟩ := R5.get (i := 0) Om; have hcap := R5.cap; rw [hM] at HT hcap ⊢; obtain ⟨T, hT⟩ : ∃ T, T = xs ++ Lng.pad n := ⟨_, rfl⟩; rw [← hT] at HT;refine aC func176 rfl (FP g5 0 c5 128 M _ Om) ?_;rintro e w9 ⟨b1, b2, rfl, _, _, C1, C2, ex⟩;obtain ⟨E,B2,D3,D4,HT⟩ := eQ ex E B2 D3 D4 HT;have VI := C1.lt; have VJ := C2.lt; have VK := E.size;refine aU ?_;refine KV (n := 3) (S := fun xs => xs = List.finRange M) Om rfl (enters func228 rfl rfl) (zn 2 g5 0 c5 128 M b1 b2 _ Om hcap Om C1 C2) wD.trans (fun W l o o' hl ho _ _ => rE W l o o' Om Om ho) (fun pre W => ao W g3 294 (aM .u64 (kB Lng.IV T (pre.map (·.val))).list) ∧ ao W g4 296 KK ∧ ao W g2 275 (dd (iC 64)) ∧ Bs W (some ⟨g5, 0, none⟩) (128 * M) T ∧ Below w.heap.size w W ∧ w9.heap.size ≤ W.heap.size) (OwnFrom.and fO (OwnFrom.and fO (OwnFrom.and fO (OwnFrom.and QU (OwnFrom.and (ownFrom_below (Nat.le_refl _) Om) nX))))) ⟨D3, D4, B2, HT, E, Nat.le_refl _⟩ rfl rfl rfl ?_ ?_
 ·intro _ pre v W2 ⟨I1, I2, I3, I4, I5, I6⟩ hl hout;have hv := v.isLt
  obtain ⟨S0, Vq⟩ : ∃ s, s = kB Lng.IV T (pre.map (·.val)) := ⟨_, rfl⟩
  rw [← Vq] at I1;have Vr : S0.ok := by rw [Vq]; exact vq T _ Lng.uz
  refine au 1 ?_;refine al (aW rfl Tn.u rfl (by rw [hKs]; kernel_rfl) I2) ?_;refine aU ?_;refine aC func258 rfl (NM (some ⟨g5, 0 + 128 * v.val, none⟩) 128 ((T.drop (128 * v.val)).take 128) S0 KK _ ((I4.wT (128 * v.val)).take Om) (Nat.le_refl _) Om Vr hKK) ?_;rintro e _ ⟨rfl, ex⟩;refine au 1 ?_;have J1 := I1.ext ex;refine ag (ah rfl rfl (by rw [bu, ki]; kernel_rfl) J1 (by rw [bu, bu, ki, ki]) (dc _ _)) rfl ?_;rintro _ Vv ⟨rfl, N3, cg⟩;have hgr : W2.grownBy Vv (some g3) := lF.tr (lF.LO ex g3) cg;refine aU ?_;exact hout (yT hgr Om) (Gf hgr Om Om Om Om) ⟨by rw [List.map_append, List.map_singleton, zL, ← Vq]; exact N3, I2.grown hgr (by grind), I3.grown hgr (by grind), I4.grown hgr (by grind), qT I5 hgr Om I5.size, Nat.le_trans I6 hgr.size⟩
 intro D _ W2 _ Vw ⟨I1, I2, I3, I4, I5, I6⟩ hKD;obtain rfl := Vw;rw [BS] at I1;have F := Ext.refl W2
 obtain ⟨S, hS⟩ : ∃ S, S = Lng.blocks Lng.IV T M := ⟨_, rfl⟩
 rw [← hS] at I1;have hsum : Lng.sum xs = S.bytes := by unfold Lng.sum; rw [hxl, ← hT, hS, hT, List.length_append, Lng.cP, hxl, hM, Nat.mul_div_cancel_left _ Om]
 have hSl := Lng.kl S;refine aU ?_;intro VL g6 (B6 : ao _ _ _ (dd (iC 64))) Vx ex;have F := ex;refine aU ?_;refine aD (fun n' L wr => ∃ i : Nat, L = [(2, .pointer (some ⟨g2, 0, none⟩)), (3, .pointer (some ⟨g3, 0, none⟩)), (6, .pointer (some ⟨g6, 0, none⟩)), (18, .int .i64 (i : Int))] ∧ n' = 64 - i ∧ (i ≤ 64 ∧ Ext W2 wr ∧ ao wr g6 275 (dd (S.bytes.take i ++ List.replicate (S.bytes.length - i) 0)))) _ _ ⟨0, rfl, rfl, by omega, F, B6⟩ Ls ?_;rintro _ n' L wr ⟨i, rfl, rfl, _, F, D6⟩ Vy;refine aU ?_;refine ak rfl (fun Vz => ?_) (fun Vz => ?_)
 ·refine au 13 ?_;refine al (dG rfl rfl Om (show IntKind.i64.wrap (((i : Nat) : Int).tdiv 8) = ((i / 8 : Nat) : Int) from bD rfl Om)) ?_;refine au 1 ?_;refine al (af rfl Tn.u rfl ((I1.ext F).get (oN S.list (by rw [ki]; omega)))) ?_;refine au 1 ?_;refine al (ck rfl rfl Om (show (((i : Nat) : Int).tmod 8) = ((i % 8 : Nat) : Int) from rfl)) ?_;refine al (cL rfl rfl (bD (n := i % 8 * 8) Om Om)) ?_;refine al (fI rfl rfl (bD (n := 56 - i % 8 * 8) Om Om)) ?_;refine al (cB rfl rfl Om (zj _ _ Om)) ?_;refine al (bo rfl Tn.u Tn.u (show _ = ((S.bytes.getD i 0).toNat : Int) from by rw [Oz _ _ Om, xw _ _ Om])) ?_;refine au 1 ?_;refine ag (aq rfl rfl rfl Kr D6 (by rw [ba, List.length_append, List.length_take, List.length_replicate]; omega)) rfl ?_;rintro _ _ ⟨rfl, D7, cg⟩;have F7 := F.aA cg Vx; rw [Nh _ _ Om] at D7;refine au 7 ?_;refine ae ?_;refine Vy _ _ ⟨i + 1, rfl, rfl, by omega, F7, D7⟩ Om Ls
 obtain rfl : i = 64 := by omega
 have D8 : ao wr g6 275 (dd (Lng.sum xs)) := by rw [hsum]; rw [List.take_of_length_le Om, hSl, Nat.sub_self, List.replicate_zero, List.append_nil] at D6; exact D6
 have Vt := (show xQ W2 D from hKD).ext F;have E8 := I5.trans (F.mono I5.size);have C2 := I3.ext F;have hDw : w.heap.size ≤ D := by omega
 refine au 8 ?_;refine ag (ah rfl rfl (by rw [ba, Lng.cn]; kernel_rfl) C2 (by rw [ba, ba, Lng.cn]; rfl) (mx _)) rfl ?_;rintro _ Vs ⟨rfl, C3, cg⟩;have HD : xQ Vs D := (cg.block D Vt.lt (by grind)).trans Vt; have E9 : Ext w (Vs.putObj D (.deferred none)) := (E8.aA cg Vu).trans (belowK_b (w := w) (Nat.le_refl _) Vs D _ _ hDw HD rfl rfl);refine aU ?_;refine hretD rfl HD C3 (by rw [ba, Lng.cn]) ?_;exact ⟨rfl, E9⟩
theorem vR (A : Oa) (n c : Nat) (xss : List (List UInt8)) (w : World) (HA : rO w A n xss) (hn : n ≤ 1000000) (hl : xss.flatten.length ≤ 900000) :
  Ct 194 #[.slice A n c] w fun e w' => ∃ g, e = .returned (.slice (some ⟨g, 0, none⟩) 64 64) ∧ w.heap.size ≤ g ∧ ao w' g 275 (dd (Lng.sum xss.flatten)) ∧ Ext w w' := by
 have E := Ext.refl w;refine ai 8 func194 rfl rfl rfl rfl ?_;intro _ hret;refine aU ?_;refine aC func184 rfl (gU A n c xss _ HA Om Om) ?_;rintro e _ ⟨A1, m1, c1, rfl, O1, ex⟩;refine aU ?_;replace E := E.ext ex;have H1 := O1.bs; have Vr := H1.1;refine aC func234 rfl (JT A1 m1 c1 xss.flatten _ H1 Om) ?_;rintro e w2 ⟨rfl, ex⟩;replace E := E.ext ex;have E0 := E; have hs := E.size; have F := Ext.refl w2;refine aU ?_;intro w3 g3 (B3 : ao _ _ _ (dd (iC 64))) Vq ex;replace F := F.ext ex;refine ag (ah rfl rfl (by rw [ba, Lng.cn]; kernel_rfl) B3 (by rw [ba, ba, Lng.cn]; rfl) (mx _)) rfl ?_;rintro _ _ ⟨rfl, B4, cg⟩;replace F := F.aA cg Vq; have E4 := E0.ext F;refine au 4 ?_;refine al (yG (s := 1) rfl Tn.u Kr) ?_;refine aU ?_;refine hret rfl ?_;exact ⟨g3, rfl, by omega, B4, E4⟩
theorem Ns.cellAt {i : Nat} {xs : List Nat} (h : Ns k w (some ⟨b, off, none⟩) n xs) (hi : i < n) : w.cell? ⟨b, off + i, none⟩ = some (.int k ((xs.getD i 0 : Nat) : Int)) := by
 obtain ⟨b', Vq, x, e, hx, hc⟩ := h.cell hi;injection e with e
 injection e with e1 e2 _
 subst e1; subst e2;rw [hc, hx.out]
end
section
namespace Wd
def val : List Nat → Nat
 | [] => 0
 | d :: ds => d + 18446744073709551616 * val ds
def ok (ds : List Nat) : Prop := ∀ d ∈ ds, d < 18446744073709551616
theorem vO {d : Nat} : ok (d :: ds) ↔ d < 18446744073709551616 ∧ ok ds := by
 constructor
 ·intro h; exact ⟨h d (by simp), fun x hx => h x (by simp [hx])⟩
 rintro ⟨h1, h2⟩ x hx;rcases List.mem_cons.1 hx with rfl | hx
 ·exact h1
 exact h2 x hx
theorem AS (ha : ok a) (i : Nat) : a.getD i 0 < 18446744073709551616 := by
 rw [List.getD_eq_getElem?_getD]
 cases h : a[i]? with
 | none => simp
 | some d => exact ha d (List.mem_of_getElem? h)
theorem Fi (n i : Nat) : (List.replicate n 0).getD i 0 = 0 := by grind
theorem getD_set_ne (l : List Nat) (i j x : Nat) (h : i ≠ j) : (l.set i x).getD j 0 = l.getD j 0 := by rw [List.getD_eq_getElem?_getD, List.getD_eq_getElem?_getD, List.getElem?_set_ne h]
theorem ny : ∀ (a b : List Nat), val (a ++ b) = val a + 18446744073709551616 ^ a.length * val b
  | [], b => by simp [val]
  | d :: a, b => by simp only [List.cons_append, val, ny a b, List.length_cons, Nat.pow_succ];rw [Nat.mul_add, Nat.mul_comm (18446744073709551616 ^ a.length) 18446744073709551616, Nat.mul_assoc];omega
theorem mZ (a : List Nat) (k : Nat) : val (a.take (k + 1)) = val (a.take k) + a.getD k 0 * 18446744073709551616 ^ k := by
 rw [List.getD_eq_getElem?_getD];by_cases h : k < a.length
 ·rw [List.take_succ_eq_append_getElem h, ny];have hl : (a.take k).length = k := by simp; omega
  rw [hl];simp [val, h, Nat.mul_comm]
 rw [List.take_of_length_le (by omega), List.take_of_length_le (by omega), List.getElem?_eq_none (by omega)];simp
theorem wi : ∀ (l : List Nat) (i x : Nat), i < l.length → val (l.set i x) + l.getD i 0 * 18446744073709551616 ^ i = val l + x * 18446744073709551616 ^ i
  | [], i, x, h => by cases h
  | d :: l, 0, x, _ => by simp [val]; omega
  | d :: l, i + 1, x, h => by
    have ih := wi l i x (by simpa using h);simp only [List.set_cons_succ, val, List.getD_cons_succ, Nat.pow_succ];have e1 : l.getD i 0 * (18446744073709551616 ^ i * 18446744073709551616) = 18446744073709551616 * (l.getD i 0 * 18446744073709551616 ^ i) := by rw [← Nat.mul_assoc, Nat.mul_comm]
    have e2 : x * (18446744073709551616 ^ i * 18446744073709551616) = 18446744073709551616 * (x * 18446744073709551616 ^ i) := by rw [← Nat.mul_assoc, Nat.mul_comm]
    rw [e1, e2];omega
theorem Kd {l : List Nat} (h : ok l) (i x : Nat) (hx : x < 18446744073709551616) : ok (l.set i x) := fun d hd => by
 rcases List.mem_or_eq_of_mem_set hd with h1 | h1
 ·exact h d h1
 omega
theorem Gb (n : Nat) : val (List.replicate n 0) = 0 := by
 induction n with
 | zero => rfl
 | succ n ih => rw [List.replicate_succ, val, ih]
theorem Lk (n : Nat) : ok (List.replicate n 0) := fun d hd => by grind
theorem dm (D P : Nat) : D % 18446744073709551616 * P + D / 18446744073709551616 * (P * 18446744073709551616) = D * P := by rw [Nat.mul_comm P 18446744073709551616, ← Nat.mul_assoc, ← Nat.add_mul];congr 1;omega
theorem Lg {l l0 o x y cr P V y' : Nat} (hD : D = o + x * y + cr) (h : l + cr * P = l0 + x * V) (h' : y' + o * P = l + D % 18446744073709551616 * P) : y' + D / 18446744073709551616 * (P * 18446744073709551616) = l0 + x * (V + y * P) := by have e := dm D P;grind
end Wd
end
open Go.RowKit
attribute [local irreducible] Y Ef WL WC WK WQ WM cv WN WF cZ
theorem Te (x : Nat) : IntKind.u8.wrap ((x % 256 : Nat) : Int) = ((UInt8.ofNat x).toNat : Int) := by rw [UInt8.toNat_ofNat'];show (((x % 256 : Nat) : Int) % 256) = _;omega
theorem Bz {α : Type} (l : List α) (d : α) (i : Nat) (h : i < l.length) : l.take i ++ [l.getD i d] = l.take (i + 1) := by rw [List.take_succ_eq_append_getElem h, List.getD_eq_getElem?_getD, List.getElem?_eq_getElem h]; rfl
theorem Bs.cellAt {k : Nat} {xs : Lb} (h : Bs w (some ⟨b, off, none⟩) n xs) (hk : k < n) : w.cell? ⟨b, off + k, none⟩ = some (.int .u8 ((xs.getD k 0).toNat : Int)) := by
 obtain ⟨b', Vq, e, _, hc⟩ := h.get hk;injection e with e
 injection e with e1 e2 _
 subst e1; subst e2;exact hc
theorem CQ (p u : Nat) : p % 2 * u ≤ u := by rcases Nat.mod_two_eq_zero_or_one p with h | h <;> rw [h] <;> omega
theorem Ns.JB {xs : List Nat} (h : Ns k w A n xs) (cg : w.grownBy w' (some g)) (hA : ∀ o, A ≠ some ⟨g, o, none⟩) : Ns k w' A n xs := h.grown cg (fun b o e e2 => hA o (e2 ▸ e))
theorem Rp (h : Row w base e A n c xs) (b o : Nat) (hA : A = some ⟨b, o, none⟩) : base ≤ b := by subst hA; exact (Row.lt h).1
end
section
open Go.RowKit
theorem En (x : Nat) : Sha.cQ x 0 = x := by simp [Sha.cQ, Nat.mod_one]
theorem FR (x i : Nat) (hi : i < 32) : Sha.cQ x (i + 1) = Sha.cQ x i / 2 + Sha.cQ x i % 2 * 2147483648 := by
 unfold Sha.cQ
 obtain ⟨p, hp⟩ : ∃ p, p = 2 ^ i := ⟨_, rfl⟩
 obtain ⟨q, hq⟩ : ∃ q, q = 2 ^ (31 - i) := ⟨_, rfl⟩
 have hpq : p * q = 2147483648 := by rw [hp, hq, ← Nat.pow_add, show i + (31 - i) = 31 from by omega]
 have e1 : 2 ^ (i + 1) = 2 * p := by rw [Nat.pow_succ, hp]; omega
 have e2 : 2 ^ (32 - i) = 2 * q := by rw [show 32 - i = (31 - i) + 1 from by omega, Nat.pow_succ, hq]; omega
 have e3 : 2 ^ (32 - (i + 1)) = q := by rw [show 32 - (i + 1) = 31 - i from by omega, hq]
 rw [e1, e2, e3, ← hp];have h1 : x / (2 * p) = x / p / 2 := by rw [Nat.mul_comm, Nat.div_div_eq_div_mul]
 have h2 : x % (2 * p) = x % p + p * (x / p % 2) := by rw [Nat.mul_comm 2 p, Nat.mod_mul]
 rw [h1, h2, Nat.add_mul, Nat.mul_assoc, Nat.mul_comm (x / p % 2) q, ← Nat.mul_assoc, hpq];generalize x / p = a;generalize x % p = b;have h3 : b * (2 * q) = 2 * (b * q) := by rw [← Nat.mul_assoc, Nat.mul_comm b 2, Nat.mul_assoc]
 rw [h3];generalize b * q = t;omega
end
namespace Sha
def wt (l : List UInt8) (t : Nat) : List Nat := ext (jr l (min t 16)) (t - 16)
theorem Pr {t : Nat} (h : t < 16) : wt l (t + 1) = wt l t ++ [RQ l t] := by unfold wt;rw [show min (t + 1) 16 = t + 1 from by omega, show min t 16 = t from by omega, show t + 1 - 16 = 0 from by omega, show t - 16 = 0 from by omega];rfl
theorem xt {t : Nat} (h : 16 ≤ t) : wt l (t + 1) = wt l t ++ [jg (wt l t) (t - 16)] := by unfold wt;rw [show min (t + 1) 16 = 16 from by omega, show min t 16 = 16 from by omega, show t + 1 - 16 = (t - 16) + 1 from by omega];rfl
theorem r9 (l : List UInt8) : wt l 64 = words l := rfl
theorem GY (l : List UInt8) (t : Nat) : ∀ x ∈ wt l t, x < 4294967296 := tO _ (sJ l _) _
def pre (l : List UInt8) (t : Nat) : Nat → Nat
 | 0 => 0
 | i + 1 => 256 * pre l t i + (l.getD (4 * t + i) 0).toNat
theorem wF (l : List UInt8) (t i : Nat) : pre l t i < 256 ^ i := by
  induction i with
  | zero => simp [pre]
  | succ i ih =>
    have := (l.getD (4 * t + i) 0).toNat_lt
    simp only [pre, Nat.pow_succ]
    omega
theorem Kc (l : List UInt8) (t : Nat) : pre l t 4 = RQ l t := by simp only [pre, RQ, Nat.add_zero];omega
theorem Bi (M : List UInt8) (a i : Nat) (h : i < 64) : ((M.drop a).take 64).getD i 0 = M.getD (a + i) 0 := by simp [List.getD_eq_getElem?_getD, List.getElem?_take, List.getElem?_drop, h]
theorem fH (c k : Nat) : c % 2 ^ (k + 1) = c % 2 ^ k + c / 2 ^ k % 2 * 2 ^ k := by rw [Nat.pow_succ, Nat.mod_mul, Nat.mul_comm (2 ^ k)]
theorem Gr {e k : Nat} (he : e < 4294967296) (hk : k < 32) : (4294967295 - e).testBit k = !e.testBit k := by have h1 := Nat.testBit_two_pow_sub_succ (n := 32) he k;rw [show (2 : Nat) ^ 32 - (e + 1) = 4294967295 - e from by omega] at h1;simp [h1, hk]
theorem Jz {e f k : Nat} (he : e < 4294967296) (hk : k < 32) : ch e f g / 2 ^ k % 2 = if e / 2 ^ k % 2 = 1 then f / 2 ^ k % 2 else g / 2 ^ k % 2 := by rw [← Nat.toNat_testBit, ← Nat.toNat_testBit, ← Nat.toNat_testBit, ← Nat.toNat_testBit];unfold ch;rw [Nat.testBit_xor, Nat.testBit_and, Nat.testBit_and, Gr he hk];cases e.testBit k <;> cases f.testBit k <;> cases g.testBit k <;> rfl
theorem CV (a b c k : Nat) : Gi a b c / 2 ^ k % 2 = if 2 ≤ a / 2 ^ k % 2 + b / 2 ^ k % 2 + c / 2 ^ k % 2 then 1 else 0 := by rw [← Nat.toNat_testBit, ← Nat.toNat_testBit, ← Nat.toNat_testBit, ← Nat.toNat_testBit];unfold Gi;rw [Nat.testBit_xor, Nat.testBit_xor, Nat.testBit_and, Nat.testBit_and, Nat.testBit_and];cases a.testBit k <;> cases b.testBit k <;> cases c.testBit k <;> rfl
theorem J8 {e f k : Nat} (he : e < 4294967296) (hk : k < 32) (h : e / 2 ^ k % 2 = 1) : ch e f g % 2 ^ (k + 1) = ch e f g % 2 ^ k + f / 2 ^ k % 2 * 2 ^ k := by rw [fH, Jz he hk, if_pos h]
theorem Lz {e f k : Nat} (he : e < 4294967296) (hk : k < 32) (h : ¬ e / 2 ^ k % 2 = 1) : ch e f g % 2 ^ (k + 1) = ch e f g % 2 ^ k + g / 2 ^ k % 2 * 2 ^ k := by rw [fH, Jz he hk, if_neg h]
theorem vb {a k : Nat} (h : 2 ≤ a / 2 ^ k % 2 + b / 2 ^ k % 2 + c / 2 ^ k % 2) : Gi a b c % 2 ^ (k + 1) = Gi a b c % 2 ^ k + 2 ^ k := by rw [fH, CV, if_pos h, Nat.one_mul]
theorem uG {a k : Nat} (h : ¬ 2 ≤ a / 2 ^ k % 2 + b / 2 ^ k % 2 + c / 2 ^ k % 2) : Gi a b c % 2 ^ (k + 1) = Gi a b c % 2 ^ k := by rw [fH, CV, if_neg h, Nat.zero_mul, Nat.add_zero]
end Sha
end Go.Proofs.YtgfafidlkldeaaaGreat
