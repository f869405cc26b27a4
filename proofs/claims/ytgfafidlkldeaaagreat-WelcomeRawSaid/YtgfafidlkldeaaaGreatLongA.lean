/- The long digest: turns, constants, words of a block. The long digest: a block goes into a state. -/
import Derived.Test.YtgfafidlkldeaaaGreatBigC
import Derived.Test.YtgfafidlkldeaaaGreatAu
set_option linter.unusedVariables false
set_option linter.unusedSimpArgs false
set_option maxHeartbeats 4000000
set_option maxRecDepth 4000
namespace Go.Proofs.YtgfafidlkldeaaaGreat
section
open Go.RowKit Tryz
attribute [local irreducible] Y Ef WL WC WK WQ WM cE WN WF dc
theorem Nc (n : Nat) (h1 : 1 ≤ n) (h2 : n ≤ 63) : bits .and .u64 ((18446744073709551616 - n : Nat) : Int) 63 = ((64 - n : Nat) : Int) := by
 have h := u64_and_nat (18446744073709551616 - n) 63 Om Om
 rw [show ((63 : Nat) : Int) = 63 from rfl] at h
 rw [h, show (63 : Nat) = 2 ^ 6 - 1 from rfl, Nat.and_two_pow_sub_one_eq_mod]
 congr 1
 omega
theorem LJ (k : Nat) (h : k ≤ 64) : min ((k : Int)).toNat IntKind.u64.bits = k := by show min k 64 = k; omega
theorem LD (x k : Nat) (h : k ≤ 64) : IntKind.u64.wrap ((x : Int) * 2 ^ (min ((k : Int)).toNat IntKind.u64.bits)) = ((x * 2 ^ k % 18446744073709551616 : Nat) : Int) := by
 rw [LJ k h]
 show ((x : Int) * 2 ^ k) % 18446744073709551616 = _
 rw [Int.natCast_emod, Int.natCast_mul, Int.natCast_pow]; rfl
theorem wT (x k : Nat) (h : k ≤ 64) : (x : Int) / 2 ^ (min ((k : Int)).toNat IntKind.u64.bits) = ((x / 2 ^ k : Nat) : Int) := by
 rw [LJ k h, Int.natCast_ediv, Int.natCast_pow]; rfl
theorem Hq (x n : Nat) (w : World) (hx : x < 18446744073709551616) (h1 : 1 ≤ n) (h2 : n ≤ 63) :
  Ct 272 #[.int .u64 (x : Int), .int .i64 (-(n : Int))] w fun e w' => e = .returned (.int .u64 ((Lng.cI x n : Nat) : Int)) ∧ Ext w w' := by
 have E := Ext.refl w
 refine ai 17 func272 rfl rfl rfl rfl ?_
 intro _ hret
 refine au 8 ?_
 refine ak (bg rfl Tn.u Tn.u (show IntKind.u64.wrap (-(n : Int)) = ((18446744073709551616 - n : Nat) : Int) from by show (-(n : Int)) % 18446744073709551616 = _; omega)) ?_
 refine ak (cM rfl rfl (Nc n h1 h2)) ?_
 refine au 7 ?_
 refine ak (fk rfl rfl Om (LD x (64 - n) Om)) ?_
 refine au 2 ?_
 refine ak (eS rfl rfl (aF (n := n) Om Om)) ?_
 refine ak (bZ rfl rfl Om (wT x n Om)) ?_
 refine ak (iH rfl rfl (show _ = ((Lng.cI x n : Nat) : Int) from by rw [u64_or_nat _ _ (Nat.mod_lt _ Om) (Nat.lt_of_le_of_lt (Nat.div_le_self _ _) hx), Lng.tQ hx Om])) ?_
 refine aU ?_
 refine hret rfl ?_
 exact ⟨rfl, E⟩
theorem dx (x n : Nat) (w : World) (hx : x < 18446744073709551616) (h1 : 1 ≤ n) (h2 : n ≤ 63) :
  Ct 269 #[.int .u64 (x : Int), .int .i64 (n : Int)] w fun e w' => e = .returned (.int .u64 ((Lng.cI x n : Nat) : Int)) ∧ Ext w w' := by
 have E := Ext.refl w
 refine ai 9 func269 rfl rfl rfl rfl ?_
 intro _ hret
 refine au 9 ?_
 refine ak (Dh rfl (show IntKind.i64.wrap (0 - (n : Int)) = -(n : Int) from by rw [bc Om Om]; omega)) ?_
 refine aB func272 rfl (Hq x n _ hx h1 h2) ?_
 rintro e _ ⟨rfl, ex⟩
 replace E := E.ext ex
 refine aU ?_
 refine hret rfl ?_
 exact ⟨rfl, E⟩
theorem yU (w : World) : Ct 255 #[] w fun e w' => e = .returned (.agg (aN .u64 Lng.H0)) ∧ Ext w w' := by
 refine aH (s := 8) 2 func255 rfl rfl rfl underlying294 rfl Kr rfl ?_
 intro _ hret
 refine aU ?_
 intro w1 g1 (B1 : ao _ _ _ (aN .u64 (ka 8))) Vw ex
 have E1 := ex
 refine au 4 ?_
 refine ak (aq rfl (cells := aN .u64 Lng.H0) Kr) ?_
 refine ag (ah rfl rfl Kr B1 rfl (cO _ _)) rfl ?_
 rintro _ _ ⟨rfl, B2, cg⟩
 have E2 := E1.aE cg Vw
 refine aU ?_
 refine hret rfl B2 (by rw [bf]; rfl) ?_
 exact ⟨rfl, E2⟩
set_option maxRecDepth 100000 in
theorem yw (w : World) : Ct 256 #[] w fun e w' => e = .returned (.agg (aN .u64 Lng.K)) ∧ Ext w w' := by
 refine aH (s := 80) 2 func256 rfl rfl rfl underlying296 rfl Kr rfl ?_
 intro _ hret
 refine aU ?_
 intro w1 g1 (B1 : ao _ _ _ (aN .u64 (ka 80))) Vw ex
 have E1 := ex
 refine au 4 ?_
 refine ak (aq rfl (cells := aN .u64 Lng.K) Kr) ?_
 refine ag (ah rfl rfl Kr B1 rfl (cO _ _)) rfl ?_
 rintro _ _ ⟨rfl, B2, cg⟩
 have E2 := E1.aE cg Vw
 refine aU ?_
 refine hret rfl B2 (by rw [bf]; rfl) ?_
 exact ⟨rfl, E2⟩
theorem iV (z : Int) : IntKind.u64.wrap z = z % 18446744073709551616 := rfl
theorem sh (a b c : Nat) (ha : a < 18446744073709551616) (hb : b < 18446744073709551616) (hc : c < 18446744073709551616) : bits .xor .u64 (bits .xor .u64 (a : Int) (b : Int)) (c : Int) = (((a ^^^ b) ^^^ c : Nat) : Int) := by
 rw [u64_xor_nat _ _ ha hb, u64_xor_nat _ _ (Lng.gu ha hb) hc]
theorem pC (l r : List Nat) {j : Nat} (h : j < l.length) : (aN .u64 (l ++ r))[0 + j]? = some (.int .u64 ((l.getD j 0 : Nat) : Int)) := by
 rw [Nat.zero_add, dw .u64 (l ++ r) j (by rw [List.length_append]; omega)]
 have e : (l ++ r).getD j 0 = l.getD j 0 := by rw [List.getD_eq_getElem?_getD, List.getElem?_append_left h, List.getD_eq_getElem?_getD]
 rw [e]
theorem yH (l r : List Nat) (x : Nat) {j : Nat} (h : j = l.length) : (aN .u64 (l ++ x :: r))[0 + j]? = some (.int .u64 ((x : Nat) : Int)) := by
 subst h
 rw [Nat.zero_add, dw .u64 (l ++ x :: r) _ (by rw [List.length_append, List.length_cons]; omega)]
 congr 4
 simp
theorem AF (l r : List Nat) (x y : Nat) {j : Nat} (h : j = l.length) : (aN .u64 (l ++ x :: r)).setIfInBounds (0 + j) (.int .u64 ((y : Nat) : Int)) = aN .u64 (l ++ y :: r) := by
 subst h
 rw [Nat.zero_add, fC]
 congr 1
 simp
theorem NP {n k : Nat} (h : k < n) : List.replicate (n - k) 0 = 0 :: List.replicate (n - 1 - k) 0 := by
 rw [show n - k = (n - 1 - k) + 1 from by omega, List.replicate_succ]
theorem Qh (a b : Nat) (ha : 256 * a + b < 18446744073709551616) (hb : b < 256) : bits .or .u64 ((a * 2 ^ 8 % 18446744073709551616 : Nat) : Int) ((b : Nat) : Int) = ((256 * a + b : Nat) : Int) := by
 rw [u64_or_nat _ _ (Nat.mod_lt _ Om) Om, Nat.mod_eq_of_lt Om]
 congr 1
 rw [nat_join 8 _ b Om Om]; omega
theorem ET (xs : Lb) (t i : Nat) (h : i < 8) (hl : 8 * t + 8 ≤ xs.length) : ((xs.drop (8 * t)).take 8).getD i 0 = xs.getD (8 * t + i) 0 := by
 simp [List.getD_eq_getElem?_getD, List.getElem?_take, List.getElem?_drop, h]
theorem zL (A : Oa) (c : Nat) (xs : Lb) (w : World) (HA : Bs w A 128 xs) (hc : 128 ≤ c) (VB : c ≤ 9223372036854775807) :
  Ct 268 #[.slice A 128 c] w fun e w' => e = .returned (.agg (aN .u64 (Lng.words xs))) ∧ Ext w w' := by
 have hxl := HA.1
 refine aH (s := 80) 78 func268 rfl rfl rfl underlying296 rfl Kr rfl ?_
 intro _ hret
 refine au 2 ?_
 refine ag (cw (Z := aN .u64 (ka 80)) Kr) rfl ?_
 rintro _ _ ⟨g2, rfl, B2, VF, ex⟩
 have E1 := ex
 refine au 4 ?_
 refine ag (cw (Z := aN .u64 (ka 80)) Kr) rfl ?_
 rintro _ _ ⟨g3, rfl, B3, VC, ex⟩
 have E2 := E1.ext ex; have C2 := B2.ext ex; have Vw := Nat.le_trans E1.size VC; have hne : g2 < g3 := Nat.lt_of_lt_of_le B2.lt VC
 refine au 9 ?_
 refine az (fun n' L wr => ∃ t : Nat, L = [(0, .slice A 128 c), (2, .pointer (some ⟨g2, 0, none⟩)), (3, .pointer (some ⟨g3, 0, none⟩)), (10, .int .i64 (t : Int))] ∧ n' = 16 - t ∧ (t ≤ 16 ∧ Ext w wr ∧ ao wr g2 296 (aN .u64 (ka 80)) ∧ ao wr g3 296 (aN .u64 (Lng.ix xs t ++ List.replicate (80 - t) 0)))) _ _ ⟨0, rfl, rfl, by omega, E2, C2, B3⟩ Ls ?_
 rintro _ n' L wr ⟨t, rfl, rfl, ht, E, C2, D3⟩ VG
 refine au 2 ?_
 refine ak (dA rfl rfl) ?_
 refine au 3 ?_
 refine al rfl (fun VH => ?_) (fun VH => ?_)
 ·refine au 14 ?_
  refine ak (cD rfl rfl (bj (n := 8 * t) Om Om)) ?_
  refine au 1 ?_
  refine ak (cD rfl rfl (bj (n := 8 * t) Om Om)) ?_
  refine ak (aO rfl rfl (bj (n := 8 * t + 8) Om Om)) ?_
  refine ak (tH (s := 1) rfl rfl rfl Tn.u Kr (j := 8 * t) (h := 8 * t + 8) rfl rfl Om Om) ?_
  refine ak (Y.as (oE rfl Tn.u) (congrArg (Value.int .i64) (show (((8 * t + 8 - 8 * t : Nat)) : Int) = 8 from by omega))) ?_
  refine au 4 ?_
  refine az (fun n' L wq => ∃ i : Nat, L = [(0, .slice A 128 c), (2, .pointer (some ⟨g2, 0, none⟩)), (3, .pointer (some ⟨g3, 0, none⟩)), (4, .int .i64 (t : Int)), (10, .int .i64 (t : Int)), (19, .slice (j6 A c (8 * t) 1) (8 * t + 8 - 8 * t) (c - 8 * t)), (20, .int .i64 8), (21, .int .i64 (i : Int))] ∧ n' = 8 - i ∧ (i ≤ 8 ∧ Ext w wq ∧ ao wq g2 296 (aN .u64 (ka 80)) ∧ ao wq g3 296 (aN .u64 (Lng.ix xs t ++ Lng.pre xs t i :: List.replicate (79 - t) 0)))) _ _ ⟨0, rfl, rfl, by omega, E, C2, (by rw [NP Om] at D3; exact D3)⟩ Ls ?_
  rintro _ n' L wq ⟨i, rfl, rfl, _, F, C2, D3⟩ VI
  refine au 2 ?_
  refine ak (dA rfl rfl) ?_
  refine au 3 ?_
  refine al rfl (fun VB => ?_) (fun VB => ?_)
  ·have HW := ((HA.wk F).j6 (j := 8 * t) Om hc).take (k := 8) Om
   obtain ⟨b, off, x, hAc, hx, hcell⟩ := HW.byte (k := i) Om
   have VJ := x.toNat_lt
   have hxe : x = xs.getD (8 * t + i) 0 := by rw [hx.out, ET xs t i Om Om]
   have hpl := Lng.tA xs t i
   have hpp : 256 ^ i ≤ 72057594037927936 := Nat.pow_le_pow_right (n := 256) Om (show i ≤ 7 by omega)
   have hwl := Lng.ey xs t
   refine au 6 ?_
   refine ak (aw (show some (Value.slice (j6 A c (8 * t) 1) (8 * t + 8 - 8 * t) (c - 8 * t)) = some (Value.slice (some ⟨b, off, none⟩) (8 * t + 8 - 8 * t) (c - 8 * t)) from by rw [hAc]) rfl Tn.u Kr rfl Om) ?_
   refine ak (af rfl Tn.u rfl hcell) ?_
   refine au 6 ?_
   refine ak (bG rfl rfl Tn.u Kr rfl Om) ?_
   refine ak (af rfl Tn.u rfl (D3.get (yH _ _ _ hwl.symm))) ?_
   refine ak (fk rfl rfl Om (LD _ 8 Om)) ?_
   refine au 1 ?_
   refine ak (bg rfl Tn.u Tn.u (IntWalk.u64_in _ ⟨by omega, by omega⟩)) ?_
   refine ak (iH rfl rfl (Qh _ _ Om Om)) ?_
   refine ak (bG rfl rfl Tn.u Kr rfl Om) ?_
   refine ag (av rfl rfl rfl Kr D3 (Array.getElem?_eq_some_iff.1 (yH _ _ _ hwl.symm)).1) rfl ?_
   rintro _ w5 ⟨rfl, B5, cg⟩
   rw [AF _ _ _ _ hwl.symm] at B5; have F5 := F.aE cg Vw; have G2 := C2.aE cg Om
   refine au 4 ?_
   refine ak (aO rfl rfl (bc Om Om)) ?_
   refine au 2 ?_
   refine ae ?_
   refine VI _ _ ⟨i + 1, rfl, rfl, by omega, F5, G2, (by rw [Lng.pre, ← hxe]; exact B5)⟩ Om Ls
  ·obtain rfl : i = 8 := by omega
   refine au 7 ?_
   refine ak (aO rfl rfl (bc Om Om)) ?_
   refine au 2 ?_
   refine ae ?_
   refine VG _ _ ⟨t + 1, rfl, rfl, by omega, F, C2, (by show ao _ _ _ (aN .u64 ((Lng.ix xs t ++ [Lng.PV xs t]) ++ _)); rw [List.append_assoc, show 80 - (t + 1) = 79 - t from by omega]; exact D3)⟩ Om Ls
 ·obtain rfl : t = 16 := by omega
  refine au 12 ?_
  refine az (fun n' L wr => ∃ t : Nat, L = [(2, .pointer (some ⟨g2, 0, none⟩)), (3, .pointer (some ⟨g3, 0, none⟩)), (7, .int .i64 (t : Int))] ∧ n' = 80 - t ∧ (16 ≤ t ∧ t ≤ 80 ∧ Ext w wr ∧ ao wr g2 296 (aN .u64 (ka 80)) ∧ ao wr g3 296 (aN .u64 (Lng.wt xs t ++ List.replicate (80 - t) 0)))) _ _ ⟨16, rfl, rfl, by omega, by omega, E, C2, D3⟩ Ls ?_
  rintro _ n' L wr ⟨t, rfl, rfl, VK, ht, E, C2, D3⟩ VL
  refine au 4 ?_
  refine ak (dA rfl rfl) ?_
  refine au 2 ?_
  refine al rfl (fun VM => ?_) (fun VM => ?_)
  ·refine au 5 ?_
   have hwl := Lng.BJ xs t
   have hlt : ∀ j, (Lng.wt xs t).getD j 0 < 18446744073709551616 := Lng.fV (Lng.Eo xs t)
   obtain ⟨Vx, Vz⟩ : ∃ v, v = (Lng.wt xs t).getD (t - 15) 0 := ⟨_, rfl⟩
   obtain ⟨v2, e2⟩ : ∃ v, v = (Lng.wt xs t).getD (t - 2) 0 := ⟨_, rfl⟩
   obtain ⟨v7, e7⟩ : ∃ v, v = (Lng.wt xs t).getD (t - 7) 0 := ⟨_, rfl⟩
   obtain ⟨VD, VA⟩ : ∃ v, v = (Lng.wt xs t).getD (t - 16) 0 := ⟨_, rfl⟩
   have Vy := hlt (t - 15); have l2 := hlt (t - 2); have l7 := hlt (t - 7); have VN := hlt (t - 16)
   rw [← Vz] at Vy; rw [← e2] at l2; rw [← e7] at l7; rw [← VA] at VN
   refine aC Kr 10 rfl ?_; intro VO ex VP
   obtain ⟨E,C2,D3⟩ := bC ex E C2 D3
   refine my 0 rfl (aQ rfl) ?_
   refine my 1 rfl (eS rfl rfl (bc Om Om)) ?_
   refine my 2 rfl (bG rfl rfl Tn.u Kr (j := t - 15) Om Om) ?_
   refine my 3 rfl (af rfl Tn.u rfl (D3.get (v := .int .u64 (Vx : Int)) (by rw [Vz]; exact pC _ _ Om))) ?_
   refine my 4 rfl (aQ rfl) ?_
   refine my 5 rfl (eS rfl rfl (bc Om Om)) ?_
   refine my 6 rfl (bG rfl rfl Tn.u Kr (j := t - 2) Om Om) ?_
   refine my 7 rfl (af rfl Tn.u rfl (D3.get (v := .int .u64 (v2 : Int)) (by rw [e2]; exact pC _ _ Om))) ?_
   refine my 8 rfl (eA rfl) ?_
   refine my 9 rfl (eA rfl) ?_
   refine nC Kr ?_
   refine au 2 ?_
   refine aC Kr 30 rfl ?_; intro VQ ex VR
   obtain ⟨E,C2,D3⟩ := bC ex E C2 D3
   refine dk 0 rfl (fun _ => aQ rfl) ?_
   refine dk 1 rfl (fun _ => aQ rfl) ?_
   refine dk 3 rfl (fun _ => aQ rfl) ?_
   refine dk 6 rfl (fun _ => aQ rfl) ?_
   refine dk 7 rfl (fun _ => bZ rfl rfl Om (wT v2 6 Om)) ?_
   refine dk 9 rfl (fun _ => aQ rfl) ?_
   refine dk 10 rfl (fun _ => eS rfl rfl (bc Om Om)) ?_
   refine dk 11 rfl (fun _ => bG rfl rfl Tn.u Kr (j := t - 7) Om Om) ?_
   refine my 12 rfl (af rfl Tn.u rfl (D3.get (v := .int .u64 (v7 : Int)) (by rw [e7]; exact pC _ _ Om))) ?_
   refine dk 14 rfl (fun _ => aQ rfl) ?_
   refine dk 16 rfl (fun _ => aQ rfl) ?_
   refine dk 19 rfl (fun _ => aQ rfl) ?_
   refine dk 20 rfl (fun _ => bZ rfl rfl Om (wT Vx 7 Om)) ?_
   refine dk 23 rfl (fun _ => aQ rfl) ?_
   refine dk 24 rfl (fun _ => eS rfl rfl (bc Om Om)) ?_
   refine dk 25 rfl (fun _ => bG rfl rfl Tn.u Kr (j := t - 16) Om Om) ?_
   refine my 26 rfl (af rfl Tn.u rfl (D3.get (v := .int .u64 (VD : Int)) (by rw [VA]; exact pC _ _ Om))) ?_
   refine bD 2 rfl func269 rfl (dx v2 19 _ l2 Om Om) ?_
   rintro e w9 ⟨rfl, ex⟩
   obtain ⟨E,C2,D3⟩ := bC ex E C2 D3
   refine au 1 ?_
   refine bD 4 rfl func269 rfl (dx v2 61 _ l2 Om Om) ?_
   rintro e w9 ⟨rfl, ex⟩
   obtain ⟨E,C2,D3⟩ := bC ex E C2 D3
   refine au 1 ?_
   refine dk 5 rfl (fun _ => bI rfl rfl rfl) ?_
   refine dk 8 rfl (fun _ => bI rfl rfl (sh _ _ _ (Lng.aZ l2 Om) (Lng.aZ l2 Om) Om)) ?_
   refine dk 13 rfl (fun _ => aO rfl rfl rfl) ?_
   refine bD 15 rfl func269 rfl (dx Vx 1 _ Vy Om Om) ?_
   rintro e w9 ⟨rfl, ex⟩
   obtain ⟨E,C2,D3⟩ := bC ex E C2 D3
   refine au 1 ?_
   refine bD 17 rfl func269 rfl (dx Vx 8 _ Vy Om Om) ?_
   rintro e w9 ⟨rfl, ex⟩
   obtain ⟨E,C2,D3⟩ := bC ex E C2 D3
   refine au 1 ?_
   refine dk 18 rfl (fun _ => bI rfl rfl rfl) ?_
   refine dk 21 rfl (fun _ => bI rfl rfl (sh _ _ _ (Lng.aZ Vy Om) (Lng.aZ Vy Om) Om)) ?_
   refine dk 22 rfl (fun _ => aO rfl rfl rfl) ?_
   refine dk 27 rfl (fun _ => Y.as (aO rfl rfl rfl) (congrArg (Value.int .u64) (show _ = (((Lng.s1 v2 + v7 + Lng.s0 Vx + VD) % 18446744073709551616 : Nat) : Int) from by rw [iV, iV, iV]; simp only [Lng.s1, Lng.s0, Nat.reducePow]; omega))) ?_
   refine dk 28 rfl (fun _ => bG rfl rfl Tn.u Kr rfl Om) ?_
   have VE := D3; rw [NP Om] at VE
   refine bk 29 Kr ?_; refine bH rfl (av rfl rfl rfl Kr VE (Array.getElem?_eq_some_iff.1 (yH _ _ _ hwl.symm)).1) rfl ?_
   rintro _ w5 ⟨rfl, B5, cg⟩
   refine ⟨.inl rfl, ?_⟩
   rw [AF _ _ _ _ hwl.symm] at B5; have F5 := E.aE cg Vw; have G2 := C2.aE cg Om
   refine nC Kr ?_
   refine au 5 ?_
   refine ak (aO rfl rfl (bc Om Om)) ?_
   refine au 2 ?_
   refine ae ?_
   refine VL _ _ ⟨t + 1, rfl, rfl, by omega, by omega, F5, G2, (by rw [Lng.ug VK, List.append_assoc, show 80 - (t + 1) = 80 - 1 - t from by omega]; unfold Lng.gQ; rw [show t - 16 + 14 = t - 2 from by omega, show t - 16 + 9 = t - 7 from by omega, show t - 16 + 1 = t - 15 from by omega, ← e2, ← e7, ← Vz, ← VA]; exact B5)⟩ Om Ls
  ·refine au 7 ?_
   obtain rfl : t = 80 := by omega
   have D4 : ao wr g3 296 (aN .u64 (Lng.words xs)) := by have := D3; rw [List.replicate_zero, List.append_nil, Lng.qD] at this; exact this
   refine ak (aY rfl Tn.u rfl Kr D4) ?_
   refine ag (ah rfl rfl (by rw [bf, Lng.cG]; kernel_rfl) C2 (by rw [bf, bf, Lng.cG]; rfl) (cO _ _)) rfl ?_
   rintro _ _ ⟨rfl, B8, cg⟩
   have G8 := E.aE cg VF
   refine au 3 ?_
   refine hret rfl B8 (by rw [bf, Lng.cG]) ?_
   exact ⟨rfl, G8⟩
end
section
open Go.RowKit Tryz
attribute [local irreducible] Y Ef WL WC WK WQ WM cE WN WF dc
theorem Ho (e f g : Nat) (he : e < 18446744073709551616) (hf : f < 18446744073709551616) (hg : g < 18446744073709551616) :
  bits .xor .u64 (bits .and .u64 (e : Int) (f : Int)) (bits .and .u64 (bits .xor .u64 IntKind.u64.max (e : Int)) (g : Int)) = ((Lng.ch e f g : Nat) : Int) := by
 have h1 : bits .xor .u64 IntKind.u64.max (e : Int) = ((18446744073709551615 - e : Nat) : Int) := by
  show bits .xor .u64 ((18446744073709551615 : Nat) : Int) (e : Int) = _
  rw [u64_xor_nat _ _ Om he]
  congr 1
  apply Nat.eq_of_testBit_eq
  intro i
  have h1 := Nat.testBit_two_pow_sub_succ (n := 64) he i
  have h2 := Nat.testBit_two_pow_sub_one 64 i
  rw [show (2 : Nat) ^ 64 - (e + 1) = 18446744073709551615 - e from by omega] at h1
  rw [show (2 : Nat) ^ 64 - 1 = 18446744073709551615 from rfl] at h2
  rw [Nat.testBit_xor, h1, h2]
  by_cases hi : i < 64
  ·simp [hi]
  ·have : e.testBit i = false := Nat.testBit_lt_two_pow (Nat.lt_of_lt_of_le he (Nat.pow_le_pow_right (n := 2) Om (by omega : 64 ≤ i)))
   simp [hi, this]
 rw [h1, u64_and_nat _ _ he hf, u64_and_nat _ _ Om hg, u64_xor_nat _ _ (Lng.eP he) (Lng.eP Om)]
 rfl
theorem BY (a b c : Nat) (ha : a < 18446744073709551616) (hb : b < 18446744073709551616) (hc : c < 18446744073709551616) :
  bits .xor .u64 (bits .xor .u64 (bits .and .u64 (a : Int) (b : Int)) (bits .and .u64 (a : Int) (c : Int))) (bits .and .u64 (b : Int) (c : Int)) = ((Lng.Bw a b c : Nat) : Int) := by
 rw [u64_and_nat _ _ ha hb, u64_and_nat _ _ ha hc, u64_and_nat _ _ hb hc, sh _ _ _ (Lng.eP ha) (Lng.eP ha) (Lng.eP hb)]
 rfl
theorem MO {s : Lng.S8} (h : s.ok) (i : Nat) : s.list.getD i 0 < 18446744073709551616 := by
 obtain ⟨h1, h2, h3, h4, h5, h6, h7, h8⟩ := h
 refine Lng.fV ?_ i
 simp only [Lng.S8.list, List.mem_cons, List.not_mem_nil, or_false]
 rintro _ (rfl | rfl | rfl | rfl | rfl | rfl | rfl | rfl) <;> assumption
theorem yD {a b c d e f g h kt wt : Nat} {x y : Int} (hx : x = (((d + Lng.T1 ⟨a, b, c, d, e, f, g, h⟩ kt wt) % 18446744073709551616 : Nat) : Int)) (hy : y = (((Lng.T1 ⟨a, b, c, d, e, f, g, h⟩ kt wt + Lng.T2 ⟨a, b, c, d, e, f, g, h⟩) % 18446744073709551616 : Nat) : Int)) :
  ((aN .u64 [a, a, b, c, d, e, f, g]).setIfInBounds 4 (.int .u64 x)).setIfInBounds 0 (.int .u64 y) = aN .u64 (Lng.xI ⟨a, b, c, d, e, f, g, h⟩ kt wt).list := by subst hx; subst hy; rfl
theorem jC (s : Lng.S8) : s.list.length = 8 := rfl
theorem xK (s : Lng.S8) (xs : Lb) : (Lng.step s xs).list = Lng.eW s.list (Lng.rounds (Lng.words xs) s 80).list 8 := by unfold Lng.step; exact Lng.qE _ _
theorem nA (l : List Nat) {j : Nat} (h : j < l.length) : (aN .u64 l)[0 + j]? = some (.int .u64 ((l.getD j 0 : Nat) : Int)) := by rw [Nat.zero_add]; exact dw _ _ _ h
theorem BS (A : Oa) (c : Nat) (xs : Lb) (s : Lng.S8) (w : World) (HA : Bs w A 128 xs) (hc : 128 ≤ c) (Vy : c ≤ 9223372036854775807) (hs : s.ok) :
  Ct 258 #[.agg (aN .u64 s.list), .agg (aN .u64 Lng.K), .slice A 128 c] w fun e w' => e = .returned (.agg (aN .u64 (Lng.step s xs).list)) ∧ Ext w w' := by
 have E := Ext.refl w
 refine aH (s := 8) 105 func258 rfl rfl rfl underlying294 rfl Kr rfl ?_
 intro _ hret
 refine aU ?_
 intro w1 g3 (B3 : ao _ _ _ (aN .u64 s.list)) Vz ex
 obtain ⟨E,HA⟩ := ba ex E HA
 have VJ := B3.lt
 refine aU ?_
 intro w2 g4 (B4 : ao _ _ _ (aN .u64 Lng.K)) VK ex
 obtain ⟨E,HA,B3⟩ := bC ex E HA B3
 have VL := B4.lt
 refine aU ?_
 intro w3 g6 (B6 : ao _ _ _ (aN .u64 (ka 8))) VM ex
 obtain ⟨E,HA,B3,B4⟩ := bO ex E HA B3 B4
 have VN := B6.lt
 refine aU ?_
 refine aB func268 rfl (zL A c xs _ HA hc Vy) ?_
 rintro e w4 ⟨rfl, ex⟩
 obtain ⟨E,B3,B4,B6⟩ := bO ex E B3 B4 B6
 have VO := ex.size
 have F := Ext.refl w4; have E0 := E; have J3 := B3; have J4 := B4; have J6 := B6
 refine aU ?_
 intro w5 g7 (B7 : ao _ _ _ (aN .u64 (ka 80))) VA ex
 replace F := F.ext ex
 refine ag (ah rfl rfl (by rw [bf, Lng.cG]; kernel_rfl) B7 (by rw [bf, bf, Lng.cG]; rfl) (cO _ _)) rfl ?_
 rintro _ w6 ⟨rfl, D7, cg⟩
 replace F := F.aE cg VA; replace E := E0.ext F; replace J3 := J3.ext F; replace J4 := J4.ext F; replace J6 := J6.ext F; have VP := F.size
 refine aU ?_
 intro w7 g8 (B8 : ao _ _ _ (aN .u64 (ka 8))) Vw ex
 have G := ex
 refine ag (ah rfl rfl (by rw [bf]; kernel_rfl) B8 (by rw [bf, bf]; rfl) (cO _ _)) rfl ?_
 rintro _ _ ⟨rfl, D8, cg⟩
 replace G := G.aE cg Vw
 refine aU ?_
 refine az (fun n' L wr => ∃ t : Nat, L = [(3, .pointer (some ⟨g3, 0, none⟩)), (4, .pointer (some ⟨g4, 0, none⟩)), (6, .pointer (some ⟨g6, 0, none⟩)), (7, .pointer (some ⟨g7, 0, none⟩)), (8, .pointer (some ⟨g8, 0, none⟩)), (18, .int .i64 (t : Int))] ∧ n' = 80 - t ∧ (t ≤ 80 ∧ Ext w6 wr ∧ ao wr g8 294 (aN .u64 (Lng.rounds (Lng.words xs) s t).list))) _ _ ⟨0, rfl, rfl, by omega, G, D8⟩ Ls ?_
 rintro _ n' L wr ⟨t, rfl, rfl, _, G, D8⟩ VB
 refine aU ?_
 refine al rfl (fun VC => ?_) (fun VC => ?_)
 ·obtain ⟨R, hR⟩ : ∃ R, R = Lng.rounds (Lng.words xs) s t := ⟨_, rfl⟩
  have hok : R.ok := by rw [hR]; exact Lng.gO _ hs _
  rw [← hR] at D8
  obtain ⟨a, b, cc, d, e, f, gg, hh⟩ := R
  obtain ⟨la, lb, lc, ld, le, lf, lg, lh⟩ := hok
  refine aU ?_
  refine aC Kr 6 rfl ?_; intro VQ ex VR
  obtain ⟨G,D8⟩ := ba ex G D8
  refine my 0 rfl (bG rfl rfl Tn.u Kr (j := 0) rfl Om) ?_
  refine zm [1] ?_
  refine my 2 rfl (bG rfl rfl Tn.u Kr (j := 4) rfl Om) ?_
  refine zm [3, 4, 5] ?_
  obtain ⟨kt, hkt⟩ : ∃ q, q = Lng.K.getD t 0 := ⟨_, rfl⟩
  obtain ⟨wt, hwt⟩ : ∃ q, q = (Lng.words xs).getD t 0 := ⟨_, rfl⟩
  obtain ⟨T, hT⟩ : ∃ T, T = Lng.T1 ⟨a, b, cc, d, e, f, gg, hh⟩ kt wt := ⟨_, rfl⟩
  obtain ⟨U, hU⟩ : ∃ T, T = Lng.T2 ⟨a, b, cc, d, e, f, gg, hh⟩ := ⟨_, rfl⟩
  refine aC Kr 31 rfl ?_; intro VS ex VT
  obtain ⟨G,D8⟩ := ba ex G D8
  refine my 0 rfl (bG rfl rfl Tn.u Kr (j := 7) rfl Om) ?_
  refine zm [1, 2, 4, 7, 11] ?_
  refine my 12 rfl (bG rfl rfl Tn.u Kr (j := 5) rfl Om) ?_
  refine zm [13] ?_
  refine my 14 rfl (cM rfl rfl rfl) ?_
  refine zm [15] ?_
  refine my 16 rfl (Gp rfl rfl rfl) ?_
  refine my 17 rfl (bG rfl rfl Tn.u Kr (j := 6) rfl Om) ?_
  refine zm [18] ?_
  refine my 19 rfl (cM rfl rfl rfl) ?_
  refine my 20 rfl (bI rfl rfl (Ho e f gg le lf lg)) ?_
  refine zm [22, 23] ?_
  refine my 24 rfl (af rfl Tn.u rfl ((J4.ext G).get (v := .int .u64 (kt : Nat)) (by rw [hkt]; exact nA _ (by show t < 80; omega)))) ?_
  refine zm [26, 27] ?_
  refine my 28 rfl (af rfl Tn.u rfl ((D7.ext G).get (v := .int .u64 (wt : Nat)) (by rw [hwt]; exact nA _ (by rw [Lng.cG]; omega)))) ?_
  refine bD 3 rfl func269 rfl (dx e 14 _ le Om Om) ?_
  rintro e w9 ⟨rfl, ex⟩
  obtain ⟨G,D8⟩ := ba ex G D8
  refine aU ?_
  refine bD 5 rfl func269 rfl (dx e 18 _ le Om Om) ?_
  rintro e w9 ⟨rfl, ex⟩
  obtain ⟨G,D8⟩ := ba ex G D8
  refine aU ?_
  refine my 6 rfl (bI rfl rfl rfl) ?_
  refine bD 8 rfl func269 rfl (dx e 41 _ le Om Om) ?_
  rintro e w9 ⟨rfl, ex⟩
  obtain ⟨G,D8⟩ := ba ex G D8
  refine aU ?_
  refine my 9 rfl (bI rfl rfl (sh _ _ _ (Lng.aZ le Om) (Lng.aZ le Om) (Lng.aZ le Om))) ?_
  refine my 10 rfl (aO rfl rfl rfl) ?_
  refine my 21 rfl (aO rfl rfl rfl) ?_
  refine my 25 rfl (aO rfl rfl rfl) ?_
  refine my 29 rfl (Y.as (aO rfl rfl rfl) (congrArg (Value.int .u64) (show _ = ((T % 18446744073709551616 : Nat) : Int) from by rw [iV, iV, iV, iV, hT]; simp only [Lng.T1, Lng.S1]; omega))) ?_
  refine zm [30] ?_
  refine aC Kr 25 rfl ?_; intro VU ex VV
  obtain ⟨G,D8⟩ := ba ex G D8
  refine zm [0, 2, 5, 8] ?_
  refine my 9 rfl (bG rfl rfl Tn.u Kr (j := 1) rfl Om) ?_
  refine zm [10] ?_
  refine my 11 rfl (cM rfl rfl rfl) ?_
  refine zm [12] ?_
  refine my 13 rfl (bG rfl rfl Tn.u Kr (j := 2) rfl Om) ?_
  refine zm [14] ?_
  refine my 15 rfl (cM rfl rfl rfl) ?_
  refine my 16 rfl (bI rfl rfl rfl) ?_
  refine my 17 rfl (bG rfl rfl Tn.u Kr (j := 1) rfl Om) ?_
  refine zm [18] ?_
  refine my 19 rfl (bG rfl rfl Tn.u Kr (j := 2) rfl Om) ?_
  refine zm [20] ?_
  refine my 21 rfl (cM rfl rfl rfl) ?_
  refine my 22 rfl (bI rfl rfl (BY a b cc la lb lc)) ?_
  refine bD 1 rfl func269 rfl (dx a 28 _ la Om Om) ?_
  rintro e w9 ⟨rfl, ex⟩
  obtain ⟨G,D8⟩ := ba ex G D8
  refine aU ?_
  refine bD 3 rfl func269 rfl (dx a 34 _ la Om Om) ?_
  rintro e w9 ⟨rfl, ex⟩
  obtain ⟨G,D8⟩ := ba ex G D8
  refine aU ?_
  refine my 4 rfl (bI rfl rfl rfl) ?_
  refine bD 6 rfl func269 rfl (dx a 39 _ la Om Om) ?_
  rintro e w9 ⟨rfl, ex⟩
  obtain ⟨G,D8⟩ := ba ex G D8
  refine aU ?_
  refine my 7 rfl (bI rfl rfl (sh _ _ _ (Lng.aZ la Om) (Lng.aZ la Om) (Lng.aZ la Om))) ?_
  refine my 23 rfl (Y.as (aO rfl rfl rfl) (congrArg (Value.int .u64) (show _ = ((U % 18446744073709551616 : Nat) : Int) from by rw [iV, hU]; simp only [Lng.T2, Lng.S0]; omega))) ?_
  refine zm [24] ?_
  refine aC Kr 3 rfl ?_; intro VW ex VX
  obtain ⟨G,D8⟩ := ba ex G D8
  refine dk 0 rfl (fun _ => Cs (s := 1) rfl rfl Tn.u Kr (j := 1) rfl Om) ?_
  refine dk 1 rfl (fun _ => Cq (s := 1) rfl rfl Tn.u Kr (j := 7) rfl Om) ?_
  refine bk 2 Kr ?_; refine bH rfl (fT rfl rfl Tn.u Kr D8 (D8.at 0 _ (ve .u64 [a, b, cc, d, e, f, gg] [hh])) rfl (Nat.le_refl 8) mb) rfl ?_
  rintro _ _ ⟨rfl, F8, cg⟩
  refine ⟨.inl rfl, ?_⟩
  replace G := G.aE cg Vw
  refine au 5 ?_
  refine ak (bG rfl rfl Tn.u Kr (j := 4) rfl Om) ?_
  refine au 2 ?_
  refine ak (aO rfl rfl rfl) ?_
  refine ak (bG rfl rfl Tn.u Kr (j := 4) rfl Om) ?_
  refine ag (av rfl rfl rfl Kr F8 (by show 4 < 8; omega)) rfl ?_
  rintro _ _ ⟨rfl, H8, cg⟩
  replace G := G.aE cg Vw
  refine au 5 ?_
  refine ak (aO rfl rfl rfl) ?_
  refine ak (bG rfl rfl Tn.u Kr (j := 0) rfl Om) ?_
  refine ag (av rfl rfl rfl Kr H8 (by show 0 < 8; omega)) rfl ?_
  rintro _ VD ⟨rfl, I8, cg⟩
  replace G := G.aE cg Vw
  refine au 7 ?_
  refine ae ?_
  have e1 : Lng.rounds (Lng.words xs) s (t + 1) = Lng.xI ⟨a, b, cc, d, e, f, gg, hh⟩ kt wt := by rw [hkt, hwt]; show Lng.xI (Lng.rounds (Lng.words xs) s t) _ _ = _; rw [← hR]
  have I9 : ao VD g8 294 (aN .u64 (Lng.rounds (Lng.words xs) s (t + 1)).list) := by
   rw [e1]; exact I8.congr (yD (by rw [iV, ← hT]; omega) (by rw [iV, ← hT, ← hU]; omega))
  refine VB _ _ ⟨t + 1, rfl, rfl, by omega, G, I9⟩ Om Ls
 ·obtain rfl : t = 80 := by omega
  obtain ⟨m, hm⟩ : ∃ m, m = (Lng.rounds (Lng.words xs) s 80).list := ⟨_, rfl⟩
  have Vx : s.list.length = m.length := by rw [hm, jC, jC]
  have VE := jC s
  have okl := MO hs
  have hfin : (Lng.step s xs).list = Lng.eW s.list m 8 := by rw [hm]; exact xK s xs
  rw [← hm] at D8
  have C3 := J3.ext G; have C6 := J6.ext G; replace E := E.ext G
  obtain ⟨l, hl⟩ : ∃ l, l = s.list := ⟨_, rfl⟩
  rw [← hl] at C3 okl VE Vx hfin
  refine aU ?_
  refine az (fun n' L wx => ∃ k : Nat, L = [(3, .pointer (some ⟨g3, 0, none⟩)), (6, .pointer (some ⟨g6, 0, none⟩)), (8, .pointer (some ⟨g8, 0, none⟩)), (92, .int .i64 (k : Int))] ∧ n' = 8 - k ∧ (k ≤ 8 ∧ Ext w wx ∧ ao wx g3 294 (aN .u64 (Lng.eW l m k)) ∧ ao wx g6 294 (aN .u64 (ka 8)) ∧ ao wx g8 294 (aN .u64 m))) _ _ ⟨0, rfl, rfl, by omega, E, (by rw [Lng.lB]; exact C3), C6, D8⟩ Ls ?_
  rintro _ n' L wx ⟨k, rfl, rfl, _, E, C3, C6, D8⟩ VF
  refine aU ?_
  refine al rfl (fun Vy => ?_) (fun Vy => ?_)
  ·refine aU ?_
   obtain ⟨p, hp⟩ : ∃ p, p = l.getD k 0 := ⟨_, rfl⟩
   obtain ⟨q, hq⟩ : ∃ q, q = m.getD k 0 := ⟨_, rfl⟩
   have hkl : k < l.length := by omega
   have hml := Lng.kJ Vx (k := k) Om
   have x1 : (aN .u64 (Lng.eW l m k))[0 + k]? = some (.int .u64 (p : Nat)) := by rw [nA _ Om, Lng.ni Vx hkl, hp]
   have x2 : (aN .u64 m)[0 + k]? = some (.int .u64 (q : Nat)) := by rw [nA _ Om, hq]
   refine aC Kr 9 rfl ?_; intro VG ex VH
   obtain ⟨E,C3,C6,D8⟩ := bO ex E C3 C6 D8
   refine zm [0, 1] ?_
   refine my 2 rfl (af rfl Tn.u rfl (C3.get x1)) ?_
   refine zm [3, 4] ?_
   refine my 5 rfl (af rfl Tn.u rfl (D8.get x2)) ?_
   refine dk 6 rfl (fun _ => Y.as (aO rfl rfl rfl) (congrArg (Value.int .u64) (show _ = (((p + q) % 18446744073709551616 : Nat) : Int) from by rw [iV]; omega))) ?_
   refine zm [7] ?_
   refine bk 8 Kr ?_; refine bH rfl (av rfl rfl rfl Kr C3 (Array.getElem?_eq_some_iff.1 x1).1) rfl ?_
   rintro _ _ ⟨rfl, C9, cg⟩
   refine ⟨.inl rfl, ?_⟩
   replace C6 := C6.aE cg Om; replace D8 := D8.aE cg Om; replace E := E.aE cg Vz; rw [Nat.zero_add, fC, hp, hq, Lng.mP Vx hkl] at C9
   refine au 8 ?_
   refine ae ?_
   refine VF _ _ ⟨k + 1, rfl, rfl, by omega, E, C9, C6, D8⟩ Om Ls
  ·obtain rfl : k = 8 := by omega
   rw [← hfin] at C3
   obtain ⟨S, hS⟩ : ∃ S, S = Lng.step s xs := ⟨_, rfl⟩
   rw [← hS] at C3
   refine au 8 ?_
   refine ag (ah rfl rfl (by rw [bf]; kernel_rfl) C6 (by rw [bf, bf]; rfl) (cO _ _)) rfl ?_
   rintro _ _ ⟨rfl, VI, cg⟩
   replace E := E.aE cg Om
   refine aU ?_
   refine hret rfl VI (by rw [bf]; rfl) ?_
   exact ⟨by rw [hS], E⟩
end
end Go.Proofs.YtgfafidlkldeaaaGreat
