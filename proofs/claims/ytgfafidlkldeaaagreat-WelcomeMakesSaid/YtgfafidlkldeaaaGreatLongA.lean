/- The long digest: turns, constants, words of a block. The long digest: a block goes into a state. -/
import Derived.Test.YtgfafidlkldeaaaGreatBigC
import Derived.Test.YtgfafidlkldeaaaGreatAu
set_option linter.unusedVariables false
set_option linter.unusedSimpArgs false
set_option maxHeartbeats 4000000
set_option maxRecDepth 4000
namespace Go.Proofs.YtgfafidlkldeaaaGreat
section
open Go.RowKit Tryz
attribute [local irreducible] Y Ef WL WC WK WQ WM cx WN WF cT
theorem Ld (n : Nat) (h1 : 1 ≤ n) (h2 : n ≤ 63) : bits .and .u64 ((18446744073709551616 - n : Nat) : Int) 63 = ((64 - n : Nat) : Int) := by
 have h := u64_and_nat (18446744073709551616 - n) 63 Om Om
 rw [show ((63 : Nat) : Int) = 63 from rfl] at h
 rw [h, show (63 : Nat) = 2 ^ 6 - 1 from rfl, Nat.and_two_pow_sub_one_eq_mod]
 congr 1
 omega
theorem Iw (k : Nat) (h : k ≤ 64) : min ((k : Int)).toNat IntKind.u64.bits = k := by show min k 64 = k; omega
theorem Il (x k : Nat) (h : k ≤ 64) : IntKind.u64.wrap ((x : Int) * 2 ^ (min ((k : Int)).toNat IntKind.u64.bits)) = ((x * 2 ^ k % 18446744073709551616 : Nat) : Int) := by
 rw [Iw k h]
 show ((x : Int) * 2 ^ k) % 18446744073709551616 = _
 rw [Int.natCast_emod, Int.natCast_mul, Int.natCast_pow]; rfl
theorem uo (x k : Nat) (h : k ≤ 64) : (x : Int) / 2 ^ (min ((k : Int)).toNat IntKind.u64.bits) = ((x / 2 ^ k : Nat) : Int) := by
 rw [Iw k h, Int.natCast_ediv, Int.natCast_pow]; rfl
theorem CA (x n : Nat) (w : World) (hx : x < 18446744073709551616) (h1 : 1 ≤ n) (h2 : n ≤ 63) :
  Ct 272 #[.int .u64 (x : Int), .int .i64 (-(n : Int))] w fun e w' => e = .returned (.int .u64 ((Lng.cv x n : Nat) : Int)) ∧ Ext w w' := by
 have E := Ext.refl w
 refine aj 17 func272 rfl rfl rfl rfl ?_
 intro _ hret
 refine au 8 ?_
 refine ak (bg rfl Tn.u Tn.u (show IntKind.u64.wrap (-(n : Int)) = ((18446744073709551616 - n : Nat) : Int) from by show (-(n : Int)) % 18446744073709551616 = _; omega)) ?_
 refine ak (cD rfl rfl (Ld n h1 h2)) ?_
 refine au 7 ?_
 refine ak (eP rfl rfl Om (Il x (64 - n) Om)) ?_
 refine au 2 ?_
 refine ak (eK rfl rfl (aE (n := n) Om Om)) ?_
 refine ak (bY rfl rfl Om (uo x n Om)) ?_
 refine ak (jk rfl rfl (show _ = ((Lng.cv x n : Nat) : Int) from by rw [u64_or_nat _ _ (Nat.mod_lt _ Om) (Nat.lt_of_le_of_lt (Nat.div_le_self _ _) hx), Lng.rN hx Om])) ?_
 refine aU ?_
 refine hret rfl ?_
 exact ⟨rfl, E⟩
theorem dg (x n : Nat) (w : World) (hx : x < 18446744073709551616) (h1 : 1 ≤ n) (h2 : n ≤ 63) :
  Ct 269 #[.int .u64 (x : Int), .int .i64 (n : Int)] w fun e w' => e = .returned (.int .u64 ((Lng.cv x n : Nat) : Int)) ∧ Ext w w' := by
 have E := Ext.refl w
 refine aj 9 func269 rfl rfl rfl rfl ?_
 intro _ hret
 refine au 9 ?_
 refine ak (Be rfl (show IntKind.i64.wrap (0 - (n : Int)) = -(n : Int) from by rw [br Om Om]; omega)) ?_
 refine aL func272 rfl (CA x n _ hx h1 h2) ?_
 rintro e _ ⟨rfl, ex⟩
 replace E := E.ext ex
 refine aU ?_
 refine hret rfl ?_
 exact ⟨rfl, E⟩
theorem xq (w : World) : Ct 255 #[] w fun e w' => e = .returned (.agg (aK .u64 Lng.H0)) ∧ Ext w w' := by
 refine aI (s := 8) 2 func255 rfl rfl rfl underlying294 rfl Kr rfl ?_
 intro _ hret
 refine aU ?_
 intro w1 g1 (B1 : ao _ _ _ (aK .u64 (ji 8))) Vl ex
 have E1 := ex
 refine au 4 ?_
 refine ak (aJ rfl (cells := aK .u64 Lng.H0) Kr) ?_
 refine af (ag rfl rfl Kr B1 rfl (cF _ _)) rfl ?_
 rintro _ _ ⟨rfl, B2, cg⟩
 have E2 := E1.aw cg Vl
 refine aU ?_
 refine hret rfl B2 (by rw [bc]; rfl) ?_
 exact ⟨rfl, E2⟩
set_option maxRecDepth 100000 in
theorem vw (w : World) : Ct 256 #[] w fun e w' => e = .returned (.agg (aK .u64 Lng.K)) ∧ Ext w w' := by
 refine aI (s := 80) 2 func256 rfl rfl rfl underlying296 rfl Kr rfl ?_
 intro _ hret
 refine aU ?_
 intro w1 g1 (B1 : ao _ _ _ (aK .u64 (ji 80))) Vl ex
 have E1 := ex
 refine au 4 ?_
 refine ak (aJ rfl (cells := aK .u64 Lng.K) Kr) ?_
 refine af (ag rfl rfl Kr B1 rfl (cF _ _)) rfl ?_
 rintro _ _ ⟨rfl, B2, cg⟩
 have E2 := E1.aw cg Vl
 refine aU ?_
 refine hret rfl B2 (by rw [bc]; rfl) ?_
 exact ⟨rfl, E2⟩
theorem ig (z : Int) : IntKind.u64.wrap z = z % 18446744073709551616 := rfl
theorem rF (a b c : Nat) (ha : a < 18446744073709551616) (hb : b < 18446744073709551616) (hc : c < 18446744073709551616) : bits .xor .u64 (bits .xor .u64 (a : Int) (b : Int)) (c : Int) = (((a ^^^ b) ^^^ c : Nat) : Int) := by
 rw [u64_xor_nat _ _ ha hb, u64_xor_nat _ _ (Lng.fP ha hb) hc]
theorem oc (l r : List Nat) {j : Nat} (h : j < l.length) : (aK .u64 (l ++ r))[0 + j]? = some (.int .u64 ((l.getD j 0 : Nat) : Int)) := by
 rw [Nat.zero_add, de .u64 (l ++ r) j (by rw [List.length_append]; omega)]
 have e : (l ++ r).getD j 0 = l.getD j 0 := by rw [List.getD_eq_getElem?_getD, List.getElem?_append_left h, List.getD_eq_getElem?_getD]
 rw [e]
theorem vq (l r : List Nat) (x : Nat) {j : Nat} (h : j = l.length) : (aK .u64 (l ++ x :: r))[0 + j]? = some (.int .u64 ((x : Nat) : Int)) := by
 subst h
 rw [Nat.zero_add, de .u64 (l ++ x :: r) _ (by rw [List.length_append, List.length_cons]; omega)]
 congr 4
 simp
theorem ya (l r : List Nat) (x y : Nat) {j : Nat} (h : j = l.length) : (aK .u64 (l ++ x :: r)).setIfInBounds (0 + j) (.int .u64 ((y : Nat) : Int)) = aK .u64 (l ++ y :: r) := by
 subst h
 rw [Nat.zero_add, eS]
 congr 1
 simp
theorem Ml {n k : Nat} (h : k < n) : List.replicate (n - k) 0 = 0 :: List.replicate (n - 1 - k) 0 := by
 rw [show n - k = (n - 1 - k) + 1 from by omega, List.replicate_succ]
theorem MY (a b : Nat) (ha : 256 * a + b < 18446744073709551616) (hb : b < 256) : bits .or .u64 ((a * 2 ^ 8 % 18446744073709551616 : Nat) : Int) ((b : Nat) : Int) = ((256 * a + b : Nat) : Int) := by
 rw [u64_or_nat _ _ (Nat.mod_lt _ Om) Om, Nat.mod_eq_of_lt Om]
 congr 1
 rw [nat_join 8 _ b Om Om]; omega
theorem DK (xs : Lb) (t i : Nat) (h : i < 8) (hl : 8 * t + 8 ≤ xs.length) : ((xs.drop (8 * t)).take 8).getD i 0 = xs.getD (8 * t + i) 0 := by
 simp [List.getD_eq_getElem?_getD, List.getElem?_take, List.getElem?_drop, h]
theorem wF (A : Oa) (c : Nat) (xs : Lb) (w : World) (HA : Bs w A 128 xs) (hc : 128 ≤ c) (Vq : c ≤ 9223372036854775807) :
  Ct 268 #[.slice A 128 c] w fun e w' => e = .returned (.agg (aK .u64 (Lng.words xs))) ∧ Ext w w' := by
 have hxl := HA.1
 refine aI (s := 80) 78 func268 rfl rfl rfl underlying296 rfl Kr rfl ?_
 intro _ hret
 refine au 2 ?_
 refine af (dL (Z := aK .u64 (ji 80)) Kr) rfl ?_
 rintro _ _ ⟨g2, rfl, B2, Vu, ex⟩
 have E1 := ex
 refine au 4 ?_
 refine af (dL (Z := aK .u64 (ji 80)) Kr) rfl ?_
 rintro _ _ ⟨g3, rfl, B3, Vr, ex⟩
 have E2 := E1.ext ex; have C2 := B2.ext ex; have Vl := Nat.le_trans E1.size Vr; have hne : g2 < g3 := Nat.lt_of_lt_of_le B2.lt Vr
 refine au 9 ?_
 refine aF (fun n' L wr => ∃ t : Nat, L = [(0, .slice A 128 c), (2, .pointer (some ⟨g2, 0, none⟩)), (3, .pointer (some ⟨g3, 0, none⟩)), (10, .int .i64 (t : Int))] ∧ n' = 16 - t ∧ (t ≤ 16 ∧ Ext w wr ∧ ao wr g2 296 (aK .u64 (ji 80)) ∧ ao wr g3 296 (aK .u64 (Lng.gU xs t ++ List.replicate (80 - t) 0)))) _ _ ⟨0, rfl, rfl, by omega, E2, C2, B3⟩ Ls ?_
 rintro _ n' L wr ⟨t, rfl, rfl, ht, E, C2, D3⟩ Vv
 refine au 2 ?_
 refine ak (dU rfl rfl) ?_
 refine au 3 ?_
 refine al rfl (fun Vw => ?_) (fun Vw => ?_)
 ·refine au 14 ?_
  refine ak (cz rfl rfl (bk (n := 8 * t) Om Om)) ?_
  refine au 1 ?_
  refine ak (cz rfl rfl (bk (n := 8 * t) Om Om)) ?_
  refine ak (aN rfl rfl (bk (n := 8 * t + 8) Om Om)) ?_
  refine ak (xI (s := 1) rfl rfl rfl Tn.u Kr (j := 8 * t) (h := 8 * t + 8) rfl rfl Om Om) ?_
  refine ak (Y.as (nw rfl Tn.u) (congrArg (Value.int .i64) (show (((8 * t + 8 - 8 * t : Nat)) : Int) = 8 from by omega))) ?_
  refine au 4 ?_
  refine aF (fun n' L wq => ∃ i : Nat, L = [(0, .slice A 128 c), (2, .pointer (some ⟨g2, 0, none⟩)), (3, .pointer (some ⟨g3, 0, none⟩)), (4, .int .i64 (t : Int)), (10, .int .i64 (t : Int)), (19, .slice (kK A c (8 * t) 1) (8 * t + 8 - 8 * t) (c - 8 * t)), (20, .int .i64 8), (21, .int .i64 (i : Int))] ∧ n' = 8 - i ∧ (i ≤ 8 ∧ Ext w wq ∧ ao wq g2 296 (aK .u64 (ji 80)) ∧ ao wq g3 296 (aK .u64 (Lng.gU xs t ++ Lng.pre xs t i :: List.replicate (79 - t) 0)))) _ _ ⟨0, rfl, rfl, by omega, E, C2, (by rw [Ml Om] at D3; exact D3)⟩ Ls ?_
  rintro _ n' L wq ⟨i, rfl, rfl, _, F, C2, D3⟩ Vx
  refine au 2 ?_
  refine ak (dU rfl rfl) ?_
  refine au 3 ?_
  refine al rfl (fun Vq => ?_) (fun Vq => ?_)
  ·have HW := ((HA.wk F).kK (j := 8 * t) Om hc).take (k := 8) Om
   obtain ⟨b, off, x, hAc, hx, hcell⟩ := HW.byte (k := i) Om
   have Vy := x.toNat_lt
   have hxe : x = xs.getD (8 * t + i) 0 := by rw [hx.out, DK xs t i Om Om]
   have hpl := Lng.sI xs t i
   have hpp : 256 ^ i ≤ 72057594037927936 := Nat.pow_le_pow_right (n := 256) Om (show i ≤ 7 by omega)
   have hwl := Lng.dM xs t
   refine au 6 ?_
   refine ak (aD (show some (Value.slice (kK A c (8 * t) 1) (8 * t + 8 - 8 * t) (c - 8 * t)) = some (Value.slice (some ⟨b, off, none⟩) (8 * t + 8 - 8 * t) (c - 8 * t)) from by rw [hAc]) rfl Tn.u Kr rfl Om) ?_
   refine ak (ah rfl Tn.u rfl hcell) ?_
   refine au 6 ?_
   refine ak (bG rfl rfl Tn.u Kr rfl Om) ?_
   refine ak (ah rfl Tn.u rfl (D3.get (vq _ _ _ hwl.symm))) ?_
   refine ak (eP rfl rfl Om (Il _ 8 Om)) ?_
   refine au 1 ?_
   refine ak (bg rfl Tn.u Tn.u (IntWalk.u64_in _ ⟨by omega, by omega⟩)) ?_
   refine ak (jk rfl rfl (MY _ _ Om Om)) ?_
   refine ak (bG rfl rfl Tn.u Kr rfl Om) ?_
   refine af (az rfl rfl rfl Kr D3 (Array.getElem?_eq_some_iff.1 (vq _ _ _ hwl.symm)).1) rfl ?_
   rintro _ w5 ⟨rfl, B5, cg⟩
   rw [ya _ _ _ _ hwl.symm] at B5; have F5 := F.aw cg Vl; have G2 := C2.aw cg Om
   refine au 4 ?_
   refine ak (aN rfl rfl (br Om Om)) ?_
   refine au 2 ?_
   refine ae ?_
   refine Vx _ _ ⟨i + 1, rfl, rfl, by omega, F5, G2, (by rw [Lng.pre, ← hxe]; exact B5)⟩ Om Ls
  ·obtain rfl : i = 8 := by omega
   refine au 7 ?_
   refine ak (aN rfl rfl (br Om Om)) ?_
   refine au 2 ?_
   refine ae ?_
   refine Vv _ _ ⟨t + 1, rfl, rfl, by omega, F, C2, (by show ao _ _ _ (aK .u64 ((Lng.gU xs t ++ [Lng.Nz xs t]) ++ _)); rw [List.append_assoc, show 80 - (t + 1) = 79 - t from by omega]; exact D3)⟩ Om Ls
 ·obtain rfl : t = 16 := by omega
  refine au 12 ?_
  refine aF (fun n' L wr => ∃ t : Nat, L = [(2, .pointer (some ⟨g2, 0, none⟩)), (3, .pointer (some ⟨g3, 0, none⟩)), (7, .int .i64 (t : Int))] ∧ n' = 80 - t ∧ (16 ≤ t ∧ t ≤ 80 ∧ Ext w wr ∧ ao wr g2 296 (aK .u64 (ji 80)) ∧ ao wr g3 296 (aK .u64 (Lng.wt xs t ++ List.replicate (80 - t) 0)))) _ _ ⟨16, rfl, rfl, by omega, by omega, E, C2, D3⟩ Ls ?_
  rintro _ n' L wr ⟨t, rfl, rfl, Vz, ht, E, C2, D3⟩ VA
  refine au 4 ?_
  refine ak (dU rfl rfl) ?_
  refine au 2 ?_
  refine al rfl (fun VB => ?_) (fun VB => ?_)
  ·refine au 5 ?_
   have hwl := Lng.zo xs t
   have hlt : ∀ j, (Lng.wt xs t).getD j 0 < 18446744073709551616 := Lng.fB (Lng.Ce xs t)
   obtain ⟨Vm, Vo⟩ : ∃ v, v = (Lng.wt xs t).getD (t - 15) 0 := ⟨_, rfl⟩
   obtain ⟨v2, e2⟩ : ∃ v, v = (Lng.wt xs t).getD (t - 2) 0 := ⟨_, rfl⟩
   obtain ⟨v7, e7⟩ : ∃ v, v = (Lng.wt xs t).getD (t - 7) 0 := ⟨_, rfl⟩
   obtain ⟨Vs, Vp⟩ : ∃ v, v = (Lng.wt xs t).getD (t - 16) 0 := ⟨_, rfl⟩
   have Vn := hlt (t - 15); have l2 := hlt (t - 2); have l7 := hlt (t - 7); have VC := hlt (t - 16)
   rw [← Vo] at Vn; rw [← e2] at l2; rw [← e7] at l7; rw [← Vp] at VC
   refine aA Kr 10 rfl ?_; intro VD ex VE
   obtain ⟨E,C2,D3⟩ := bC ex E C2 D3
   refine my 0 rfl (bj rfl) ?_
   refine my 1 rfl (eK rfl rfl (br Om Om)) ?_
   refine my 2 rfl (bG rfl rfl Tn.u Kr (j := t - 15) Om Om) ?_
   refine my 3 rfl (ah rfl Tn.u rfl (D3.get (v := .int .u64 (Vm : Int)) (by rw [Vo]; exact oc _ _ Om))) ?_
   refine my 4 rfl (bj rfl) ?_
   refine my 5 rfl (eK rfl rfl (br Om Om)) ?_
   refine my 6 rfl (bG rfl rfl Tn.u Kr (j := t - 2) Om Om) ?_
   refine my 7 rfl (ah rfl Tn.u rfl (D3.get (v := .int .u64 (v2 : Int)) (by rw [e2]; exact oc _ _ Om))) ?_
   refine my 8 rfl (gC rfl) ?_
   refine my 9 rfl (gC rfl) ?_
   refine nQ Kr ?_
   refine au 2 ?_
   refine aA Kr 30 rfl ?_; intro VF ex VG
   obtain ⟨E,C2,D3⟩ := bC ex E C2 D3
   refine cU 0 rfl (fun _ => bj rfl) ?_
   refine cU 1 rfl (fun _ => bj rfl) ?_
   refine cU 3 rfl (fun _ => bj rfl) ?_
   refine cU 6 rfl (fun _ => bj rfl) ?_
   refine cU 7 rfl (fun _ => bY rfl rfl Om (uo v2 6 Om)) ?_
   refine cU 9 rfl (fun _ => bj rfl) ?_
   refine cU 10 rfl (fun _ => eK rfl rfl (br Om Om)) ?_
   refine cU 11 rfl (fun _ => bG rfl rfl Tn.u Kr (j := t - 7) Om Om) ?_
   refine my 12 rfl (ah rfl Tn.u rfl (D3.get (v := .int .u64 (v7 : Int)) (by rw [e7]; exact oc _ _ Om))) ?_
   refine cU 14 rfl (fun _ => bj rfl) ?_
   refine cU 16 rfl (fun _ => bj rfl) ?_
   refine cU 19 rfl (fun _ => bj rfl) ?_
   refine cU 20 rfl (fun _ => bY rfl rfl Om (uo Vm 7 Om)) ?_
   refine cU 23 rfl (fun _ => bj rfl) ?_
   refine cU 24 rfl (fun _ => eK rfl rfl (br Om Om)) ?_
   refine cU 25 rfl (fun _ => bG rfl rfl Tn.u Kr (j := t - 16) Om Om) ?_
   refine my 26 rfl (ah rfl Tn.u rfl (D3.get (v := .int .u64 (Vs : Int)) (by rw [Vp]; exact oc _ _ Om))) ?_
   refine bm 2 rfl func269 rfl (dg v2 19 _ l2 Om Om) ?_
   rintro e w9 ⟨rfl, ex⟩
   obtain ⟨E,C2,D3⟩ := bC ex E C2 D3
   refine au 1 ?_
   refine bm 4 rfl func269 rfl (dg v2 61 _ l2 Om Om) ?_
   rintro e w9 ⟨rfl, ex⟩
   obtain ⟨E,C2,D3⟩ := bC ex E C2 D3
   refine au 1 ?_
   refine cU 5 rfl (fun _ => bJ rfl rfl rfl) ?_
   refine cU 8 rfl (fun _ => bJ rfl rfl (rF _ _ _ (Lng.ba l2 Om) (Lng.ba l2 Om) Om)) ?_
   refine cU 13 rfl (fun _ => aN rfl rfl rfl) ?_
   refine bm 15 rfl func269 rfl (dg Vm 1 _ Vn Om Om) ?_
   rintro e w9 ⟨rfl, ex⟩
   obtain ⟨E,C2,D3⟩ := bC ex E C2 D3
   refine au 1 ?_
   refine bm 17 rfl func269 rfl (dg Vm 8 _ Vn Om Om) ?_
   rintro e w9 ⟨rfl, ex⟩
   obtain ⟨E,C2,D3⟩ := bC ex E C2 D3
   refine au 1 ?_
   refine cU 18 rfl (fun _ => bJ rfl rfl rfl) ?_
   refine cU 21 rfl (fun _ => bJ rfl rfl (rF _ _ _ (Lng.ba Vn Om) (Lng.ba Vn Om) Om)) ?_
   refine cU 22 rfl (fun _ => aN rfl rfl rfl) ?_
   refine cU 27 rfl (fun _ => Y.as (aN rfl rfl rfl) (congrArg (Value.int .u64) (show _ = (((Lng.s1 v2 + v7 + Lng.s0 Vm + Vs) % 18446744073709551616 : Nat) : Int) from by rw [ig, ig, ig]; simp only [Lng.s1, Lng.s0, Nat.reducePow]; omega))) ?_
   refine cU 28 rfl (fun _ => bG rfl rfl Tn.u Kr rfl Om) ?_
   have Vt := D3; rw [Ml Om] at Vt
   refine aM 29 Kr ?_; refine aO rfl (az rfl rfl rfl Kr Vt (Array.getElem?_eq_some_iff.1 (vq _ _ _ hwl.symm)).1) rfl ?_
   rintro _ w5 ⟨rfl, B5, cg⟩
   refine ⟨.inl rfl, ?_⟩
   rw [ya _ _ _ _ hwl.symm] at B5; have F5 := E.aw cg Vl; have G2 := C2.aw cg Om
   refine nQ Kr ?_
   refine au 5 ?_
   refine ak (aN rfl rfl (br Om Om)) ?_
   refine au 2 ?_
   refine ae ?_
   refine VA _ _ ⟨t + 1, rfl, rfl, by omega, by omega, F5, G2, (by rw [Lng.rV Vz, List.append_assoc, show 80 - (t + 1) = 80 - 1 - t from by omega]; unfold Lng.gF; rw [show t - 16 + 14 = t - 2 from by omega, show t - 16 + 9 = t - 7 from by omega, show t - 16 + 1 = t - 15 from by omega, ← e2, ← e7, ← Vo, ← Vp]; exact B5)⟩ Om Ls
  ·refine au 7 ?_
   obtain rfl : t = 80 := by omega
   have D4 : ao wr g3 296 (aK .u64 (Lng.words xs)) := by have := D3; rw [List.replicate_zero, List.append_nil, Lng.oF] at this; exact this
   refine ak (aV rfl Tn.u rfl Kr D4) ?_
   refine af (ag rfl rfl (by rw [bc, Lng.cn]; kernel_rfl) C2 (by rw [bc, bc, Lng.cn]; rfl) (cF _ _)) rfl ?_
   rintro _ _ ⟨rfl, B8, cg⟩
   have G8 := E.aw cg Vu
   refine au 3 ?_
   refine hret rfl B8 (by rw [bc, Lng.cn]) ?_
   exact ⟨rfl, G8⟩
end
section
open Go.RowKit Tryz
attribute [local irreducible] Y Ef WL WC WK WQ WM cx WN WF cT
theorem DI (e f g : Nat) (he : e < 18446744073709551616) (hf : f < 18446744073709551616) (hg : g < 18446744073709551616) :
  bits .xor .u64 (bits .and .u64 (e : Int) (f : Int)) (bits .and .u64 (bits .xor .u64 IntKind.u64.max (e : Int)) (g : Int)) = ((Lng.ch e f g : Nat) : Int) := by
 have h1 : bits .xor .u64 IntKind.u64.max (e : Int) = ((18446744073709551615 - e : Nat) : Int) := by
  show bits .xor .u64 ((18446744073709551615 : Nat) : Int) (e : Int) = _
  rw [u64_xor_nat _ _ Om he]
  congr 1
  apply Nat.eq_of_testBit_eq
  intro i
  have h1 := Nat.testBit_two_pow_sub_succ (n := 64) he i
  have h2 := Nat.testBit_two_pow_sub_one 64 i
  rw [show (2 : Nat) ^ 64 - (e + 1) = 18446744073709551615 - e from by omega] at h1
  rw [show (2 : Nat) ^ 64 - 1 = 18446744073709551615 from rfl] at h2
  rw [Nat.testBit_xor, h1, h2]
  by_cases hi : i < 64
  ·simp [hi]
  ·have : e.testBit i = false := Nat.testBit_lt_two_pow (Nat.lt_of_lt_of_le he (Nat.pow_le_pow_right (n := 2) Om (by omega : 64 ≤ i)))
   simp [hi, this]
 rw [h1, u64_and_nat _ _ he hf, u64_and_nat _ _ Om hg, u64_xor_nat _ _ (Lng.dW he) (Lng.dW Om)]
 rfl
theorem yS (a b c : Nat) (ha : a < 18446744073709551616) (hb : b < 18446744073709551616) (hc : c < 18446744073709551616) :
  bits .xor .u64 (bits .xor .u64 (bits .and .u64 (a : Int) (b : Int)) (bits .and .u64 (a : Int) (c : Int))) (bits .and .u64 (b : Int) (c : Int)) = ((Lng.zP a b c : Nat) : Int) := by
 rw [u64_and_nat _ _ ha hb, u64_and_nat _ _ ha hc, u64_and_nat _ _ hb hc, rF _ _ _ (Lng.dW ha) (Lng.dW ha) (Lng.dW hb)]
 rfl
theorem IN {s : Lng.S8} (h : s.ok) (i : Nat) : s.list.getD i 0 < 18446744073709551616 := by
 obtain ⟨h1, h2, h3, h4, h5, h6, h7, h8⟩ := h
 refine Lng.fB ?_ i
 simp only [Lng.S8.list, List.mem_cons, List.not_mem_nil, or_false]
 rintro _ (rfl | rfl | rfl | rfl | rfl | rfl | rfl | rfl) <;> assumption
theorem vT {a b c d e f g h kt wt : Nat} {x y : Int} (hx : x = (((d + Lng.T1 ⟨a, b, c, d, e, f, g, h⟩ kt wt) % 18446744073709551616 : Nat) : Int)) (hy : y = (((Lng.T1 ⟨a, b, c, d, e, f, g, h⟩ kt wt + Lng.T2 ⟨a, b, c, d, e, f, g, h⟩) % 18446744073709551616 : Nat) : Int)) :
  ((aK .u64 [a, a, b, c, d, e, f, g]).setIfInBounds 4 (.int .u64 x)).setIfInBounds 0 (.int .u64 y) = aK .u64 (Lng.vp ⟨a, b, c, d, e, f, g, h⟩ kt wt).list := by subst hx; subst hy; rfl
theorem iZ (s : Lng.S8) : s.list.length = 8 := rfl
theorem vx (s : Lng.S8) (xs : Lb) : (Lng.step s xs).list = Lng.eB s.list (Lng.rounds (Lng.words xs) s 80).list 8 := by unfold Lng.step; exact Lng.po _ _
theorem lZ (l : List Nat) {j : Nat} (h : j < l.length) : (aK .u64 l)[0 + j]? = some (.int .u64 ((l.getD j 0 : Nat) : Int)) := by rw [Nat.zero_add]; exact de _ _ _ h
theorem zK (A : Oa) (c : Nat) (xs : Lb) (s : Lng.S8) (w : World) (HA : Bs w A 128 xs) (hc : 128 ≤ c) (Vn : c ≤ 9223372036854775807) (hs : s.ok) :
  Ct 258 #[.agg (aK .u64 s.list), .agg (aK .u64 Lng.K), .slice A 128 c] w fun e w' => e = .returned (.agg (aK .u64 (Lng.step s xs).list)) ∧ Ext w w' := by
 have E := Ext.refl w
 refine aI (s := 8) 105 func258 rfl rfl rfl underlying294 rfl Kr rfl ?_
 intro _ hret
 refine aU ?_
 intro w1 g3 (B3 : ao _ _ _ (aK .u64 s.list)) Vo ex
 obtain ⟨E,HA⟩ := aY ex E HA
 have Vy := B3.lt
 refine aU ?_
 intro w2 g4 (B4 : ao _ _ _ (aK .u64 Lng.K)) Vz ex
 obtain ⟨E,HA,B3⟩ := bC ex E HA B3
 have VA := B4.lt
 refine aU ?_
 intro w3 g6 (B6 : ao _ _ _ (aK .u64 (ji 8))) VB ex
 obtain ⟨E,HA,B3,B4⟩ := bU ex E HA B3 B4
 have VC := B6.lt
 refine aU ?_
 refine aL func268 rfl (wF A c xs _ HA hc Vn) ?_
 rintro e w4 ⟨rfl, ex⟩
 obtain ⟨E,B3,B4,B6⟩ := bU ex E B3 B4 B6
 have VD := ex.size
 have F := Ext.refl w4; have E0 := E; have J3 := B3; have J4 := B4; have J6 := B6
 refine aU ?_
 intro w5 g7 (B7 : ao _ _ _ (aK .u64 (ji 80))) Vp ex
 replace F := F.ext ex
 refine af (ag rfl rfl (by rw [bc, Lng.cn]; kernel_rfl) B7 (by rw [bc, bc, Lng.cn]; rfl) (cF _ _)) rfl ?_
 rintro _ w6 ⟨rfl, D7, cg⟩
 replace F := F.aw cg Vp; replace E := E0.ext F; replace J3 := J3.ext F; replace J4 := J4.ext F; replace J6 := J6.ext F; have VE := F.size
 refine aU ?_
 intro w7 g8 (B8 : ao _ _ _ (aK .u64 (ji 8))) Vl ex
 have G := ex
 refine af (ag rfl rfl (by rw [bc]; kernel_rfl) B8 (by rw [bc, bc]; rfl) (cF _ _)) rfl ?_
 rintro _ _ ⟨rfl, D8, cg⟩
 replace G := G.aw cg Vl
 refine aU ?_
 refine aF (fun n' L wr => ∃ t : Nat, L = [(3, .pointer (some ⟨g3, 0, none⟩)), (4, .pointer (some ⟨g4, 0, none⟩)), (6, .pointer (some ⟨g6, 0, none⟩)), (7, .pointer (some ⟨g7, 0, none⟩)), (8, .pointer (some ⟨g8, 0, none⟩)), (18, .int .i64 (t : Int))] ∧ n' = 80 - t ∧ (t ≤ 80 ∧ Ext w6 wr ∧ ao wr g8 294 (aK .u64 (Lng.rounds (Lng.words xs) s t).list))) _ _ ⟨0, rfl, rfl, by omega, G, D8⟩ Ls ?_
 rintro _ n' L wr ⟨t, rfl, rfl, _, G, D8⟩ Vq
 refine aU ?_
 refine al rfl (fun Vr => ?_) (fun Vr => ?_)
 ·obtain ⟨R, hR⟩ : ∃ R, R = Lng.rounds (Lng.words xs) s t := ⟨_, rfl⟩
  have hok : R.ok := by rw [hR]; exact Lng.fZ _ hs _
  rw [← hR] at D8
  obtain ⟨a, b, cc, d, e, f, gg, hh⟩ := R
  obtain ⟨la, lb, lc, ld, le, lf, lg, lh⟩ := hok
  refine aU ?_
  refine aA Kr 6 rfl ?_; intro VF ex VG
  obtain ⟨G,D8⟩ := aY ex G D8
  refine my 0 rfl (bG rfl rfl Tn.u Kr (j := 0) rfl Om) ?_
  refine zm [1] ?_
  refine my 2 rfl (bG rfl rfl Tn.u Kr (j := 4) rfl Om) ?_
  refine zm [3, 4, 5] ?_
  obtain ⟨kt, hkt⟩ : ∃ q, q = Lng.K.getD t 0 := ⟨_, rfl⟩
  obtain ⟨wt, hwt⟩ : ∃ q, q = (Lng.words xs).getD t 0 := ⟨_, rfl⟩
  obtain ⟨T, hT⟩ : ∃ T, T = Lng.T1 ⟨a, b, cc, d, e, f, gg, hh⟩ kt wt := ⟨_, rfl⟩
  obtain ⟨U, hU⟩ : ∃ T, T = Lng.T2 ⟨a, b, cc, d, e, f, gg, hh⟩ := ⟨_, rfl⟩
  refine aA Kr 31 rfl ?_; intro VH ex VI
  obtain ⟨G,D8⟩ := aY ex G D8
  refine my 0 rfl (bG rfl rfl Tn.u Kr (j := 7) rfl Om) ?_
  refine zm [1, 2, 4, 7, 11] ?_
  refine my 12 rfl (bG rfl rfl Tn.u Kr (j := 5) rfl Om) ?_
  refine zm [13] ?_
  refine my 14 rfl (cD rfl rfl rfl) ?_
  refine zm [15] ?_
  refine my 16 rfl (BH rfl rfl rfl) ?_
  refine my 17 rfl (bG rfl rfl Tn.u Kr (j := 6) rfl Om) ?_
  refine zm [18] ?_
  refine my 19 rfl (cD rfl rfl rfl) ?_
  refine my 20 rfl (bJ rfl rfl (DI e f gg le lf lg)) ?_
  refine zm [22, 23] ?_
  refine my 24 rfl (ah rfl Tn.u rfl ((J4.ext G).get (v := .int .u64 (kt : Nat)) (by rw [hkt]; exact lZ _ (by show t < 80; omega)))) ?_
  refine zm [26, 27] ?_
  refine my 28 rfl (ah rfl Tn.u rfl ((D7.ext G).get (v := .int .u64 (wt : Nat)) (by rw [hwt]; exact lZ _ (by rw [Lng.cn]; omega)))) ?_
  refine bm 3 rfl func269 rfl (dg e 14 _ le Om Om) ?_
  rintro e w9 ⟨rfl, ex⟩
  obtain ⟨G,D8⟩ := aY ex G D8
  refine aU ?_
  refine bm 5 rfl func269 rfl (dg e 18 _ le Om Om) ?_
  rintro e w9 ⟨rfl, ex⟩
  obtain ⟨G,D8⟩ := aY ex G D8
  refine aU ?_
  refine my 6 rfl (bJ rfl rfl rfl) ?_
  refine bm 8 rfl func269 rfl (dg e 41 _ le Om Om) ?_
  rintro e w9 ⟨rfl, ex⟩
  obtain ⟨G,D8⟩ := aY ex G D8
  refine aU ?_
  refine my 9 rfl (bJ rfl rfl (rF _ _ _ (Lng.ba le Om) (Lng.ba le Om) (Lng.ba le Om))) ?_
  refine my 10 rfl (aN rfl rfl rfl) ?_
  refine my 21 rfl (aN rfl rfl rfl) ?_
  refine my 25 rfl (aN rfl rfl rfl) ?_
  refine my 29 rfl (Y.as (aN rfl rfl rfl) (congrArg (Value.int .u64) (show _ = ((T % 18446744073709551616 : Nat) : Int) from by rw [ig, ig, ig, ig, hT]; simp only [Lng.T1, Lng.S1]; omega))) ?_
  refine zm [30] ?_
  refine aA Kr 25 rfl ?_; intro VJ ex VK
  obtain ⟨G,D8⟩ := aY ex G D8
  refine zm [0, 2, 5, 8] ?_
  refine my 9 rfl (bG rfl rfl Tn.u Kr (j := 1) rfl Om) ?_
  refine zm [10] ?_
  refine my 11 rfl (cD rfl rfl rfl) ?_
  refine zm [12] ?_
  refine my 13 rfl (bG rfl rfl Tn.u Kr (j := 2) rfl Om) ?_
  refine zm [14] ?_
  refine my 15 rfl (cD rfl rfl rfl) ?_
  refine my 16 rfl (bJ rfl rfl rfl) ?_
  refine my 17 rfl (bG rfl rfl Tn.u Kr (j := 1) rfl Om) ?_
  refine zm [18] ?_
  refine my 19 rfl (bG rfl rfl Tn.u Kr (j := 2) rfl Om) ?_
  refine zm [20] ?_
  refine my 21 rfl (cD rfl rfl rfl) ?_
  refine my 22 rfl (bJ rfl rfl (yS a b cc la lb lc)) ?_
  refine bm 1 rfl func269 rfl (dg a 28 _ la Om Om) ?_
  rintro e w9 ⟨rfl, ex⟩
  obtain ⟨G,D8⟩ := aY ex G D8
  refine aU ?_
  refine bm 3 rfl func269 rfl (dg a 34 _ la Om Om) ?_
  rintro e w9 ⟨rfl, ex⟩
  obtain ⟨G,D8⟩ := aY ex G D8
  refine aU ?_
  refine my 4 rfl (bJ rfl rfl rfl) ?_
  refine bm 6 rfl func269 rfl (dg a 39 _ la Om Om) ?_
  rintro e w9 ⟨rfl, ex⟩
  obtain ⟨G,D8⟩ := aY ex G D8
  refine aU ?_
  refine my 7 rfl (bJ rfl rfl (rF _ _ _ (Lng.ba la Om) (Lng.ba la Om) (Lng.ba la Om))) ?_
  refine my 23 rfl (Y.as (aN rfl rfl rfl) (congrArg (Value.int .u64) (show _ = ((U % 18446744073709551616 : Nat) : Int) from by rw [ig, hU]; simp only [Lng.T2, Lng.S0]; omega))) ?_
  refine zm [24] ?_
  refine aA Kr 3 rfl ?_; intro VL ex VM
  obtain ⟨G,D8⟩ := aY ex G D8
  refine cU 0 rfl (fun _ => zl (s := 1) rfl rfl Tn.u Kr (j := 1) rfl Om) ?_
  refine cU 1 rfl (fun _ => zQ (s := 1) rfl rfl Tn.u Kr (j := 7) rfl Om) ?_
  refine aM 2 Kr ?_; refine aO rfl (fz rfl rfl Tn.u Kr D8 (D8.at 0 _ (uU .u64 [a, b, cc, d, e, f, gg] [hh])) rfl (Nat.le_refl 8) kO) rfl ?_
  rintro _ _ ⟨rfl, F8, cg⟩
  refine ⟨.inl rfl, ?_⟩
  replace G := G.aw cg Vl
  refine au 5 ?_
  refine ak (bG rfl rfl Tn.u Kr (j := 4) rfl Om) ?_
  refine au 2 ?_
  refine ak (aN rfl rfl rfl) ?_
  refine ak (bG rfl rfl Tn.u Kr (j := 4) rfl Om) ?_
  refine af (az rfl rfl rfl Kr F8 (by show 4 < 8; omega)) rfl ?_
  rintro _ _ ⟨rfl, H8, cg⟩
  replace G := G.aw cg Vl
  refine au 5 ?_
  refine ak (aN rfl rfl rfl) ?_
  refine ak (bG rfl rfl Tn.u Kr (j := 0) rfl Om) ?_
  refine af (az rfl rfl rfl Kr H8 (by show 0 < 8; omega)) rfl ?_
  rintro _ Vs ⟨rfl, I8, cg⟩
  replace G := G.aw cg Vl
  refine au 7 ?_
  refine ae ?_
  have e1 : Lng.rounds (Lng.words xs) s (t + 1) = Lng.vp ⟨a, b, cc, d, e, f, gg, hh⟩ kt wt := by rw [hkt, hwt]; show Lng.vp (Lng.rounds (Lng.words xs) s t) _ _ = _; rw [← hR]
  have I9 : ao Vs g8 294 (aK .u64 (Lng.rounds (Lng.words xs) s (t + 1)).list) := by
   rw [e1]; exact I8.congr (vT (by rw [ig, ← hT]; omega) (by rw [ig, ← hT, ← hU]; omega))
  refine Vq _ _ ⟨t + 1, rfl, rfl, by omega, G, I9⟩ Om Ls
 ·obtain rfl : t = 80 := by omega
  obtain ⟨m, hm⟩ : ∃ m, m = (Lng.rounds (Lng.words xs) s 80).list := ⟨_, rfl⟩
  have Vm : s.list.length = m.length := by rw [hm, iZ, iZ]
  have Vt := iZ s
  have okl := IN hs
  have hfin : (Lng.step s xs).list = Lng.eB s.list m 8 := by rw [hm]; exact vx s xs
  rw [← hm] at D8
  have C3 := J3.ext G; have C6 := J6.ext G; replace E := E.ext G
  obtain ⟨l, hl⟩ : ∃ l, l = s.list := ⟨_, rfl⟩
  rw [← hl] at C3 okl Vt Vm hfin
  refine aU ?_
  refine aF (fun n' L wx => ∃ k : Nat, L = [(3, .pointer (some ⟨g3, 0, none⟩)), (6, .pointer (some ⟨g6, 0, none⟩)), (8, .pointer (some ⟨g8, 0, none⟩)), (92, .int .i64 (k : Int))] ∧ n' = 8 - k ∧ (k ≤ 8 ∧ Ext w wx ∧ ao wx g3 294 (aK .u64 (Lng.eB l m k)) ∧ ao wx g6 294 (aK .u64 (ji 8)) ∧ ao wx g8 294 (aK .u64 m))) _ _ ⟨0, rfl, rfl, by omega, E, (by rw [Lng.jJ]; exact C3), C6, D8⟩ Ls ?_
  rintro _ n' L wx ⟨k, rfl, rfl, _, E, C3, C6, D8⟩ Vu
  refine aU ?_
  refine al rfl (fun Vn => ?_) (fun Vn => ?_)
  ·refine aU ?_
   obtain ⟨p, hp⟩ : ∃ p, p = l.getD k 0 := ⟨_, rfl⟩
   obtain ⟨q, hq⟩ : ∃ q, q = m.getD k 0 := ⟨_, rfl⟩
   have hkl : k < l.length := by omega
   have hml := Lng.jA Vm (k := k) Om
   have x1 : (aK .u64 (Lng.eB l m k))[0 + k]? = some (.int .u64 (p : Nat)) := by rw [lZ _ Om, Lng.lQ Vm hkl, hp]
   have x2 : (aK .u64 m)[0 + k]? = some (.int .u64 (q : Nat)) := by rw [lZ _ Om, hq]
   refine aA Kr 9 rfl ?_; intro Vv ex Vw
   obtain ⟨E,C3,C6,D8⟩ := bU ex E C3 C6 D8
   refine zm [0, 1] ?_
   refine my 2 rfl (ah rfl Tn.u rfl (C3.get x1)) ?_
   refine zm [3, 4] ?_
   refine my 5 rfl (ah rfl Tn.u rfl (D8.get x2)) ?_
   refine cU 6 rfl (fun _ => Y.as (aN rfl rfl rfl) (congrArg (Value.int .u64) (show _ = (((p + q) % 18446744073709551616 : Nat) : Int) from by rw [ig]; omega))) ?_
   refine zm [7] ?_
   refine aM 8 Kr ?_; refine aO rfl (az rfl rfl rfl Kr C3 (Array.getElem?_eq_some_iff.1 x1).1) rfl ?_
   rintro _ _ ⟨rfl, C9, cg⟩
   refine ⟨.inl rfl, ?_⟩
   replace C6 := C6.aw cg Om; replace D8 := D8.aw cg Om; replace E := E.aw cg Vo; rw [Nat.zero_add, eS, hp, hq, Lng.mo Vm hkl] at C9
   refine au 8 ?_
   refine ae ?_
   refine Vu _ _ ⟨k + 1, rfl, rfl, by omega, E, C9, C6, D8⟩ Om Ls
  ·obtain rfl : k = 8 := by omega
   rw [← hfin] at C3
   obtain ⟨S, hS⟩ : ∃ S, S = Lng.step s xs := ⟨_, rfl⟩
   rw [← hS] at C3
   refine au 8 ?_
   refine af (ag rfl rfl (by rw [bc]; kernel_rfl) C6 (by rw [bc, bc]; rfl) (cF _ _)) rfl ?_
   rintro _ _ ⟨rfl, Vx, cg⟩
   replace E := E.aw cg Om
   refine aU ?_
   refine hret rfl Vx (by rw [bc]; rfl) ?_
   exact ⟨by rw [hS], E⟩
end
end Go.Proofs.YtgfafidlkldeaaaGreat
