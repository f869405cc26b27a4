/- Scalars as the program holds them: of bytes, sums, turned about, products, bits. Scalars as the program holds them: exact ones, bytes of them, two the same. -/
import Derived.Test.YtgfafidlkldeaaaGreatScA
import Derived.Test.YtgfafidlkldeaaaGreatShaBits
import Derived.Test.YtgfafidlkldeaaaGreatFieldB
import Derived.Test.YtgfafidlkldeaaaGreatAu
set_option linter.unusedVariables false
set_option linter.unusedSimpArgs false
set_option maxHeartbeats 4000000
set_option maxRecDepth 4000
namespace Go.Proofs.YtgfafidlkldeaaaGreat
section
open Go.RowKit Tryz
section
attribute [local irreducible] Y Ef WL WC WK WQ WM cx WN WF cT
namespace Sc
open Fp
theorem yt : ∀ (xs : Lb) (j : Nat), (xs.getD j 0).toNat = num xs / 256 ^ j % 256
  | [], j => by simp [num]
  | x :: xs, 0 => by
    have := x.toNat_lt
    show x.toNat = (x.toNat + 256 * num xs) / 256 ^ 0 % 256
    rw [Nat.pow_zero, Nat.div_one]; omega
  | x :: xs, j + 1 => by
    have := x.toNat_lt
    show (xs.getD j 0).toNat = (x.toNat + 256 * num xs) / 256 ^ (j + 1) % 256
    rw [yt xs j, Nat.pow_succ, Nat.mul_comm (256 ^ j), ← Nat.div_div_eq_div_mul]
    congr 2; omega
theorem yP (N at_ k : Nat) (h : k < 8) : N / 256 ^ (at_ + (k + 1)) % 256 ^ (8 - (k + 1)) * 256 + N / 256 ^ (at_ + k) % 256 = N / 256 ^ (at_ + k) % 256 ^ (8 - k) := by
 rw [show 8 - k = (8 - (k + 1)) + 1 by omega, show at_ + (k + 1) = (at_ + k) + 1 by omega, Nat.pow_succ 256 (at_ + k), ← Nat.div_div_eq_div_mul]
 generalize N / 256 ^ (at_ + k) = x
 rw [Nat.pow_succ' (n := 8 - (k + 1)) (m := 256), Nat.mod_mul]
 omega
theorem GC (N q : Nat) : N / 256 ^ (8 * q + 0) % 256 ^ (8 - 0) = wd N q := by
 unfold wd
 rw [Nat.add_zero, Nat.pow_mul]; rfl
theorem Fk (m b : Nat) (hm : m < 72057594037927936) (hb : b < 256) : bits .or .u64 ((m * 256 : Nat) : Int) ((b : Nat) : Int) = ((m * 256 + b : Nat) : Int) := by
 have h3 := (cf (p := m * 256) (q := b) Om Om).2.1
 rw [h3]
 congr 1
 rw [Nat.mul_comm m, show (256 : Nat) = 2 ^ 8 from rfl, ← Nat.two_pow_add_eq_or_of_lt hb]
end Sc
theorem zO (A : Oa) (n c q : Nat) (xs : Lb) (w : World) (HA : Bs w A n xs) (hq : q ≤ 1000) (hn : n ≤ 1000000) :
  Ct 232 #[.slice A n c, .int .i64 ((8 * q : Nat) : Int)] w fun e w' => e = .returned (.int .u64 ((Sc.wd (Fp.num xs) q : Nat) : Int)) ∧ Ext w w' := by
 have hl := HA.1
 refine aj 29 func232 rfl rfl rfl rfl ?_
 intro _ hret
 refine aU ?_
 refine aF (fun n' L wr => ∃ (k m : Nat) (z : Int), L = [(0, .slice A n c), (1, .int .i64 ((8 * q : Nat) : Int)), (5, .int .u64 (m : Int)), (6, .int .i64 z)] ∧ n' = 1 + k ∧ (wr = w ∧ k ≤ 8 ∧ z = (k : Int) - 1 ∧ m = Fp.num xs / 256 ^ (8 * q + k) % 256 ^ (8 - k))) _ _ ⟨8, 0, 7, rfl, rfl, rfl, by omega, rfl, by simp [Nat.mod_one]⟩ Ls ?_
 rintro _ n' L wr ⟨k, m, z, rfl, rfl, rfl, _, _, hm⟩ Vl
 refine aU ?_
 refine al rfl (fun Vm => ?_) (fun Vm => ?_)
 ·obtain ⟨j, rfl⟩ : ∃ j, k = j + 1 := ⟨k - 1, by omega⟩
  have Vn : m < 72057594037927936 := by
   rw [hm]
   refine Nat.lt_of_lt_of_le (Nat.mod_lt _ (Nat.pow_pos Om)) ?_
   rw [show (72057594037927936 : Nat) = 256 ^ 7 from rfl]
   exact Nat.pow_le_pow_right Om Om
  have hdig := Sc.yt xs (8 * q + j)
  have hnx := Sc.yP (Fp.num xs) (8 * q) j Om
  rw [← hm] at hnx
  have hzj : z = (j : Int) := by omega
  subst hzj
  refine au 7 ?_
  refine ak (eP rfl rfl Om (show IntKind.u64.wrap ((m : Int) * 2 ^ min (8 : Int).toNat IntKind.u64.bits) = ((m * 256 : Nat) : Int) from aE (by rw [Int.natCast_mul]; rfl) Om)) ?_
  refine au 7 ?_
  refine ak (aN rfl rfl (bk (n := 8 * q + j) Om Om)) ?_
  refine aU ?_
  refine al rfl (fun Vo => ?_) (fun Vo => ?_)
  ·obtain ⟨b1, Vp, rfl, _, hcx⟩ := HA.get (k := 8 * q + j) Om
   have hxb := (xs.getD (8 * q + j) 0).toNat_lt
   refine au 5 ?_
   refine ak (aN rfl rfl (bk (n := 8 * q + j) Om Om)) ?_
   refine au 1 ?_
   refine ak (ah rfl Tn.u rfl hcx) ?_
   refine ak (bg rfl Tn.u Tn.u (show IntKind.u64.wrap (((xs.getD (8 * q + j) 0).toNat : Nat) : Int) = _ from aE rfl Om)) ?_
   refine ak (jk rfl rfl (Sc.Fk m _ Vn hxb)) ?_
   refine au 6 ?_
   refine ak (eK rfl rfl (show IntKind.i64.wrap ((j : Int) - 1) = (j : Int) - 1 from br Om Om)) ?_
   refine au 2 ?_
   refine ae ?_
   refine Vl _ _ ⟨j, m * 256 + (xs.getD (8 * q + j) 0).toNat, (j : Int) - 1, rfl, rfl, rfl, by omega, rfl, by rw [hdig, hnx]⟩ Om Ls
  ·refine au 3 ?_
   have h0 : xs.getD (8 * q + j) 0 = 0 := by rw [List.getD_eq_getElem?_getD, List.getElem?_eq_none Om]; rfl
   rw [h0] at hdig
   have h1 : Fp.num xs / 256 ^ (8 * q + j) % 256 = 0 := hdig.symm
   rw [h1, Nat.add_zero] at hnx
   refine au 2 ?_
   refine ak (eK rfl rfl (show IntKind.i64.wrap ((j : Int) - 1) = (j : Int) - 1 from br Om Om)) ?_
   refine au 2 ?_
   refine ae ?_
   refine Vl _ _ ⟨j, m * 256, (j : Int) - 1, rfl, rfl, rfl, by omega, rfl, hnx⟩ Om Ls
 ·refine aU ?_
  refine hret rfl ?_
  obtain rfl : k = 0 := by omega
  exact ⟨by rw [hm, Sc.GC], Ext.refl _⟩
theorem xT (n : Nat) (f : Nat → Nat) : Fp.fn (n + 1) f = Fp.fn n f ++ [f n] := by
 unfold Fp.fn; rw [List.range_succ, List.map_append]; rfl
theorem oE (A : Oa) (n c : Nat) (xs : Lb) (w : World) (HA : Bs w A n xs) (hc : n ≤ c) :
  Ct 193 #[.slice A n c] w fun e w' => e = .returned (.agg (ws (Sc.wd (Fp.num (xs.take 64) % Sc.L)))) ∧ Ext w w' := by
 have hl := HA.1
 have HT : Bs w A (min n 64) (xs.take 64) := by
  have h := HA.take (Nat.min_le_left n 64)
  have e : xs.take (min n 64) = xs.take 64 := by
   rcases Nat.le_total n 64 with h | h
   ·rw [Nat.min_eq_left h, List.take_of_length_le Om, List.take_of_length_le Om]
   ·rw [Nat.min_eq_right h]
  rwa [e] at h
 obtain ⟨k, hk⟩ : ∃ k, k = min n 64 := ⟨_, rfl⟩
 obtain ⟨N, hN⟩ : ∃ N, N = Fp.num (xs.take 64) := ⟨_, rfl⟩
 rw [← hk] at HT
 have hNl : N < 256 ^ k := by
  have := Fp.m6 (xs.take 64)
  rw [← hN, HT.1] at this
  exact this
 refine aI (s := 4) 24 func193 rfl rfl rfl underlying141 rfl Kr rfl ?_
 intro _ hret
 refine aU ?_
 intro w1 g2 (B2 : ao _ _ _ (ws z4)) Vl ex
 have E0 := ex
 refine au 7 ?_
 refine ak (Y.as (xY rfl rfl) (show Value.int .i64 _ = .int .i64 ((k : Nat) : Int) by congr 1; omega)) ?_
 refine ak (pn (s := 1) rfl rfl Tn.u Kr (j := k) rfl Om) ?_
 refine aU ?_
 refine aF (fun n' L wr => ∃ (i c3 : Nat) (A3 : Oa), L = [(0, .slice A k c), (2, .pointer (some ⟨g2, 0, none⟩)), (3, .slice A3 i c3), (4, .int .i64 ((8 * i : Nat) : Int))] ∧ n' = 64 + 8 - 8 * i ∧ (8 * i ≤ k + 7 ∧ Ext w1 wr ∧ Row wr w1.heap.size 38 A3 i c3 ((Fp.fn i (Sc.wd N)).map (iv .u64)))) _ _ ⟨0, 0, none, rfl, rfl, by omega, Ext.refl _, Row.empty _ _ _⟩ Ls ?_
 rintro _ n' L wr ⟨i, c3, A3, rfl, rfl, _, F, R⟩ Vm
 refine aU ?_
 refine al rfl (fun Vn => ?_) (fun Vn => ?_)
 ·refine aU ?_
  refine aL func232 rfl (zO A k c i (xs.take 64) _ (HT.ext (E0.ext F)) Om Om) ?_
  rintro e _ ⟨rfl, ex⟩
  refine au 1 ?_
  rw [← hN]; replace F := F.ext ex; replace R := R.ext ex
  refine af (aB (z := .int .u64 0) Tn.u Kr rfl rfl rfl rfl rfl) rfl ?_
  rintro _ _ ⟨_, rfl, B4, _, ex⟩
  replace F := F.ext ex; replace R := R.ext ex; have Vo := F.size
  refine af (aQ rfl rfl BZ R (At.fT (vs := [Sc.wd N i].map (iv .u64)) (B4.congr rfl)) rfl kO Om Om Vo) rfl ?_
  rintro _ _ ⟨A6, c6, rfl, R6, be, _, _⟩
  replace F := F.trans be
  refine au 6 ?_
  refine ak (aN rfl rfl (bk (n := 8 * (i + 1)) Om Om)) ?_
  refine au 2 ?_
  refine ae ?_
  refine Vm _ _ ⟨i + 1, c6, A6, rfl, rfl, by omega, F, R6.congr rfl (by rw [xT, List.map_append])⟩ Om Ls
 ·refine aU ?_
  refine aL func233 rfl (nv A3 i c3 N _ (Ns.kD R) (Nat.lt_of_lt_of_le hNl (Nat.le_trans (Nat.pow_le_pow_right Om (show k ≤ 8 * i by omega)) (Nat.le_of_eq (by rw [show (256 : Nat) = 2 ^ 8 from rfl, ← Nat.pow_mul]; congr 1; omega)))) Om) ?_
  rintro e _ ⟨rfl, ex⟩
  refine au 1 ?_
  replace F := F.ext ex; have D0 := B2.ext F; have E := E0.ext F
  refine af (ag rfl rfl (by rw [ar]; kernel_rfl) D0 (by rw [ar, ar]) (dp _)) rfl ?_
  rintro _ _ ⟨rfl, D2, cg⟩
  replace E := E.aw cg Vl
  refine aU ?_
  refine hret rfl D2 (ar _) ?_
  exact ⟨by rw [hN], E⟩
end
section
namespace Sc
theorem CH : ∀ (l : List Nat) (j : Nat), Wd.ok l → l.getD j 0 = wd (Wd.val l) j
  | [], j, _ => by simp [Wd.val, wd]
  | d :: ds, 0, h => by
    have h1 := (Wd.sr.1 h).1
    show d = (d + 18446744073709551616 * Wd.val ds) / W ^ 0 % W
    rw [Nat.pow_zero, Nat.div_one, show W = 18446744073709551616 from rfl]; omega
  | d :: ds, j + 1, h => by
    have h1 := (Wd.sr.1 h).1
    have h2 := CH ds j (Wd.sr.1 h).2
    show ds.getD j 0 = (d + 18446744073709551616 * Wd.val ds) / W ^ (j + 1) % W
    rw [h2, Nat.pow_succ, Nat.mul_comm (W ^ j), ← Nat.div_div_eq_div_mul]
    unfold wd
    congr 2
    rw [show W = 18446744073709551616 from rfl]; omega
theorem BE {l : List Nat} {n : Nat} (h : Wd.ok l) (hn : l.length = n) : l = Fp.fn n (wd (Wd.val l)) := by
 have h1 := Fp.Lu l
 rw [hn] at h1
 rw [h1]
 have h2 : Wd.val (Fp.fn n fun j => l.getD j 0) = Wd.val l := by rw [← h1]
 rw [h2]
 exact Fp.lX fun j _ => CH l j h
theorem Hy (n a : Nat) : Wd.ok (Fp.fn n (wd a)) := fun d hd => by
 unfold Fp.fn at hd
 obtain ⟨j, _, rfl⟩ := List.mem_map.1 hd
 exact rH a j
theorem Dh (a : Nat) : ∀ n, Wd.val (Fp.fn n (wd a)) = a % W ^ n
  | 0 => by simp [Fp.fn, Wd.val, Nat.mod_one]
  | n + 1 => by
    rw [xT, Wd.kG, Dh a n, Fp.dF, eo]
    simp [Wd.val, wd, W]
end Sc
attribute [local irreducible] Y Ef WL WC WK WQ WM cx WN WF cT
theorem AH (a b : Nat) (w : World) (ha : a < Sc.L) (hb : b < Sc.L) :
  Ct 195 #[.agg (ws (Sc.wd a)), .agg (ws (Sc.wd b))] w fun e w' => e = .returned (.agg (ws (Sc.wd ((a + b) % Sc.L)))) ∧ Ext w w' := by
 have E := Ext.refl w
 refine aI (s := 4) 18 func195 rfl rfl rfl underlying141 rfl Kr rfl ?_
 intro _ hret
 refine aU ?_
 intro w1 g2 (B2 : ao _ _ _ (ws (Sc.wd a))) Vl ex
 replace E := E.ext ex
 refine aU ?_
 intro w2 g3 (B3 : ao _ _ _ (ws (Sc.wd b))) Vm ex
 obtain ⟨E,B2⟩ := aY ex E B2
 have hz := E.size
 refine aU ?_
 intro w3 g4 (B4 : ao _ _ _ (ws z4)) Vn ex
 obtain ⟨E,B2,B3⟩ := bC ex E B2 B3
 refine au 5 ?_
 refine ak ((aV rfl Tn.u rfl (by rw [ar]; kernel_rfl) B2)) ?_
 refine au 1 ?_
 refine ak ((aV rfl Tn.u rfl (by rw [ar]; kernel_rfl) B3)) ?_
 refine aL func235 rfl (uj a b _) ?_
 rintro e _ ⟨rfl, ex⟩
 obtain ⟨E,B4⟩ := aY ex E B4
 have Vo := B4.lt
 refine aU ?_
 intro w5 g5 (B5 : ao _ _ _ (ws z4)) Vp ex
 obtain ⟨E,B4⟩ := aY ex E B4
 refine af (ag rfl rfl (by rw [ar]; kernel_rfl) B5 (by rw [ar, ar]) (dp _)) rfl ?_
 rintro _ _ ⟨rfl, D5, cg⟩
 replace E := E.aw cg Om; replace B4 := B4.aw cg Om
 refine au 5 ?_
 refine ak ((aV rfl Tn.u rfl (by rw [ar]; kernel_rfl) D5)) ?_
 refine aL func236 rfl (rB (a + b) _ Om) ?_
 rintro e _ ⟨rfl, ex⟩
 obtain ⟨E,B4⟩ := aY ex E B4
 refine au 1 ?_
 refine ak (aJ rfl (cells := ws (Sc.wd ((a + b) % Sc.L))) Kr) ?_
 refine af (ag rfl rfl (by rw [ar]; kernel_rfl) B4 (by rw [ar, ar]) (dp _)) rfl ?_
 rintro _ _ ⟨rfl, D4, cg⟩
 replace E := E.aw cg Om
 refine aU ?_
 refine hret rfl D4 (ar _) ?_
 exact ⟨rfl, E⟩
theorem AV (a i : Nat) (w : World) (hi : i < 256) :
  Ct 153 #[.agg (ws (Sc.wd a)), .int .i64 (i : Int)] w fun e w' => e = .returned (.int .i64 ((a / 2 ^ i % 2 : Nat) : Int)) ∧ Ext w w' := by
 have hxd := Nat.lt_of_le_of_lt (Nat.div_le_self (Sc.wd a (i / 64)) (2 ^ (i % 64))) (Sc.rH a (i / 64))
 have hbt := Sc.AG a i
 refine aj 21 func153 rfl rfl rfl rfl ?_
 intro _ hret
 refine au 2 ?_
 refine af (nc (cs := ws (Sc.wd a)) rfl rfl) rfl ?_
 rintro _ _ ⟨_, rfl, B2, _, ex⟩
 have E := ex
 refine au 7 ?_
 refine ak (dU rfl rfl) ?_
 refine ak (Y.as (bj rfl) (congrArg Value.bool (decide_eq_false Om))) ?_
 refine au 1 ?_
 refine kH 7 (qu rfl rfl) ?_
 refine au 3 ?_
 refine Mk rfl Om ?_
 refine au 5 ?_
 refine ak (cY rfl rfl Om (show IntKind.i64.wrap ((i : Int).tdiv 64) = ((i / 64 : Nat) : Int) from bk rfl Om)) ?_
 refine ak (eJ 0 4 0 0 Tn.u) ?_
 refine ak (bG rfl rfl Tn.u Kr (j := i / 64) rfl Om) ?_
 refine ak (ah rfl Tn.u rfl (B2.get (iT _ (Nat.zero_add _) Om))) ?_
 refine au 1 ?_
 refine ak (cy rfl rfl Om (show ((i : Int).tmod 64) = ((i % 64 : Nat) : Int) from rfl)) ?_
 refine ak (bY rfl rfl Om (JU _ _ (Nat.mod_lt _ Om))) ?_
 refine ak (cD rfl rfl (show bits .and .u64 _ 1 = ((a / 2 ^ i % 2 : Nat) : Int) by rw [Fi _ hxd, hbt])) ?_
 refine ak (bg rfl Tn.u Tn.u (show IntKind.i64.wrap ((a / 2 ^ i % 2 : Nat) : Int) = _ from bk rfl Om)) ?_
 refine au 4 ?_
 refine hret rfl ?_
 exact ⟨rfl, E⟩
theorem Sc.L6 {a : Nat} (h : a < Sc.L) : Wd.val (Fp.fn 4 (Sc.wd a)) = a := by
 rw [Sc.Dh]
 have := Sc.CU
 exact Nat.mod_eq_of_lt Om
theorem Sc.NY (a : Nat) {i x : Nat} (h : i < 4) (hx : x = Sc.wd a i) : x = (Fp.fn 4 (Sc.wd a)).getD i 0 := by rw [Fp.ow _ h]; exact hx
theorem Bu (a b : Nat) (w : World) (ha : a < Sc.L) (hb : b < Sc.L) :
  Ct 196 #[.agg (ws (Sc.wd a)), .agg (ws (Sc.wd b))] w fun e w' => e = .returned (.agg (ws (Sc.wd (a * b % Sc.L)))) ∧ Ext w w' := by
 obtain ⟨us, hus⟩ : ∃ us, us = Fp.fn 4 (Sc.wd a) := ⟨_, rfl⟩
 obtain ⟨vs, hvs⟩ : ∃ vs, vs = Fp.fn 4 (Sc.wd b) := ⟨_, rfl⟩
 have oa : Wd.ok us := hus ▸ Sc.Hy 4 a
 have ob : Wd.ok vs := hvs ▸ Sc.Hy 4 b
 have hla : us.length = 4 := by rw [hus, Fp.dF]
 have hlb : vs.length = 4 := by rw [hvs, Fp.dF]
 have hva : Wd.val us = a := hus ▸ Sc.L6 ha
 have hvb : Wd.val vs = b := hvs ▸ Sc.L6 hb
 have hab : a * b < 2 ^ (64 * 8) := by
  have h1 := Sc.CU
  have h3 : a * b < Sc.W ^ 4 * Sc.W ^ 4 := Nat.mul_lt_mul'' Om Om
  exact Nat.lt_of_lt_of_le h3 (by decide +kernel)
 refine aI (s := 4) 71 func196 rfl rfl rfl underlying141 rfl Kr rfl ?_
 intro _ hret
 refine aU ?_
 intro w1 g2 (B2 : ao _ _ _ (ws (Sc.wd a))) Vw ex
 have E0 := ex
 refine aU ?_
 intro w2 g3 (B3 : ao _ _ _ (ws (Sc.wd b))) Vx ex
 replace E0 := E0.ext ex; replace B2 := B2.ext ex; have hz := E0.size
 refine aU ?_
 intro w3 g4 (B4 : ao _ _ _ (ws z4)) Vy ex
 replace E0 := E0.ext ex; replace B2 := B2.ext ex; replace B3 := B3.ext ex
 refine aU ?_
 refine af (dn (n := 8) (z := .int .u64 0) (bytes := 8) rfl rfl Tn.u Kr rfl rfl rfl rfl Om Om) rfl ?_
 rintro _ w4 ⟨g, rfl, C0, hg, ex⟩
 have F0 := ex; have C1 : ao w4 g 38 (aK .u64 (List.replicate 8 0)) := C0.congr (by simp [aK, iv])
 refine au 7 ?_
 refine ak ((aV rfl Tn.u rfl (by rw [ar]; kernel_rfl) (B2.ext F0))) ?_
 refine aU ?_
 refine aF (fun n' L wr => ∃ (i : Nat) (l : List Nat), L = [(3, .pointer (some ⟨g3, 0, none⟩)), (4, .pointer (some ⟨g4, 0, none⟩)), (5, .slice (some ⟨g, 0, none⟩) 8 8), (16, .agg (ws (Sc.wd a))), (17, .int .i64 (i : Int)), (2, .pointer (some ⟨g2, 0, none⟩))] ∧ n' = 4 - i ∧ (i ≤ 4 ∧ Ext w3 wr ∧ ao wr g 38 (aK .u64 l) ∧ l.length = 8 ∧ Wd.ok l ∧ Wd.val l = Wd.val (us.take i) * Wd.val vs ∧ ∀ j, i + 4 ≤ j → l.getD j 0 = 0)) _ _ ⟨0, List.replicate 8 0, rfl, rfl, by omega, F0, C1, by simp, Wd.Co _, by rw [Wd.yT, List.take_zero, Wd.val, Nat.zero_mul], fun j _ => Wd.yG _ _⟩ Ls ?_
 rintro _ n' L wr ⟨i, l, rfl, rfl, _, E, Bl, hl, hok, hv, Vp⟩ Vq
 refine aU ?_
 refine al rfl (fun Vr => ?_) (fun Vr => ?_)
 ·have hin : i < 4 := by omega
  obtain ⟨x, Vl⟩ : ∃ x, x = Sc.wd a i := ⟨_, rfl⟩
  have hx : x = us.getD i 0 := by rw [hus]; exact Sc.NY a hin Vl
  have hxl := Wd.vM oa i; rw [← hx] at hxl
  refine au 7 ?_
  refine ak (mn rfl rfl Tn.u Tn.u rfl Kr rfl Om (show (ws (Sc.wd a))[i]? = some (.int .u64 (x : Int)) from by rw [Vl]; exact iT _ rfl hin)) ?_
  refine au 13 ?_
  refine ak ((aV rfl Tn.u rfl (by rw [ar]; kernel_rfl) (B3.ext E))) ?_
  refine aU ?_
  refine aF (fun n' L wq => ∃ (k cr : Nat) (q : List Nat), L = [(3, .pointer (some ⟨g3, 0, none⟩)), (4, .pointer (some ⟨g4, 0, none⟩)), (5, .slice (some ⟨g, 0, none⟩) 8 8), (6, .int .i64 (i : Int)), (7, .int .u64 (x : Int)), (8, .int .u64 (cr : Int)), (16, .agg (ws (Sc.wd a))), (17, .int .i64 (i : Int)), (22, .agg (ws (Sc.wd b))), (23, .int .i64 (k : Int)), (2, .pointer (some ⟨g2, 0, none⟩))] ∧ n' = 4 - k ∧ (k ≤ 4 ∧ cr < 18446744073709551616 ∧ Ext w3 wq ∧ ao wq g 38 (aK .u64 q) ∧ q.length = 8 ∧ Wd.ok q ∧ Wd.val q + cr * (18446744073709551616 ^ i * 18446744073709551616 ^ k) = Wd.val l + x * (Wd.val (vs.take k) * 18446744073709551616 ^ i) ∧ ∀ j, i + 4 ≤ j → q.getD j 0 = 0)) _ _ ⟨0, 0, l, rfl, rfl, by omega, by omega, E, Bl, hl, hok, by rw [Nat.zero_mul, List.take_zero, Wd.val, Nat.zero_mul, Nat.mul_zero], Vp⟩ Ls ?_
  rintro _ n' L wq ⟨k, cr, q, rfl, rfl, _, hcr, F, Bq, hq, hoq, hvq, hzq⟩ Vs
  refine aU ?_
  refine al rfl (fun Vt => ?_) (fun Vt => ?_)
  ·have hkm : k < 4 := by omega
   obtain ⟨y, Vm⟩ : ∃ y, y = Sc.wd b k := ⟨_, rfl⟩
   have hy : y = vs.getD k 0 := by rw [hvs]; exact Sc.NY b hkm Vm
   have hyl := Wd.vM ob k; rw [← hy] at hyl
   obtain ⟨o, ho⟩ : ∃ o, o = q.getD (i + k) 0 := ⟨_, rfl⟩
   have hol := Wd.vM hoq (i + k); rw [← ho] at hol
   obtain ⟨P, hP⟩ : ∃ P, P = x * y := ⟨_, rfl⟩
   have hPl : P ≤ 18446744073709551615 * 18446744073709551615 := by rw [hP]; exact Nat.mul_le_mul Om Om
   obtain ⟨D, hD⟩ : ∃ D, D = o + x * y + cr := ⟨_, rfl⟩
   refine au 7 ?_
   refine ak (mn rfl rfl Tn.u Tn.u rfl Kr rfl Om (show (ws (Sc.wd b))[k]? = some (.int .u64 (y : Int)) from by rw [Vm]; exact iT _ rfl hkm)) ?_
   refine aU ?_
   refine aL func237 rfl (mP x y _ hxl hyl) ?_
   rintro e _ ⟨rfl, ex⟩
   refine au 1 ?_
   rw [← hP]; have F3 := F.ext ex; have C3 := Bq.ext ex
   refine au 18 ?_
   refine ak (aN rfl rfl (bk (n := i + k) Om Om)) ?_
   refine ak (aD rfl rfl Tn.u Kr (j := i + k) rfl Om) ?_
   refine ak (ah rfl Tn.u rfl (C3.get (v := .int .u64 (o : Int)) (by rw [Nat.zero_add, de _ _ _ Om, ← ho]))) ?_
   refine ak ((kI rfl (fX _ _ 0 Om))) ?_
   refine au 11 ?_
   refine ak (aN rfl rfl (aE (n := P / 18446744073709551616 + (P % 18446744073709551616 + o + 0) / 18446744073709551616) Om Om)) ?_
   refine au 7 ?_
   refine ak ((kI rfl (fX _ _ 0 Om))) ?_
   refine au 7 ?_
   rw [show ((P % 18446744073709551616 + o + 0) % 18446744073709551616 + cr + 0) % 18446744073709551616 = D % 18446744073709551616 by omega]
   refine au 4 ?_
   refine ak (aN rfl rfl (bk (n := i + k) Om Om)) ?_
   refine au 3 ?_
   refine ak (aN rfl rfl (aE (n := D / 18446744073709551616) Om Om)) ?_
   refine ak (aD rfl rfl Tn.u Kr (j := i + k) rfl Om) ?_
   refine af (az rfl rfl rfl Kr C3 (by rw [bc]; omega)) rfl ?_
   rintro _ _ ⟨rfl, Vn, cg⟩
   rw [Nat.zero_add, eS] at Vn; have Vu := F3.aw cg hg
   refine au 8 ?_
   refine ae ?_
   refine Vs _ _ ⟨k + 1, D / 18446744073709551616, q.set (i + k) (D % 18446744073709551616), rfl, rfl, by omega, by omega, Vu, Vn, by rw [List.length_set]; exact hq, Wd.BG hoq _ _ Om, by
    have hs := Wd.sw q (i + k) (D % 18446744073709551616) Om
    rw [← ho, Nat.pow_add] at hs
    have e1 : 18446744073709551616 ^ i * 18446744073709551616 ^ (k + 1) = 18446744073709551616 ^ i * 18446744073709551616 ^ k * 18446744073709551616 := by rw [Nat.pow_succ, Nat.mul_assoc]
    have e2 : ∀ V : Nat, (V + y * 18446744073709551616 ^ k) * 18446744073709551616 ^ i = V * 18446744073709551616 ^ i + y * (18446744073709551616 ^ i * 18446744073709551616 ^ k) := fun V => by rw [Nat.add_mul, Nat.mul_assoc, Nat.mul_comm (18446744073709551616 ^ k)]
    rw [e1, Wd.kx, ← hy, e2]
    exact Wd.Bm hD hvq hs, fun j hj => by rw [Wd.getD_set_ne _ _ _ _ Om]; exact hzq j hj⟩ Om Ls
  ·obtain rfl : k = 4 := by omega
   have h0 := hzq (i + 4) (Nat.le_refl _)
   refine au 8 ?_
   refine ak (aN rfl rfl (bk (n := i + 4) Om Om)) ?_
   refine au 1 ?_
   refine ak (aD rfl rfl Tn.u Kr (j := i + 4) rfl Om) ?_
   refine af (az rfl rfl rfl Kr Bq (by rw [bc]; omega)) rfl ?_
   rintro _ _ ⟨rfl, Vo, cg⟩
   rw [Nat.zero_add, eS] at Vo; have Vv := F.aw cg hg
   refine au 7 ?_
   refine ae ?_
   refine Vq _ _ ⟨i + 1, q.set (i + 4) cr, rfl, rfl, by omega, Vv, Vo, by rw [List.length_set]; exact hq, Wd.BG hoq _ _ hcr, by
    have hs := Wd.sw q (i + 4) cr Om
    rw [h0, Nat.zero_mul, Nat.add_zero, Nat.pow_add] at hs
    rw [hs, hvq, hv, show vs.take 4 = vs from List.take_of_length_le Om, Wd.kx, ← hx, Nat.add_mul, Nat.mul_assoc x, Nat.mul_comm (Wd.val vs)], fun j hj => by rw [Wd.getD_set_ne _ _ _ _ Om]; exact hzq j Om⟩ Om Ls
 ·obtain rfl : i = 4 := by omega
  rw [show us.take 4 = us from List.take_of_length_le Om, hva, hvb] at hv
  have hlw := Sc.BE hok hl
  rw [hv] at hlw
  rw [hlw] at Bl
  refine aU ?_
  refine aL func233 rfl (nv _ 8 8 (a * b) _ (Ns.fT Bl (Fp.dF _ _)) hab Om) ?_
  rintro e _ ⟨rfl, ex⟩
  refine au 1 ?_
  replace E := E.ext ex; have C4 := B4.ext E; replace E0 := E0.ext E
  refine af (ag rfl rfl (by rw [ar]; kernel_rfl) C4 (by rw [ar, ar]) (dp _)) rfl ?_
  rintro _ _ ⟨rfl, D4, cg⟩
  replace E0 := E0.aw cg Om
  refine aU ?_
  refine hret rfl D4 (ar _) ?_
  exact ⟨rfl, E0⟩
end
end
section
open Go.RowKit Tryz Go.ChangeMaps
attribute [local irreducible] Y Ef WL WC WK WQ WM cx WN WF cT
namespace Sc
theorem EC (n i : Nat) (hi : i < 32) : wd n (i / 8) / 2 ^ (i % 8 * 8) % 256 = n / 256 ^ i % 256 := by
 unfold wd
 have hr : i % 8 < 8 := Nat.mod_lt _ Om
 have e : W = 2 ^ (i % 8 * 8) * (256 * 2 ^ (56 - i % 8 * 8)) := by
  rw [yo, show (256 : Nat) = 2 ^ 8 from rfl, ← Nat.pow_add, ← Nat.pow_add]; congr 1; omega
 have hb : 256 ^ i = W ^ (i / 8) * 2 ^ (i % 8 * 8) := by
  rw [yo, show (256 : Nat) = 2 ^ 8 from rfl, ← Nat.pow_mul, ← Nat.pow_mul, ← Nat.pow_add]; congr 1; omega
 rw [hb, ← Nat.div_div_eq_div_mul]
 generalize n / W ^ (i / 8) = x
 rw [e, Nat.mod_mul_right_div_self, Nat.mod_mul_right_mod]
end Sc
theorem Ft (i x : Nat) : Fp.le (i + 1) x = Fp.le i x ++ [UInt8.ofNat (x / 256 ^ i % 256)] := by
 unfold Fp.le; rw [List.range_succ, List.map_append]; rfl
theorem vy (n : Nat) (w : World) :
  Ct 197 #[.agg (ws (Sc.wd n))] w fun e w' => ∃ g, e = .returned (.slice (some ⟨g, 0, none⟩) 32 32) ∧ w.heap.size ≤ g ∧ ao w' g 5 (cJ (Fp.le 32 n)) ∧ Ext w w' := by
 have E := Ext.refl w
 refine aj 26 func197 rfl rfl rfl rfl ?_
 intro _ hret
 refine aU ?_
 intro w1 g1 (B1 : ao _ _ _ (ws (Sc.wd n))) Vn ex
 replace E := E.ext ex
 refine aU ?_
 have Vo := B1.lt
 refine af (dn (n := 32) (z := .int .u8 0) (bytes := 1) rfl rfl Tn.u Kr rfl rfl rfl rfl Om Om) rfl ?_
 rintro _ _ ⟨g2, rfl, B2, _, ex⟩
 obtain ⟨E,B1⟩ := aY ex E B1
 replace B2 := B2.congr (show _ = cJ (Fp.le 0 n ++ fV 32) from rfl)
 refine aU ?_
 refine aF (fun n' L wr => ∃ (i : Nat), L = [(1, .pointer (some ⟨g1, 0, none⟩)), (3, .slice (some ⟨g2, 0, none⟩) 32 32), (7, .int .i64 32), (8, .int .i64 (i : Int))] ∧ n' = 32 - i ∧ (i ≤ 32 ∧ Ext w wr ∧ ao wr g1 141 (ws (Sc.wd n)) ∧ ao wr g2 5 (cJ (Fp.le i n ++ fV (32 - i))))) _ _ ⟨0, rfl, rfl, by omega, E, B1, B2⟩ Ls ?_
 rintro _ n' L wr ⟨i, rfl, rfl, _, E, B1, B2⟩ Vl
 refine aU ?_
 refine al rfl (fun Vm => ?_) (fun Vm => ?_)
 ·have hby := Sc.EC n i Om
  refine au 14 ?_
  refine ak (cY rfl rfl Om (show IntKind.i64.wrap ((i : Int).tdiv 8) = ((i / 8 : Nat) : Int) from bk rfl Om)) ?_
  refine au 1 ?_
  refine ak (bG rfl rfl Tn.u Kr (j := i / 8) rfl Om) ?_
  refine ak (ah rfl Tn.u rfl (B1.get (iT _ (Nat.zero_add _) Om))) ?_
  refine au 1 ?_
  refine ak (cy rfl rfl Om (show ((i : Int).tmod 8) = ((i % 8 : Nat) : Int) from rfl)) ?_
  refine ak (cz rfl rfl (bk (n := i % 8 * 8) Om Om)) ?_
  refine ak (bY rfl rfl Om (JU _ _ Om)) ?_
  refine ak (bg rfl Tn.u Tn.u (show IntKind.u8.wrap ((Sc.wd n (i / 8) / 2 ^ (i % 8 * 8) : Nat) : Int) = ((UInt8.ofNat (n / 256 ^ i % 256)).toNat : Int) by rw [IntKind.wrap_u8', UInt8.toNat_ofNat', ← hby]; omega)) ?_
  refine au 1 ?_
  refine af (az rfl rfl rfl Kr B2 (by rw [aW, List.length_append, Fp.cH]; simp [fV]; omega)) rfl ?_
  rintro _ _ ⟨rfl, D2, cg⟩
  rw [Nat.zero_add, uv (m' := 31 - i) (by rw [Fp.cH]) Om, ← Ft] at D2; replace E := E.aw cg Om; replace B1 := B1.aw cg Om; replace B2 := D2.congr (show _ = cJ (Fp.le (i + 1) n ++ fV (32 - (i + 1))) by rw [show 32 - (i + 1) = 31 - i by omega])
  refine au 7 ?_
  refine ae ?_
  refine Vl _ _ ⟨i + 1, rfl, rfl, by omega, E, B1, B2⟩ Om Ls
 ·refine aU ?_
  refine hret rfl ?_
  obtain rfl : i = 32 := by omega
  exact ⟨g2, rfl, by omega, B2.congr (by simp [fV]), E⟩
end
end Go.Proofs.YtgfafidlkldeaaaGreat
