/- The ladder's step and product on field elements: what dh's step and product hand back. -/
import Derived.Test.YtgfafidlkldeaaaGreatFieldQ
import Derived.Test.YtgfafidlkldeaaaGreatSha3
import Derived.Test.YtgfafidlkldeaaaGreatFieldB
import Derived.Test.YtgfafidlkldeaaaGreatAu
import Derived.Test.YtgfafidlkldeaaaGreatNt
import Derived.Test.YtgfafidlkldeaaaGreatVc7
set_option linter.unusedVariables false
set_option linter.unusedSimpArgs false
set_option maxHeartbeats 4000000
set_option maxRecDepth 4000
namespace Go.Proofs.YtgfafidlkldeaaaGreat
variable {b : List UInt8} {a g i n : Nat}
section
section
open Go.RowKit Tryz
section
attribute [local irreducible] Y Ef WL WC WK WQ WM cu WN WF db
namespace Sc
open Fp
theorem FP : ∀ (xs : Lb) (j : Nat), (xs.getD j 0).toNat = num xs / 256 ^ j % 256
  | [], j => by simp [num]
  | x :: xs, 0 => by have := x.toNat_lt;show x.toNat = (x.toNat + 256 * num xs) / 256 ^ 0 % 256;rw [Nat.pow_zero, Nat.div_one]; omega
  | x :: xs, j + 1 => by have := x.toNat_lt;show (xs.getD j 0).toNat = (x.toNat + 256 * num xs) / 256 ^ (j + 1) % 256;rw [FP xs j, Nat.pow_succ, Nat.mul_comm (256 ^ j), ← Nat.div_div_eq_div_mul];congr 2; omega
theorem Jr (N at_ k : Nat) (h : k < 8) : N / 256 ^ (at_ + (k + 1)) % 256 ^ (8 - (k + 1)) * 256 + N / 256 ^ (at_ + k) % 256 = N / 256 ^ (at_ + k) % 256 ^ (8 - k) := by rw [show 8 - k = (8 - (k + 1)) + 1 by omega, show at_ + (k + 1) = (at_ + k) + 1 by omega, Nat.pow_succ 256 (at_ + k), ← Nat.div_div_eq_div_mul];generalize N / 256 ^ (at_ + k) = x;rw [Nat.pow_succ' (n := 8 - (k + 1)) (m := 256), Nat.mod_mul];omega
theorem Oj (N q : Nat) : N / 256 ^ (8 * q + 0) % 256 ^ (8 - 0) = wd N q := by unfold wd;rw [Nat.add_zero, Nat.pow_mul]; rfl
theorem Pe (m b : Nat) (hm : m < 72057594037927936) (hb : b < 256) : bits .or .u64 ((m * 256 : Nat) : Int) ((b : Nat) : Int) = ((m * 256 + b : Nat) : Int) := by have h3 := (cz (p := m * 256) (q := b) Om Om).2.1;rw [h3];congr 1;rw [Nat.mul_comm m, show (256 : Nat) = 2 ^ 8 from rfl, ← Nat.two_pow_add_eq_or_of_lt hb]
end Sc
theorem vN (A : Oa) (n c q : Nat) (xs : Lb) (w : aa9) (HA : Bs w A n xs) (hq : q ≤ 1000) (hn : n ≤ 1000000) :
  Ct 232 #[.slice A n c, .int .i64 ((8 * q : Nat) : Int)] w (ck w (.int .u64 ((Sc.wd (Fp.num xs) q : Nat) : Int))) := by
 have hl := HA.1;refine ai 29 func232 ?_;intro _ aa4;refine aU ?_;refine aE (fun n' L wr => ∃ (k m : Nat) (z : Int), L = [(0, .slice A n c), (1, .int .i64 ((8 * q : Nat) : Int)), (5, .int .u64 (m : Int)), (6, .int .i64 z)] ∧ n' = 1 + k ∧ (wr = w ∧ k ≤ 8 ∧ z = (k : Int) - 1 ∧ m = Fp.num xs / 256 ^ (8 * q + k) % 256 ^ (8 - k))) _ _ ⟨8, 0, 7, rfl, rfl, rfl, Om, rfl, by simp [Nat.mod_one]⟩ Ls ?_;rintro _ n' L wr ⟨k, m, z, rfl, rfl, rfl, _, _, hm⟩ YU;refine aa1 (fun YV => ?_) (fun YV => ?_)
 ·obtain ⟨j, rfl⟩ : ∃ j, k = j + 1 := ⟨k - 1, Om⟩
  have YW : m < 72057594037927936 := by rw [hm];refine Nat.lt_of_lt_of_le (Nat.mod_lt _ (Nat.pow_pos Om)) ?_;rw [show (72057594037927936 : Nat) = 256 ^ 7 from rfl];exact Nat.pow_le_pow_right Om Om
  have hdig := Sc.FP xs (8 * q + j);have hnx := Sc.Jr (Fp.num xs) (8 * q) j Om;rw [← hm] at hnx;have hzj : z = (j : Int) := Om
  subst hzj;refine au 7 ?_;refine ak (fX rfl rfl Om (show IntKind.u64.wrap ((m : Int) * 2 ^ min (8 : Int).toNat IntKind.u64.bits) = ((m * 256 : Nat) : Int) from aG (by rw [Int.natCast_mul]; rfl) Om)) ?_;refine au 7 ?_;refine ak (aO rfl rfl (bk (n := 8 * q + j) Om Om)) ?_;refine aa1 (fun YX => ?_) (fun YX => ?_)
  ·obtain ⟨b1, YY, rfl, _, hcx⟩ := HA.get (k := 8 * q + j) Om;have hxb := (xs.getD (8 * q + j) 0).toNat_lt;refine au 5 ?_;refine ak (aO rfl rfl (bk (n := 8 * q + j) Om Om)) ?_;refine au 1 ?_;refine ak (ah rfl Tn.u rfl hcx) ?_;refine ak (bc rfl Tn.u Tn.u (show IntKind.u64.wrap (((xs.getD (8 * q + j) 0).toNat : Nat) : Int) = _ from aG rfl Om)) ?_;refine ak (jZ rfl rfl (Sc.Pe m _ YW hxb)) ?_;refine au 6 ?_;refine ak (fG rfl rfl (show IntKind.i64.wrap ((j : Int) - 1) = (j : Int) - 1 from bj Om Om)) ?_;refine au 2 ?_;refine ae ?_;refine YU _ _ ⟨j, m * 256 + (xs.getD (8 * q + j) 0).toNat, (j : Int) - 1, rfl, rfl, rfl, Om, rfl, by rw [hdig, hnx]⟩ Om Ls
  refine au 3 ?_;have h0 : xs.getD (8 * q + j) 0 = 0 := by rw [List.getD_eq_getElem?_getD, List.getElem?_eq_none Om]; rfl
  rw [h0] at hdig;have h1 : Fp.num xs / 256 ^ (8 * q + j) % 256 = 0 := hdig.symm;rw [h1, Nat.add_zero] at hnx;refine au 2 ?_;refine ak (fG rfl rfl (show IntKind.i64.wrap ((j : Int) - 1) = (j : Int) - 1 from bj Om Om)) ?_;refine au 2 ?_;refine ae ?_;refine YU _ _ ⟨j, m * 256, (j : Int) - 1, rfl, rfl, rfl, Om, rfl, hnx⟩ Om Ls
 refine aU ?_;refine aa4 rfl ?_;obtain rfl : k = 0 := Om
 exact ⟨by rw [hm, Sc.Oj], Ext.refl _⟩
theorem Fg (n : Nat) (f : Nat → Nat) : Fp.fn (n + 1) f = Fp.fn n f ++ [f n] := by unfold Fp.fn; rw [List.range_succ, List.map_append]; rfl
theorem qe (A : Oa) (n c : Nat) (xs : Lb) (w : aa9) (HA : Bs w A n xs) (hc : n ≤ c) :
  Ct 193 #[.slice A n c] w fun e w' => e = .returned (.agg (ws (Sc.wd (Fp.num (xs.take 64) % Sc.L)))) ∧ Ext w w' := by
 have hl := HA.1
 have HT : Bs w A (min n 64) (xs.take 64) := by
  have h := HA.take (Nat.min_le_left n 64)
  have e : xs.take (min n 64) = xs.take 64 := by
   rcases Nat.le_total n 64 with h | h
   ·rw [Nat.min_eq_left h, List.take_of_length_le Om, List.take_of_length_le Om]
   rw [Nat.min_eq_right h]
  rwa [e] at h
 obtain ⟨k, hk⟩ : ∃ k, k = min n 64 := ⟨_, rfl⟩
 obtain ⟨N, hN⟩ : ∃ N, N = Fp.num (xs.take 64) := ⟨_, rfl⟩
 rw [← hk] at HT
 have hNl : N < 256 ^ k := by have := Fp.lG (xs.take 64);rw [← hN, HT.1] at this;exact this
 refine aH (s := 4) 24 func193 rfl rfl rfl underlying141 rfl Kr rfl ?_;intro _ aa4;refine aU ?_;intro w1 g2 (B2 : aq _ _ _ (ws z4)) YU ex;have E0 := ex;refine au 7 ?_;refine ak (Y.as (EC rfl rfl) (show Value.int .i64 _ = .int .i64 ((k : Nat) : Int) by congr 1; omega)) ?_;refine ak (j8 (s := 1) rfl rfl Tn.u Kr (j := k) rfl Om) ?_;refine aU ?_;refine aE (fun n' L wr => ∃ (i c3 : Nat) (A3 : Oa), L = [(0, .slice A k c), (2, .pointer (cf g2)), (3, .slice A3 i c3), (4, .int .i64 ((8 * i : Nat) : Int))] ∧ n' = 64 + 8 - 8 * i ∧ (8 * i ≤ k + 7 ∧ Ext w1 wr ∧ Row wr w1.heap.size 38 A3 i c3 ((Fp.fn i (Sc.wd N)).map (iv .u64)))) _ _ ⟨0, 0, none, rfl, rfl, Om, Ext.refl _, Row.empty _ _ _⟩ Ls ?_;rintro _ n' L wr ⟨i, c3, A3, rfl, rfl, _, F, R⟩ YV;refine aa1 (fun YW => ?_) (fun YW => ?_)
 ·refine aU ?_;refine aB func232 rfl (vN A k c i (xs.take 64) _ (HT.ext (E0.ext F)) Om Om) ?_;rintro e _ ⟨rfl, ex⟩;refine au 1 ?_;rw [← hN]; replace F := F.ext ex; replace R := R.ext ex;refine af (aF (z := .int .u64 0) Tn.u Kr rfl rfl rfl rfl rfl) rfl ?_;rintro _ _ ⟨_, rfl, B4, _, ex⟩;replace F := F.ext ex; replace R := R.ext ex; have YX := F.size;refine af (aT rfl rfl Li R (At.fA (vs := [Sc.wd N i].map (iv .u64)) (B4.congr rfl)) rfl oN Om Om YX) rfl ?_;rintro _ _ ⟨A6, c6, rfl, R6, be, _, _⟩;replace F := F.trans be;refine au 6 ?_;refine ak (aO rfl rfl (bk (n := 8 * (i + 1)) Om Om)) ?_;refine au 2 ?_;refine ae ?_;refine YV _ _ ⟨i + 1, c6, A6, rfl, rfl, Om, F, R6.congr rfl (by rw [Fg, List.map_append])⟩ Om Ls
 refine aU ?_;refine aB func233 rfl (rK A3 i c3 N _ (Ns.oM R) (Nat.lt_of_lt_of_le hNl (Nat.le_trans (Nat.pow_le_pow_right Om (show k ≤ 8 * i by omega)) (Nat.le_of_eq (by rw [show (256 : Nat) = 2 ^ 8 from rfl, ← Nat.pow_mul]; congr 1; omega)))) Om) ?_;rintro e _ ⟨rfl, ex⟩;refine au 1 ?_;replace F := F.ext ex; have D0 := B2.ext F; have E := E0.ext F;refine af (ag rfl rfl (by rw [ao]; kernel_rfl) D0 (by rw [ao, ao]) (dj _)) rfl ?_;rintro _ _ ⟨rfl, D2, cg⟩;replace E := E.aw cg YU;refine aU ?_;exact aa4 rfl D2 (ao _) ⟨by rw [hN], E⟩
end
namespace Sc
theorem MV : ∀ (l : List Nat) (j : Nat), Wd.ok l → l.getD j 0 = wd (Wd.val l) j
  | [], j, _ => by simp [Wd.val, wd]
  | d :: ds, 0, h => by have h1 := (Wd.yf.1 h).1;show d = (d + 18446744073709551616 * Wd.val ds) / W ^ 0 % W;rw [Nat.pow_zero, Nat.div_one, show W = 18446744073709551616 from rfl]; omega
  | d :: ds, j + 1, h => by have h1 := (Wd.yf.1 h).1;have h2 := MV ds j (Wd.yf.1 h).2;show ds.getD j 0 = (d + 18446744073709551616 * Wd.val ds) / W ^ (j + 1) % W;rw [h2, Nat.pow_succ, Nat.mul_comm (W ^ j), ← Nat.div_div_eq_div_mul];unfold wd;congr 2;rw [show W = 18446744073709551616 from rfl]; omega
theorem KO {l : List Nat} (h : Wd.ok l) (hn : l.length = n) : l = Fp.fn n (wd (Wd.val l)) := by
 have h1 := Fp.Vx l;rw [hn] at h1;rw [h1];have h2 : Wd.val (Fp.fn n fun j => l.getD j 0) = Wd.val l := by rw [← h1]
 rw [h2];exact Fp.pX fun j _ => MV l j h
theorem Rw (n a : Nat) : Wd.ok (Fp.fn n (wd a)) := fun d hd => by unfold Fp.fn at hd;obtain ⟨j, _, rfl⟩ := List.mem_map.1 hd;exact wC a j
theorem MP (a : Nat) : ∀ n, Wd.val (Fp.fn n (wd a)) = a % W ^ n
  | 0 => by simp [Fp.fn, Wd.val, Nat.mod_one]
  | n + 1 => by rw [Fg, Wd.oU, MP a n, Fp.eE, fH];simp [Wd.val, wd, W]
end Sc
attribute [local irreducible] Y Ef WL WC WK WQ WM cu WN WF db
theorem MO (a b : Nat) (w : aa9) (ha : a < Sc.L) (hb : b < Sc.L) :
  Ct 195 #[.agg (ws (Sc.wd a)), .agg (ws (Sc.wd b))] w fun e w' => e = .returned (.agg (ws (Sc.wd ((a + b) % Sc.L)))) ∧ Ext w w' := by
 have E := Ext.refl w;refine aH (s := 4) 18 func195 rfl rfl rfl underlying141 rfl Kr rfl ?_;intro _ aa4;refine aU ?_;intro w1 g2 (B2 : aq _ _ _ (ws (Sc.wd a))) YU ex;replace E := E.ext ex;refine aU ?_;intro w2 g3 (B3 : aq _ _ _ (ws (Sc.wd b))) YV ex;obtain ⟨E,B2⟩ := aS ex E B2;have hz := E.size;refine aU ?_;intro w3 g4 (B4 : aq _ _ _ (ws z4)) YW ex;obtain ⟨E,B2,B3⟩ := bh ex E B2 B3;refine au 5 ?_;refine ak ((aP rfl Tn.u rfl (by rw [ao]; kernel_rfl) B2)) ?_;refine au 1 ?_;refine ak ((aP rfl Tn.u rfl (by rw [ao]; kernel_rfl) B3)) ?_;refine aB func235 rfl (yK a b _) ?_;rintro e _ ⟨rfl, ex⟩;obtain ⟨E,B4⟩ := aS ex E B4;have YX := B4.lt;refine aU ?_;intro w5 g5 (B5 : aq _ _ _ (ws z4)) YY ex;obtain ⟨E,B4⟩ := aS ex E B4;refine af (ag rfl rfl (by rw [ao]; kernel_rfl) B5 (by rw [ao, ao]) (dj _)) rfl ?_;rintro _ _ ⟨rfl, D5, cg⟩;replace E := E.aw cg Om; replace B4 := B4.aw cg Om;refine au 5 ?_;refine ak ((aP rfl Tn.u rfl (by rw [ao]; kernel_rfl) D5)) ?_;refine aB func236 rfl (vF (a + b) _ Om) ?_;rintro e _ ⟨rfl, ex⟩;obtain ⟨E,B4⟩ := aS ex E B4;refine au 1 ?_;refine ak (aA rfl (cells := ws (Sc.wd ((a + b) % Sc.L))) Kr) ?_;refine af (ag rfl rfl (by rw [ao]; kernel_rfl) B4 (by rw [ao, ao]) (dj _)) rfl ?_;rintro _ _ ⟨rfl, D4, cg⟩;replace E := E.aw cg Om;refine aU ?_;exact aa4 rfl D4 (ao _) ⟨rfl, E⟩
theorem Kz (a i : Nat) (w : aa9) (hi : i < 256) :
  Ct 153 #[.agg (ws (Sc.wd a)), .int .i64 (i : Int)] w (ck w (.int .i64 ((a / 2 ^ i % 2 : Nat) : Int))) := by
 have hxd := Nat.lt_of_le_of_lt (Nat.div_le_self (Sc.wd a (i / 64)) (2 ^ (i % 64))) (Sc.wC a (i / 64));have hbt := Sc.Mi a i;refine ai 21 func153 ?_;intro _ aa4;refine au 2 ?_;refine af (mw (cs := ws (Sc.wd a)) rfl rfl) rfl ?_;rintro _ _ ⟨_, rfl, B2, _, ex⟩;have E := ex;refine au 7 ?_;refine ak (fB rfl rfl) ?_;refine ak (Y.as (aL rfl) (congrArg Value.bool (decide_eq_false Om))) ?_;refine au 1 ?_;refine qG 7 (yI rfl rfl) ?_;refine au 3 ?_;refine QY rfl Om ?_;refine au 5 ?_;refine ak (dI rfl rfl Om (show IntKind.i64.wrap ((i : Int).tdiv 64) = ((i / 64 : Nat) : Int) from bk rfl Om)) ?_;refine ak (eW 0 4 0 0 Tn.u) ?_;refine ak (bM rfl rfl Tn.u Kr (j := i / 64) rfl Om) ?_;refine ak (ah rfl Tn.u rfl (B2.get (lJ _ (Nat.zero_add _) Om))) ?_;refine au 1 ?_;refine ak (cR rfl rfl Om (show ((i : Int).tmod 64) = ((i % 64 : Nat) : Int) from rfl)) ?_;refine ak (cn rfl rfl Om (Tj _ _ (Nat.mod_lt _ Om))) ?_;refine ak (cT rfl rfl (show bits .and .u64 _ 1 = ((a / 2 ^ i % 2 : Nat) : Int) by rw [Ox _ hxd, hbt])) ?_;refine ak (bc rfl Tn.u Tn.u (show IntKind.i64.wrap ((a / 2 ^ i % 2 : Nat) : Int) = _ from bk rfl Om)) ?_;refine au 4 ?_;exact aa4 rfl ⟨rfl, E⟩
theorem Sc.UK (h : a < Sc.L) : Wd.val (Fp.fn 4 (Sc.wd a)) = a := by rw [Sc.MP];have := Sc.sR;exact Nat.mod_eq_of_lt Om
theorem Sc.Ye (a : Nat) {x : Nat} (h : i < 4) (hx : x = Sc.wd a i) : x = (Fp.fn 4 (Sc.wd a)).getD i 0 := by rw [Fp.sQ _ h]; exact hx
theorem Ku (a b : Nat) (w : aa9) (ha : a < Sc.L) (hb : b < Sc.L) :
  Ct 196 #[.agg (ws (Sc.wd a)), .agg (ws (Sc.wd b))] w (ck w (.agg (ws (Sc.wd (a * b % Sc.L))))) := by
 obtain ⟨us, hus⟩ : ∃ us, us = Fp.fn 4 (Sc.wd a) := ⟨_, rfl⟩
 obtain ⟨vs, hvs⟩ : ∃ vs, vs = Fp.fn 4 (Sc.wd b) := ⟨_, rfl⟩
 have oa : Wd.ok us := hus ▸ Sc.Rw 4 a;have ob : Wd.ok vs := hvs ▸ Sc.Rw 4 b;have hla : us.length = 4 := by rw [hus, Fp.eE]
 have hlb : vs.length = 4 := by rw [hvs, Fp.eE]
 have hva : Wd.val us = a := hus ▸ Sc.UK ha;have hvb : Wd.val vs = b := hvs ▸ Sc.UK hb
 have hab : a * b < 2 ^ (64 * 8) := by have h1 := Sc.sR;have h3 : a * b < Sc.W ^ 4 * Sc.W ^ 4 := Nat.mul_lt_mul'' Om Om;exact Nat.lt_of_lt_of_le h3 (by decide +kernel)
 refine aH (s := 4) 71 func196 rfl rfl rfl underlying141 rfl Kr rfl ?_;intro _ aa4;refine aU ?_;intro w1 g2 (B2 : aq _ _ _ (ws (Sc.wd a))) Zc ex;have E0 := ex;refine aU ?_;intro w2 g3 (B3 : aq _ _ _ (ws (Sc.wd b))) Zd ex;replace E0 := E0.ext ex; replace B2 := B2.ext ex; have hz := E0.size;refine aU ?_;intro w3 g4 (B4 : aq _ _ _ (ws z4)) Ze ex;replace E0 := E0.ext ex; replace B2 := B2.ext ex; replace B3 := B3.ext ex;refine aU ?_;refine af (dC (n := 8) (z := .int .u64 0) (bytes := 8) rfl rfl Tn.u Kr rfl rfl rfl rfl Om Om) rfl ?_;rintro _ w4 ⟨g, rfl, C0, hg, ex⟩;have F0 := ex; have C1 : aq w4 g 38 (aM .u64 (List.replicate 8 0)) := C0.congr (by simp [aM, iv]);refine au 7 ?_;refine ak ((aP rfl Tn.u rfl (by rw [ao]; kernel_rfl) (B2.ext F0))) ?_;refine aU ?_;refine aE (fun n' L wr => ∃ (i : Nat) (l : List Nat), L = [(3, .pointer (cf g3)), (4, .pointer (cf g4)), (5, .slice (cf g) 8 8), (16, .agg (ws (Sc.wd a))), (17, .int .i64 (i : Int)), (2, .pointer (cf g2))] ∧ n' = 4 - i ∧ (i ≤ 4 ∧ Ext w3 wr ∧ aq wr g 38 (aM .u64 l) ∧ l.length = 8 ∧ Wd.ok l ∧ Wd.val l = Wd.val (us.take i) * Wd.val vs ∧ ∀ j, i + 4 ≤ j → l.getD j 0 = 0)) _ _ ⟨0, List.replicate 8 0, rfl, rfl, Om, F0, C1, by simp, Wd.ML _, by rw [Wd.ID, List.take_zero, Wd.val, Nat.zero_mul], fun j _ => Wd.JB _ _⟩ Ls ?_;rintro _ n' L wr ⟨i, l, rfl, rfl, _, E, Bl, hl, hok, hv, YY⟩ YZ;refine aa1 (fun Y0 => ?_) (fun Y0 => ?_)
 ·have hin : i < 4 := Om
  obtain ⟨x, YU⟩ : ∃ x, x = Sc.wd a i := ⟨_, rfl⟩
  have hx : x = us.getD i 0 := by rw [hus]; exact Sc.Ye a hin YU
  have hxl := Wd.Ch oa i; rw [← hx] at hxl;refine au 7 ?_;refine ak (pJ rfl rfl Tn.u Tn.u rfl Kr rfl Om (show (ws (Sc.wd a))[i]? = some (.int .u64 (x : Int)) from by rw [YU]; exact lJ _ rfl hin)) ?_;refine au 13 ?_;refine ak ((aP rfl Tn.u rfl (by rw [ao]; kernel_rfl) (B3.ext E))) ?_;refine aU ?_;refine aE (fun n' L wq => ∃ (k cr : Nat) (q : List Nat), L = [(3, .pointer (cf g3)), (4, .pointer (cf g4)), (5, .slice (cf g) 8 8), (6, .int .i64 (i : Int)), (7, .int .u64 (x : Int)), (8, .int .u64 (cr : Int)), (16, .agg (ws (Sc.wd a))), (17, .int .i64 (i : Int)), (22, .agg (ws (Sc.wd b))), (23, .int .i64 (k : Int)), (2, .pointer (cf g2))] ∧ n' = 4 - k ∧ (k ≤ 4 ∧ cr < 18446744073709551616 ∧ Ext w3 wq ∧ aq wq g 38 (aM .u64 q) ∧ q.length = 8 ∧ Wd.ok q ∧ Wd.val q + cr * (18446744073709551616 ^ i * 18446744073709551616 ^ k) = Wd.val l + x * (Wd.val (vs.take k) * 18446744073709551616 ^ i) ∧ ∀ j, i + 4 ≤ j → q.getD j 0 = 0)) _ _ ⟨0, 0, l, rfl, rfl, Om, Om, E, Bl, hl, hok, by rw [Nat.zero_mul, List.take_zero, Wd.val, Nat.zero_mul, Nat.mul_zero], YY⟩ Ls ?_;rintro _ n' L wq ⟨k, cr, q, rfl, rfl, _, hcr, F, Bq, hq, hoq, hvq, hzq⟩ Y2;refine aa1 (fun Y3 => ?_) (fun Y3 => ?_)
  ·have hkm : k < 4 := Om
   obtain ⟨y, YV⟩ : ∃ y, y = Sc.wd b k := ⟨_, rfl⟩
   have hy : y = vs.getD k 0 := by rw [hvs]; exact Sc.Ye b hkm YV
   have hyl := Wd.Ch ob k; rw [← hy] at hyl
   obtain ⟨o, ho⟩ : ∃ o, o = q.getD (i + k) 0 := ⟨_, rfl⟩
   have hol := Wd.Ch hoq (i + k); rw [← ho] at hol
   obtain ⟨P, hP⟩ : ∃ P, P = x * y := ⟨_, rfl⟩
   have hPl : P ≤ 18446744073709551615 * 18446744073709551615 := by rw [hP]; exact Nat.mul_le_mul Om Om
   obtain ⟨D, hD⟩ : ∃ D, D = o + x * y + cr := ⟨_, rfl⟩
   refine au 7 ?_;refine ak (pJ rfl rfl Tn.u Tn.u rfl Kr rfl Om (show (ws (Sc.wd b))[k]? = some (.int .u64 (y : Int)) from by rw [YV]; exact lJ _ rfl hkm)) ?_;refine aU ?_;refine aB func237 rfl (qH x y _ hxl hyl) ?_;rintro e _ ⟨rfl, ex⟩;refine au 1 ?_;rw [← hP]; have F3 := F.ext ex; have C3 := Bq.ext ex;refine au 18 ?_;refine ak (aO rfl rfl (bk (n := i + k) Om Om)) ?_;refine ak (aC rfl rfl Tn.u Kr (j := i + k) rfl Om) ?_;refine ak (ah rfl Tn.u rfl (C3.get (v := .int .u64 (o : Int)) (by rw [Nat.zero_add, dQ _ _ _ Om, ← ho]))) ?_;refine ak ((oS rfl (jh _ _ 0 Om))) ?_;refine au 11 ?_;refine ak (aO rfl rfl (aG (n := P / 18446744073709551616 + (P % 18446744073709551616 + o + 0) / 18446744073709551616) Om Om)) ?_;refine au 7 ?_;refine ak ((oS rfl (jh _ _ 0 Om))) ?_;refine au 7 ?_;rw [show ((P % 18446744073709551616 + o + 0) % 18446744073709551616 + cr + 0) % 18446744073709551616 = D % 18446744073709551616 by omega];refine au 4 ?_;refine ak (aO rfl rfl (bk (n := i + k) Om Om)) ?_;refine au 3 ?_;refine ak (aO rfl rfl (aG (n := D / 18446744073709551616) Om Om)) ?_;refine ak (aC rfl rfl Tn.u Kr (j := i + k) rfl Om) ?_;refine af (az rfl rfl rfl Kr C3 (by rw [bf]; omega)) rfl ?_;rintro _ _ ⟨rfl, YW, cg⟩;rw [Nat.zero_add, gu] at YW; have Za := F3.aw cg hg;refine au 8 ?_;refine ae ?_
   refine Y2 _ _ ⟨k + 1, D / 18446744073709551616, q.set (i + k) (D % 18446744073709551616), rfl, rfl, Om, Om, Za, YW, by rw [List.length_set]; exact hq, Wd.JK hoq _ _ Om, by
    have hs := Wd.xO q (i + k) (D % 18446744073709551616) Om;rw [← ho, Nat.pow_add] at hs;have e1 : 18446744073709551616 ^ i * 18446744073709551616 ^ (k + 1) = 18446744073709551616 ^ i * 18446744073709551616 ^ k * 18446744073709551616 := by rw [Nat.pow_succ, Nat.mul_assoc]
    have e2 : ∀ V : Nat, (V + y * 18446744073709551616 ^ k) * 18446744073709551616 ^ i = V * 18446744073709551616 ^ i + y * (18446744073709551616 ^ i * 18446744073709551616 ^ k) := fun V => by rw [Nat.add_mul, Nat.mul_assoc, Nat.mul_comm (18446744073709551616 ^ k)]
    rw [e1, Wd.nS, ← hy, e2]
    exact Wd.LH hD hvq hs, fun j hj => by rw [Wd.getD_set_ne _ _ _ _ Om]; exact hzq j hj⟩ Om Ls
  obtain rfl : k = 4 := Om
  have h0 := hzq (i + 4) (Nat.le_refl _);refine au 8 ?_;refine ak (aO rfl rfl (bk (n := i + 4) Om Om)) ?_;refine au 1 ?_;refine ak (aC rfl rfl Tn.u Kr (j := i + 4) rfl Om) ?_;refine af (az rfl rfl rfl Kr Bq (by rw [bf]; omega)) rfl ?_;rintro _ _ ⟨rfl, YX, cg⟩;rw [Nat.zero_add, gu] at YX; have Zb := F.aw cg hg;refine au 7 ?_;refine ae ?_
  refine YZ _ _ ⟨i + 1, q.set (i + 4) cr, rfl, rfl, Om, Zb, YX, by rw [List.length_set]; exact hq, Wd.JK hoq _ _ hcr, by
   have hs := Wd.xO q (i + 4) cr Om;rw [h0, Nat.zero_mul, Nat.add_zero, Nat.pow_add] at hs
   rw [hs, hvq, hv, show vs.take 4 = vs from List.take_of_length_le Om, Wd.nS, ← hx, Nat.add_mul, Nat.mul_assoc x, Nat.mul_comm (Wd.val vs)], fun j hj => by rw [Wd.getD_set_ne _ _ _ _ Om]; exact hzq j Om⟩ Om Ls
 obtain rfl : i = 4 := Om
 rw [show us.take 4 = us from List.take_of_length_le Om, hva, hvb] at hv;have hlw := Sc.KO hok hl;rw [hv] at hlw;rw [hlw] at Bl;refine aU ?_;refine aB func233 rfl (rK _ 8 8 (a * b) _ (Ns.fA Bl (Fp.eE _ _)) hab Om) ?_;rintro e _ ⟨rfl, ex⟩;refine au 1 ?_;replace E := E.ext ex; have C4 := B4.ext E; replace E0 := E0.ext E;refine af (ag rfl rfl (by rw [ao]; kernel_rfl) C4 (by rw [ao, ao]) (dj _)) rfl ?_;rintro _ _ ⟨rfl, D4, cg⟩;replace E0 := E0.aw cg Om;refine aU ?_;exact aa4 rfl D4 (ao _) ⟨rfl, E0⟩
end
section
open Go.RowKit Tryz Go.ChangeMaps
attribute [local irreducible] Y Ef WL WC WK WQ WM cu WN WF db
namespace Sc
theorem Ow (n i : Nat) (hi : i < 32) : wd n (i / 8) / 2 ^ (i % 8 * 8) % 256 = n / 256 ^ i % 256 := by
 unfold wd;have hr : i % 8 < 8 := Nat.mod_lt _ Om
 have e : W = 2 ^ (i % 8 * 8) * (256 * 2 ^ (56 - i % 8 * 8)) := by rw [EV, show (256 : Nat) = 2 ^ 8 from rfl, ← Nat.pow_add, ← Nat.pow_add]; congr 1; omega
 have hb : 256 ^ i = W ^ (i / 8) * 2 ^ (i % 8 * 8) := by rw [EV, show (256 : Nat) = 2 ^ 8 from rfl, ← Nat.pow_mul, ← Nat.pow_mul, ← Nat.pow_add]; congr 1; omega
 rw [hb, ← Nat.div_div_eq_div_mul];generalize n / W ^ (i / 8) = x;rw [e, Nat.mod_mul_right_div_self, Nat.mod_mul_right_mod]
end Sc
theorem OC (i x : Nat) : Fp.le (i + 1) x = Fp.le i x ++ [UInt8.ofNat (x / 256 ^ i % 256)] := by unfold Fp.le; rw [List.range_succ, List.map_append]; rfl
theorem Cm (n : Nat) (w : aa9) :
  Ct 197 #[.agg (ws (Sc.wd n))] w fun e w' => ∃ g, e = .returned (.slice (cf g) 32 32) ∧ w.heap.size ≤ g ∧ aq w' g 5 (dc (Fp.le 32 n)) ∧ Ext w w' := by
 have E := Ext.refl w;refine ai 26 func197 ?_;intro _ aa4;refine aU ?_;intro w1 g1 (B1 : aq _ _ _ (ws (Sc.wd n))) YW ex;replace E := E.ext ex;refine aU ?_;have YX := B1.lt;refine af (dC (n := 32) (z := .int .u8 0) (bytes := 1) rfl rfl Tn.u Kr rfl rfl rfl rfl Om Om) rfl ?_;rintro _ _ ⟨g2, rfl, B2, _, ex⟩;obtain ⟨E,B1⟩ := aS ex E B1;replace B2 := B2.congr (show _ = dc (Fp.le 0 n ++ iX 32) from rfl);refine aU ?_;refine aE (fun n' L wr => ∃ (i : Nat), L = [(1, .pointer (cf g1)), (3, .slice (cf g2) 32 32), (7, .int .i64 32), (8, .int .i64 (i : Int))] ∧ n' = 32 - i ∧ (i ≤ 32 ∧ Ext w wr ∧ aq wr g1 141 (ws (Sc.wd n)) ∧ aq wr g2 5 (dc (Fp.le i n ++ iX (32 - i))))) _ _ ⟨0, rfl, rfl, Om, E, B1, B2⟩ Ls ?_;rintro _ n' L wr ⟨i, rfl, rfl, _, E, B1, B2⟩ YU;refine aa1 (fun YV => ?_) (fun YV => ?_)
 ·have hby := Sc.Ow n i Om;refine au 14 ?_;refine ak (dI rfl rfl Om (show IntKind.i64.wrap ((i : Int).tdiv 8) = ((i / 8 : Nat) : Int) from bk rfl Om)) ?_;refine au 1 ?_;refine ak (bM rfl rfl Tn.u Kr (j := i / 8) rfl Om) ?_;refine ak (ah rfl Tn.u rfl (B1.get (lJ _ (Nat.zero_add _) Om))) ?_;refine au 1 ?_;refine ak (cR rfl rfl Om (show ((i : Int).tmod 8) = ((i % 8 : Nat) : Int) from rfl)) ?_;refine ak (cS rfl rfl (bk (n := i % 8 * 8) Om Om)) ?_;refine ak (cn rfl rfl Om (Tj _ _ Om)) ?_;refine ak (bc rfl Tn.u Tn.u (show IntKind.u8.wrap ((Sc.wd n (i / 8) / 2 ^ (i % 8 * 8) : Nat) : Int) = ((UInt8.ofNat (n / 256 ^ i % 256)).toNat : Int) by rw [IntKind.wrap_u8', UInt8.toNat_ofNat', ← hby]; omega)) ?_;refine au 1 ?_;refine af (az rfl rfl rfl Kr B2 (by rw [aV, List.length_append, Fp.cw]; simp [iX]; omega)) rfl ?_;rintro _ _ ⟨rfl, D2, cg⟩;rw [Nat.zero_add, yX (m' := 31 - i) (by rw [Fp.cw]) Om, ← OC] at D2; replace E := E.aw cg Om; replace B1 := B1.aw cg Om; replace B2 := D2.congr (show _ = dc (Fp.le (i + 1) n ++ iX (32 - (i + 1))) by rw [show 32 - (i + 1) = 31 - i by omega]);refine au 7 ?_;refine ae ?_;refine YU _ _ ⟨i + 1, rfl, rfl, Om, E, B1, B2⟩ Om Ls
 refine aU ?_;refine aa4 rfl ?_;obtain rfl : i = 32 := Om
 exact ⟨g2, rfl, Om, B2.congr (by simp [iX]), E⟩
theorem Dl (A : Oa) (n c : Nat) (xs : Lb) (w : aa9) (HA : Bs w A n xs) (hn : n ≤ 1000000) :
  Ct 211 #[.slice A n c] w fun e w' => ∃ v, e = .returned (.tuple #[.agg (ws (Sc.wd v)), .bool (decide (xs.length = 32 ∧ Fp.num xs < Sc.L))]) ∧ (xs.length = 32 ∧ Fp.num xs < Sc.L → v = Fp.num xs) ∧ v < Sc.L ∧ Ext w w' := by
 have hl := HA.1;have hLp := Sc.rW;have YZ : ws z4 = ws (Sc.wd 0) := iN fun j _ => by unfold z4 Sc.wd; simp
 refine cF (s := 4) 33 func211 rfl rfl rfl underlying141 rfl Kr rfl ?_;intro _ aa4;refine aU ?_;intro w1 g2 (B2 : aq _ _ _ (ws z4)) YW ex;have E := ex; have Ze := B2.lt;refine aa1 (fun Y3 => ?_) (fun Y3 => ?_)
 ·refine au 2 ?_;refine ak (aA rfl (cells := ws z4) Kr) ?_;refine af (ag rfl rfl (by rw [ao]; kernel_rfl) B2 (by simp only [ao]) (dj _)) rfl ?_;rintro _ _ ⟨rfl, D2, cg⟩;replace E := E.aw cg YW; rw [YZ] at D2;refine aU ?_;exact aa4 rfl rfl D2 (ao _) ⟨0, by rw [decide_eq_false (show ¬ (xs.length = 32 ∧ Fp.num xs < Sc.L) from fun h => Om)], fun h => Om, hLp, E⟩
 have Y0 : xs.length = 32 := Om
 have hN := Fp.lG xs;rw [Y0, show (256 : Nat) ^ 32 = Sc.W ^ 4 by decide +kernel] at hN;have hbor := Sc.EB hN Sc.sR;refine aU ?_;intro w4 g4 (B4 : aq _ _ _ (ws z4)) Zf ex;obtain ⟨E,B2⟩ := aS ex E B2;rw [Sc.oO (Fp.num xs)] at B4;refine aU ?_;refine aE (fun n' L wr => ∃ (i : Nat), L = [(0, .slice A n c), (2, .pointer (cf g2)), (4, .pointer (cf g4)), (12, .int .i64 (i : Int))] ∧ n' = 4 - i ∧ (i ≤ 4 ∧ Ext w wr ∧ aq wr g2 141 (ws z4) ∧ aq wr g4 139 (ws (Sc.nV (Fp.num xs) i)))) _ _ ⟨0, rfl, rfl, Om, E, B2, B4⟩ Ls ?_;rintro _ n' L wr ⟨i, rfl, rfl, _, E, B2, B4⟩ Za;refine aa1 (fun Zb => ?_) (fun Zb => ?_)
 ·refine au 14 ?_;refine ak (cS rfl rfl (bk (n := 8 * i) Om Om)) ?_;refine aB func232 rfl (vN A n c i xs _ (HA.ext E) Om hn) ?_;rintro e _ ⟨rfl, ex⟩;obtain ⟨E,B2,B4⟩ := bh ex E B2 B4;refine au 2 ?_;refine af (az rfl rfl rfl Kr B4 (by rw [ao]; omega)) rfl ?_;rintro _ _ ⟨rfl, D4, cg⟩;rw [Sc.oV rfl] at D4; replace E := E.aw cg Om; replace B2 := B2.aw cg Om; replace B4 := D4;refine au 7 ?_;refine ae ?_;refine Za _ _ ⟨i + 1, rfl, rfl, Om, E, B2, B4⟩ Om Ls
 refine aU ?_;obtain rfl : i = 4 := Om
 rw [Sc.qT] at B4;refine dA Kr 9 rfl ?_; intro Zc ex Zg;obtain ⟨E,B2,B4⟩ := bh ex E B2 B4;have Zd := E;have YX := B2;have YU := B4;have X0 := Ext.refl Zc;refine dz 0 rfl Kr ((aP rfl Tn.u rfl (by rw [ao]; kernel_rfl) YU)) rfl ?_;refine dx (fl := [sj 6 6 139 (ws z4)]) rfl ?_;refine j9 1 (some 24) func245 ?_;intro _ ex exb;obtain ⟨E,B2,B4,X0⟩ := bG ex E B2 B4 X0;refine ⟨_, (sP _), ?_⟩;rintro e _ ⟨rfl, ex⟩;refine ⟨_, rfl, ex, ?_⟩;obtain ⟨E,B2,B4,X0⟩ := bG ex E B2 B4 X0;refine j9 2 (some 25) func244 ?_;intro _ ex exb;obtain ⟨E,B2,B4,X0⟩ := bG ex E B2 B4 X0;refine ⟨_, (AK (Fp.num xs) Sc.L _ (by have := Sc.sR; omega)), ?_⟩;rintro e _ ⟨rfl, ex⟩;refine ⟨_, rfl, ex, ?_⟩;obtain ⟨E,B2,B4,X0⟩ := bG ex E B2 B4 X0;rw [hbor];refine ju (dst := some 22) 3 rfl Kr (aL rfl) rfl (aN (aa2 rfl) av) ?_;refine ju (dst := some 26) 4 rfl Kr (cM rfl rfl) rfl (aN (aa2 rfl) av) ?_;refine ju (dst := some 27) 5 rfl Kr (cM rfl rfl) rfl (aN (aa2 rfl) av) ?_;refine gR ⟨(aN (br rfl Kr) av), aa2 rfl, aa2 rfl, (aN (⟨rfl, aa2 rfl⟩) av), (aN (aQ Kr) av)⟩ Kr ?_;rintro _ _ ex ⟨⟨g6, rfl, Y2⟩, YY⟩;replace YY := YY g6 rfl;obtain ⟨E,B2,B4,X0⟩ := bG ex E B2 B4 X0;refine cY 7 Kr ?_;refine er rfl (ag rfl rfl (by rw [ao]; kernel_rfl) Y2 (by rw [ao, ao]) (dj _)) rfl ?_;rintro _ _ ⟨rfl, Y2, cg⟩;replace X0 := X0.aw cg YY;refine ⟨X0, ?_⟩;replace E := Zd.ext X0;replace B2 := YX.ext X0;replace B4 := YU.ext X0;refine zm [8] ?_;refine dM Kr ?_;refine aa1 (fun YV => ?_) (fun YV => ?_)
 ·have hge : ¬ Fp.num xs < Sc.L := fun h => by rw [if_pos h] at YV; exact absurd YV (by decide)
  refine au 2 ?_;refine ak (aA rfl (cells := ws z4) Kr) ?_;refine af (ag rfl rfl (by rw [ao]; kernel_rfl) B2 (by simp only [ao]) (dj _)) rfl ?_;rintro _ w9 ⟨rfl, D2, cg⟩;replace E := E.aw cg YW; rw [YZ] at D2;refine aU ?_;exact aa4 rfl rfl D2 (ao _) ⟨0, by rw [decide_eq_false (show ¬ (xs.length = 32 ∧ Fp.num xs < Sc.L) from fun h => hge h.2)], fun h => absurd h.2 hge, hLp, E⟩
 have hlt : Fp.num xs < Sc.L := Classical.byContradiction fun h => by rw [if_neg h] at YV; exact absurd rfl YV
 refine au 4 ?_;refine ak ((aP rfl Tn.u rfl (by rw [ao]; kernel_rfl) B4)) ?_;refine ak (aA rfl (cells := ws (Sc.wd (Fp.num xs))) Kr) ?_;refine af (ag rfl rfl (by rw [ao]; kernel_rfl) B2 (by rw [ao, ao]) (dj _)) rfl ?_;rintro _ w9 ⟨rfl, D2, cg⟩;replace E := E.aw cg YW;refine aU ?_;exact aa4 rfl rfl D2 (ao _) ⟨Fp.num xs, by rw [decide_eq_true ⟨Y0, hlt⟩], fun _ => rfl, hlt, E⟩
end
namespace Ed
open Fp
def uu (P : F × F) : F := (1 + P.2) * inv (1 - P.2)
def K (X Z : F) (P : F × F) : Prop := X - Z = P.2 * (X + Z) ∧ X + Z ≠ 0
theorem KF (e : F) : 1 + e * 0 * 0 = 1 := by
 have h : e * 0 * 0 = 0 := by grind
 simp_all
theorem JX {y : F} : 1 + d * y * y ≠ 0 := fun h => by
 have h1 : im * im = d * (y * y) := by rw [Ni]; grind
 have h2 := Gl h1;subst h2;rw [KF] at h;exact qY h
theorem Vj {P : F × F} (h : On P) : P.1 * P.1 * (1 + d * P.2 * P.2) = P.2 * P.2 - 1 := by obtain ⟨x, y⟩ := P;unfold On at h;grind
theorem UD : (of 121666) ≠ 0 := by decide +kernel
theorem Wb : of 121666 = 1 + of 121665 := by decide +kernel
theorem RU : d * of 121666 = - of 121665 := by decide +kernel
theorem Rh {px pz : F} {P : F × F} (hP : On P) (h : K px pz P) :
  K ((px + pz) * (px + pz) * ((px - pz) * (px - pz))) (((px + pz) * (px + pz) - (px - pz) * (px - pz)) * ((px + pz) * (px + pz) + ((px + pz) * (px + pz) - (px - pz) * (px - pz)) * of 121665)) (add P P) := by
 obtain ⟨h1, h2⟩ := h;have hx := Vj hP;have hy := oq hP hP;have hm := mq hP hP;have hp := JX (y := P.2);have hc := UD;have hci := Wb;have hd := RU;rw [h1]
 generalize add P P = R at *
 obtain ⟨x, y⟩ := P;obtain ⟨rx, ry⟩ := R;unfold K
 simp only at *
 generalize px + pz = a at *
 generalize of 121666 = c at *
 generalize of 121665 = A at *
 generalize d = D at *
 clear h1 hP;obtain rfl : A = c - 1 := by grind
 have key : a * a * (y * a * (y * a)) + (a * a - y * a * (y * a)) * (a * a + (a * a - y * a * (y * a)) * (c - 1)) = a * a * (a * a) * (c * ((1 - D * x * x * y * y) * (1 + D * y * y))) := by grind
 have YU : a * a * (y * a * (y * a)) - (a * a - y * a * (y * a)) * (a * a + (a * a - y * a * (y * a)) * (c - 1)) = a * a * (a * a) * (c * ((y * y + x * x) * (1 + D * y * y))) := by grind
 rw [key, YU];refine ⟨?_, dp (dp (dp h2 h2) (dp h2 h2)) (dp hc (dp hm hp))⟩;grind
theorem Ux {D m n xp xr : F} (hP : m * m - xp * xp = 1 + D * xp * xp * m * m) (hR : n * n - xr * xr = 1 + D * xr * xr * n * n) :
    ((m + n) * (m + n) * (1 + D * xp * xr * m * n - m * n + xp * xr) - (1 + D * xp * xr * m * n + m * n - xp * xr) * ((n - m) * (n - m))) * (1 - D * xp * xr * m * n)
     = (m * n + xp * xr) * ((m + n) * (m + n) * (1 + D * xp * xr * m * n - m * n + xp * xr) + (1 + D * xp * xr * m * n + m * n - xp * xr) * ((n - m) * (n - m))) := by
  grind
theorem JD {D x : F} (h : 0 * 0 - x * x = 1 + D * x * x * 0 * 0) : x * x = -1 := by rw [KF] at h;grind
theorem wX {a : F} (h : a * a = 0) : a = 0 := (zero_or h).elim id id
theorem Rl {px pz qx qz u : F} {P R Q : F × F} (hP : On P) (hR : On R) (h : K px pz P) (k : K qx qz R) (hQ : Q.2 = (add R (neg P)).2) (hu : u * (1 - Q.2) = 1 + Q.2) (YW : u ≠ 0) (hq : 1 - Q.2 ≠ 0) :
  K (((qx - qz) * (px + pz) + (qx + qz) * (px - pz)) * ((qx - qz) * (px + pz) + (qx + qz) * (px - pz))) (u * (((qx - qz) * (px + pz) - (qx + qz) * (px - pz)) * ((qx - qz) * (px + pz) - (qx + qz) * (px - pz)))) (add P R) := by
 obtain ⟨h1, h2⟩ := h;obtain ⟨k1, k2⟩ := k;have hy := oq hP hR;have hm := mq hP hR;have YV := oq hR (xC hP);have YU := mq hR (xC hP);rw [h1, k1];rw [hQ] at hu hq;have hPR : add P R = add P R := rfl;have k0 := @Ux d P.2 R.2 P.1 R.1 (by have := hP; unfold On at this; exact this) (by have := hR; unfold On at this; exact this)
 generalize add P R = S at *
 generalize hT : add R (neg P) = T at *
 have en : neg P = (-P.1, P.2) := rfl;rw [en] at YV YU;have oP := hP;have oR := hR;unfold On at oP oR;obtain ⟨xp, m⟩ := P;obtain ⟨xr, n⟩ := R;obtain ⟨sx, sy⟩ := S;obtain ⟨tx, ty⟩ := T;unfold K
 simp only at *
 generalize px + pz = a at *
 generalize qx + qz = c at *
 generalize d = D at *
 clear h1 k1 en hT hP hR;have e1 : 1 - D * xr * -xp * n * m = 1 + D * xp * xr * m * n := by grind
 have e2 : n * m + xr * -xp = m * n - xp * xr := by grind
 rw [e1] at YU YV;rw [e2] at YV;clear e1 e2;have hac := dp (dp h2 k2) (dp h2 k2);have f1 : (n * c * a + c * (m * a)) * (n * c * a + c * (m * a)) = a * c * (a * c) * ((m + n) * (m + n)) := by grind
 have f2 : u * ((n * c * a - c * (m * a)) * (n * c * a - c * (m * a))) = a * c * (a * c) * (u * ((n - m) * (n - m))) := by grind
 rw [f1, f2];clear f1 f2
 -- u by its quotient
 have g1 : u * (1 + D * xp * xr * m * n - m * n + xp * xr) = 1 + D * xp * xr * m * n + m * n - xp * xr := by
  have : (1 + D * xp * xr * m * n) * (u * (1 - ty)) = (1 + D * xp * xr * m * n) * (1 + ty) := by rw [hu]
  clear hy hm hu hq k0 oP oR;grind
 have g2 : 1 + D * xp * xr * m * n - m * n + xp * xr ≠ 0 := fun hc => by
  have : (1 + D * xp * xr * m * n) * (1 - ty) = 0 := by clear hy hm hu hq k0 oP oR g1;grind
  exact dp YU hq this
 generalize 1 + D * xp * xr * m * n - m * n + xp * xr = W at *
 rw [← g1] at k0
 have main : (m + n) * (m + n) - u * ((n - m) * (n - m)) = sy * ((m + n) * (m + n) + u * ((n - m) * (n - m))) := by refine cancel (dp hm g2) ?_;rw [← hy] at k0;clear hy YV hm YU hu hq oP oR g1 g2 hac;grind
 have nz : (m + n) * (m + n) + u * ((n - m) * (n - m)) ≠ 0 := fun hc => by
  rw [hc] at main;have z1 : 2 * ((m + n) * (m + n)) = 0 := by clear hy YV hm YU hu hq oP oR g1 g2 hac k0; grind
  have z2 : 2 * (u * ((n - m) * (n - m))) = 0 := by clear hy YV hm YU hu hq oP oR g1 g2 hac k0 z1; grind
  have z3 := wX ((zero_or z1).resolve_left mG);have z4 := wX ((zero_or ((zero_or z2).resolve_left mG)).resolve_left YW);have z5 : 2 * m = 0 := by grind
  have z6 : 2 * n = 0 := by grind
  obtain rfl := (zero_or z5).resolve_left mG;obtain rfl := (zero_or z6).resolve_left mG
  -- both have y = 0: their difference has y = 1 or -1
  have q1 := JD oP;have q2 := JD oR;have q3 : ty = - (xp * xr) := by clear hy hm YU hu hq oP oR g1 g2 hac k0 z1 z2 main hc z3 z4 z5 z6 q1 q2; grind
  have q4 : ty * ty = 1 := by rw [q3]; clear hy YV hm YU hu hq oP oR g1 g2 hac k0 z1 z2 main hc z3 z4 z5 z6 q3; grind
  have q5 : (1 - ty) * (1 + ty) = 0 := by clear hy YV hm YU hu hq oP oR g1 g2 hac k0 z1 z2 main hc z3 z4 z5 z6 q3 q1 q2; grind
  have q6 := (zero_or q5).resolve_left hq;rw [q6] at hu;exact dp YW hq hu
 refine ⟨?_, ?_⟩
 ·clear hy YV hm YU hu hq oP oR g1 g2 hac k0 nz;grind
 have := dp hac nz;clear hy YV hm YU hu hq oP oR g1 g2 hac k0 nz main;grind
theorem Wx {X Z : F} {P : F × F} (h : K X Z P) : X * inv Z = uu P := by
 obtain ⟨h1, h2⟩ := h;unfold uu
 generalize P.2 = y at *
 by_cases hy : 1 - y = 0
 ·have hz : 2 * Z = 0 := by grind
  have YU := (zero_or hz).resolve_left mG;rw [YU, hy, inv_zero];grind
 have hz : Z ≠ 0 := fun hc => by
  subst hc;have : (1 - y) * X = 0 := by grind
  have hX := (zero_or this).resolve_left hy;grind
 have m1 := lQ hy;have m2 := lQ hz;grind
theorem IQ {P Q : F × F} : (add (neg P) (neg Q)).2 = (add P Q).2 := by unfold add neg;grind
def WX (s : (F × F) × (F × F)) (m : Nat) (Q : F × F) : Prop := K s.1.1 s.1.2 (mul m Q) ∧ K s.2.1 s.2.2 (mul (m + 1) Q)
def top : Nat := 57896044618658097711785492504343953926634992332820282019728792003956564819968
theorem Qv : top = 2 ^ 255 := by decide +kernel
theorem BE : p < top := by decide +kernel
theorem Ji : 2 * top = 256 ^ 32 := by decide +kernel
theorem xW : ∀ {a b : List UInt8}, a.length = b.length → num a = num b → a = b
  | [], [], _, _ => rfl
  | [], _ :: _, h, _ => by simp at h
  | _ :: _, [], h, _ => by simp at h
  | x :: a, y :: b, h, e => by
    simp only [num] at e;have hx := x.toNat_lt; have hy := y.toNat_lt;have h1 : x.toNat = y.toNat := Om
    have h2 : num a = num b := Om
    rw [UInt8.toNat_inj.1 h1, xW (by simpa using h) h2]
theorem LW (h : b.length = 32) : num b < 2 * top := by rw [Ji, ← h]; exact lG b
theorem AX (h : b.length = 32) : num b / top = (b.getD 31 0).toNat / 128 := by
 have h1 := mU b 31 (Om)
 have e : b.drop 31 = [b.getD 31 0] := by rw [List.drop_eq_getElem_cons (Om), List.drop_of_length_le (Om), List.getD_eq_getElem?_getD, List.getElem?_eq_getElem (Om)]; rfl
 rw [e] at h1;have h2 : (b.getD 31 0).toNat = num b / 256 ^ 31 := by rw [← h1]; simp [num]
 rw [h2, Nat.div_div_eq_div_mul];rfl
def sq (y : F) : F := (y * y - 1) * inv (d * (y * y) + 1)
theorem SI (e : F) : e * (0 * 0) + 1 = 1 := by
 have h3 : e * (0 * 0) = 0 := by grind
 simp_all
theorem Mz (y : F) : d * (y * y) + 1 ≠ 0 := fun h => by
 have h1 : im * im = d * (y * y) := by rw [Ni]; grind
 have h2 := Gl h1;subst h2;rw [SI] at h;exact qY h
theorem Tu (y : F) : sq y * (d * (y * y) + 1) = y * y - 1 := div_mul (Mz y)
theorem DI {x y : F} : On (x, y) ↔ x * x = sq y := by
 have h := Tu y;have hp := Mz y;unfold On;simp only
 generalize d = D at *
 generalize sq y = s at *
 constructor
 ·intro _;refine cancel hp ?_;grind
 grind
def dec (b : List UInt8) : Option (F × F) :=
 if b.length ≠ 32 ∨ p ≤ num b % top then none
 else if ¬ rX (sq (of (num b % top))) ∨ (root (sq (of (num b % top))) = 0 ∧ top ≤ num b) then none
 else some (if top ≤ num b then - root (sq (of (num b % top))) else root (sq (of (num b % top))), of (num b % top))
def enc (P : F × F) : List UInt8 := le 32 (P.2.val + top * (P.1.val % 2))
theorem gZ (P : F × F) : (enc P).length = 32 := cw ..
theorem Sk (P : F × F) : P.2.val + top * (P.1.val % 2) < 2 * top := by have h1 := P.2.isLt; have h2 := BE;have := Nat.mod_lt P.1.val (show 0 < 2 by omega);rcases (show P.1.val % 2 = 0 ∨ P.1.val % 2 = 1 by omega) with h | h <;> rw [h] <;> omega
theorem EZ (P : F × F) : num (enc P) = P.2.val + top * (P.1.val % 2) := mo 32 _ (by rw [← Ji]; exact Sk P)
theorem Tg {P : F × F} (h : dec b = some P) : On P := by
 unfold dec at h;split at h
 ·cases h
 split at h
 ·cases h
 rename_i h1 h2;injection h with h
 subst h;have hs : rX (sq (of (num b % top))) := Classical.byContradiction fun hc => h2 (.inl hc);have hr := wU hs;refine DI.2 ?_;split
 ·generalize root (sq (of (num b % top))) = r at *
  generalize sq (of (num b % top)) = s at *
  clear h1 h2 hs;grind
 exact hr
theorem PA {x : F} (h : x.val % 2 = 0) (h0 : x ≠ 0) : (-x).val % 2 = 1 := by
 rw [val_neg];have hp : p % 2 = 1 := by decide +kernel
 have hx : x.val ≠ 0 := fun h => h0 (val_eq_zero.1 h);rw [show (p - x.val) % p = p - x.val from Nat.mod_eq_of_lt (Om)];omega
theorem so {P : F × F} (h : On P) : dec (enc P) = some P := by
 obtain ⟨x, y⟩ := P;have hx := DI.1 h;have hy := y.isLt;have hpt := BE;have hs := lP hx;have hr := wU hs;have hm : (y.val + top * (x.val % 2)) % top = y.val := by rw [Nat.add_mul_mod_self_left, Nat.mod_eq_of_lt (Om)]
 have ht : top ≤ y.val + top * (x.val % 2) ↔ x.val % 2 = 1 := by rcases (show x.val % 2 = 0 ∨ x.val % 2 = 1 by omega) with h | h <;> rw [h] <;> omega
 unfold dec;rw [EZ, gZ];simp only;rw [hm, Cr, if_neg (by rintro (hc | hc) <;> omega)];have hre := vO (sq y);rcases vC (hx.trans hr.symm) with e | e
 ·have hev : x.val % 2 = 0 := by rw [e]; exact hre
  rw [if_neg (by rintro (hc | ⟨_, hc⟩); (· exact hc hs); (· rw [ht] at hc; omega)), if_neg (by rw [ht]; omega), ← e]
 by_cases h0 : root (sq y) = 0
 ·have YU : x = 0 := by rw [e, h0]; decide +kernel
  have hev : x.val % 2 = 0 := by rw [YU]; rfl
  rw [if_neg (by rintro (hc | ⟨_, hc⟩); (· exact hc hs); (· rw [ht] at hc; omega)), if_neg (by rw [ht]; omega), h0, YU]
 have hod : x.val % 2 = 1 := by rw [e]; exact PA hre h0
 rw [if_neg (by rintro (hc | ⟨hc, _⟩); (· exact hc hs); (· exact h0 hc)), if_pos (ht.2 hod), ← e]
theorem TS (x : F) : of (RR (le 32 x.val)) = x := by have hl := x.isLt;have hv : num (le 32 x.val) = x.val := mo 32 x.val (by unfold p at hl; omega);unfold RR;rw [List.take_of_length_le (by rw [cw]; omega), hv, show x.val % 57896044618658097711785492504343953926634992332820282019728792003956564819968 = x.val from Nat.mod_eq_of_lt (by unfold p at hl; omega), Nat.mod_eq_of_lt hl, Cr]
end Ed
end
open Go.RowKit Tryz
attribute [local irreducible] Y Ef WL WC WK WQ WM cu WN WF db
theorem FE.fe {cs : Array Value} {a : Fp.F} (h : FE cs a) : ∃ f, cs = fe f ∧ FE (fe f) a := by obtain ⟨f, rfl, h1, h2⟩ := h; exact ⟨f, rfl, f, rfl, h1, h2⟩
def pr (f g : Nat → Nat) : Array Value := fe f ++ fe g
theorem cx (f g : Nat → Nat) : (pr f g).size = 10 := by rw [pr, Array.size_append, aj, aj]
theorem mK (f g : Nat → Nat) : (pr f g).all (·.oneCell') = true := by rw [pr, Array.all_append, bg, bg]; rfl
theorem TX (f g : Nat → Nat) (j : Nat) (v : Value) (h : (fe f)[j]? = some v) : (pr f g)[j]? = some v := by rw [pr, Array.getElem?_append_left (Array.getElem?_eq_some_iff.1 h).1]; exact h
theorem TM (f g : Nat → Nat) (j : Nat) (v : Value) (h : (fe g)[j]? = some v) : (pr f g)[5 + j]? = some v := by rw [pr, Array.getElem?_append_right (by rw [aj]; omega), aj, Nat.add_sub_cancel_left]; exact h
section
variable {L : List (Nat × Value)} {w : aa9} {ty e : TypeId} {x : Operand} {f h : Nat → Nat}
theorem cL (hx : ev L x = some (.pointer (cf g))) (B : aq w g e (fe f)) : Y Tryz.prog L w (.load 134 x) ty (.agg (fe f)) := aP hx underlying134 rfl (by rw [aj]; kernel_rfl) B
theorem QC (hx : ev L x = some (.pointer (cf g))) (B : aq w g e (pr f h)) : Y Tryz.prog L w (.load 300 x) ty (.agg (pr f h)) := aP hx underlying300 rfl (by rw [cx]; kernel_rfl) B
theorem vt (hx : ev L x = some (.pointer (cf g))) (B : aq w g e (pr f h)) : Y Tryz.prog L w (.load 134 x) ty (.agg (fe f)) :=
 ew hx underlying134 rfl (by rw [aj]; kernel_rfl) fun j v hv => by rw [Addr.add_plain, Nat.zero_add, B.cell]; exact TX f h j v hv
theorem vU (hx : ev L x = some (.pointer (some ⟨g, 5, none⟩))) (B : aq w g e (pr f h)) : Y Tryz.prog L w (.load 134 x) ty (.agg (fe h)) :=
 ew hx underlying134 rfl (by rw [aj]; kernel_rfl) fun j v hv => by rw [Addr.add_plain, B.cell]; exact TM f h j v hv
end
def IE (px pz qx qz u : Fp.F) : (Fp.F × Fp.F) × (Fp.F × Fp.F) :=
 let a := px + pz; let b := px - pz; let c := qx + qz; let d := qx - qz
 let da := d * a; let cb := c * b; let aa := a * a; let bb := b * b; let e := aa - bb
 ((aa * bb, e * (aa + e * Fp.of 121665)), ((da + cb) * (da + cb), u * ((da - cb) * (da - cb))))
theorem ux (p1 p2 q1 q2 f5 : Nat → Nat) (px pz qx qz u : Fp.F) (w : aa9) (P1 : FE (fe p1) px) (P2 : FE (fe p2) pz) (Q1 : FE (fe q1) qx) (Q2 : FE (fe q2) qz) (U : FE (fe f5) u) :
  Ct 259 #[.agg (pr p1 p2), .agg (pr q1 q2), .agg (fe f5)] w fun e w' => ∃ f1 f2 f3 f4, e = .returned (.tuple #[.agg (pr f1 f2), .agg (pr f3 f4)]) ∧ FE (fe f1) (IE px pz qx qz u).1.1 ∧ FE (fe f2) (IE px pz qx qz u).1.2 ∧ FE (fe f3) (IE px pz qx qz u).2.1 ∧ FE (fe f4) (IE px pz qx qz u).2.2 ∧ Ext w w' := by
 have E := Ext.refl w;refine CU (s := 10) (s' := 10) 72 func259 rfl rfl rfl underlying300 rfl Kr underlying300 rfl Kr rfl ?_;intro _ aa4;refine aU ?_;intro w1 g3 (B3 : aq _ _ _ (pr p1 p2)) hg3 ex;replace E := E.ext ex;refine aU ?_;intro w2 g4 (B4 : aq _ _ _ (pr q1 q2)) hg4 ex;obtain ⟨E,B3⟩ := aS ex E B3;refine aU ?_;intro w3 g5 (B5 : aq _ _ _ (fe f5)) hg5 ex;obtain ⟨E,B3,B4⟩ := bh ex E B3 B4;have E0 := E;refine aU ?_;intro w4 g6 (B6 : aq _ _ _ (pr (fun _ => 0) (fun _ => 0))) hg6 ex;obtain ⟨E,B3,B4,B5⟩ := bG ex E B3 B4 B5;have hw6 : w.heap.size ≤ g6 := Nat.le_trans E0.size hg6;have E1 := E; have B6o := B6;refine aU ?_;intro w5 g7 (B7 : aq _ _ _ (pr (fun _ => 0) (fun _ => 0))) hg7 ex;obtain ⟨E,B3,B4,B5,B6⟩ := fR ex E B3 B4 B5 B6;have hw7 : w.heap.size ≤ g7 := Nat.le_trans E1.size hg7; have Z8 : g6 ≠ g7 := by have := B6o.lt; omega
 refine aU ?_;refine dA Kr 14 rfl ?_; intro wd1 ex hd1;obtain ⟨E,B3,B4,B5,B6,B7⟩ := iz ex E B3 B4 B5 B6 B7;have Zk := E;have Zs := B3;have Zd := B4;have Y3 := B5;have Za := B6;have Zb := B7;have X0 := Ext.refl wd1;refine zm [0] ?_;refine dz 1 rfl Kr (vt rfl Zs) rfl ?_;refine zm [2] ?_;refine dz 3 rfl Kr (vU rfl Zs) rfl ?_;refine zm [5] ?_;refine dz 6 rfl Kr (vt rfl Zs) rfl ?_;refine zm [7] ?_;refine dz 8 rfl Kr (vU rfl Zs) rfl ?_;refine dx (fl := [sj 10 8 134 (fe (fun _ => 0)), sj 11 9 134 (fe (fun _ => 0))]) rfl ?_;refine j9 4 (some 21) func151 ?_;intro _ ex exb;obtain ⟨E,B4,B5,B6,B7,X0⟩ := iz ex E B4 B5 B6 B7 X0;refine ⟨_, (eB P1 P2 _), ?_⟩;rintro e _ ⟨_, rfl, F8, ex⟩;refine ⟨_, rfl, ex, ?_⟩;obtain ⟨E,B4,B5,B6,B7,X0⟩ := iz ex E B4 B5 B6 B7 X0;obtain ⟨f8, rfl, F8⟩ := F8.fe;refine j9 9 (some 26) func206 ?_;intro _ ex exb;obtain ⟨E,B4,B5,B6,B7,X0⟩ := iz ex E B4 B5 B6 B7 X0;refine ⟨_, (gL P1 P2 _), ?_⟩;rintro e _ ⟨_, rfl, F9, ex⟩;refine ⟨_, rfl, ex, ?_⟩;obtain ⟨E,B4,B5,B6,B7,X0⟩ := iz ex E B4 B5 B6 B7 X0;obtain ⟨f9, rfl, F9⟩ := F9.fe;refine jK ⟨(aN (br rfl Kr) (aN (br rfl Kr) av)), aa2 rfl, aa2 rfl, (aN (⟨rfl, aa2 rfl⟩) (aN (⟨rfl, aa2 rfl⟩) av)), (aN (aQ Kr) (aN (aQ Kr) av))⟩ Kr ?_;rintro _ _ _ ex ⟨⟨g8, rfl, YW⟩, ZO⟩ ⟨⟨g9, rfl, YX⟩, ZP⟩ Zl;replace ZO := ZO g8 rfl;replace ZP := ZP g9 rfl;have ZJ : g8 ≠ g9 := fun e => Zl g8 rfl (by rw [e]; rfl);obtain ⟨E,B4,B5,B6,B7,X0⟩ := iz ex E B4 B5 B6 B7 X0;refine cY 12 Kr ?_;refine er rfl (ag rfl rfl (by rw [aj]; kernel_rfl) YW (by rw [aj, aj]) (bg _)) rfl ?_;rintro _ _ ⟨rfl, YW, cg⟩;replace X0 := X0.aw cg ZO;refine ⟨X0, ?_⟩;replace E := Zk.ext X0;replace B4 := Zd.ext X0;replace B5 := Y3.ext X0;replace B6 := Za.ext X0;replace B7 := Zb.ext X0;replace YX := YX.aw cg Om;refine cY 13 Kr ?_;refine er rfl (ag rfl rfl (by rw [aj]; kernel_rfl) YX (by rw [aj, aj]) (bg _)) rfl ?_;rintro _ _ ⟨rfl, YX, cg⟩;replace X0 := X0.aw cg ZP;refine ⟨X0, ?_⟩;replace E := Zk.ext X0;replace B4 := Zd.ext X0;replace B5 := Y3.ext X0;replace B6 := Za.ext X0;replace B7 := Zb.ext X0;replace YW := YW.aw cg Om;refine dM Kr ?_;refine aU ?_;refine dA Kr 14 rfl ?_; intro wd2 ex hd2;obtain ⟨E,B4,B5,B6,B7,YW,YX⟩ := iW ex E B4 B5 B6 B7 YW YX;have Zk := E;have Zd := B4;have Y3 := B5;have Za := B6;have Zb := B7;have Y0 := YW;have Y2 := YX;have X0 := Ext.refl wd2;refine zm [0] ?_;refine dz 1 rfl Kr (vt rfl Zd) rfl ?_;refine zm [2] ?_;refine dz 3 rfl Kr (vU rfl Zd) rfl ?_;refine zm [5] ?_;refine dz 6 rfl Kr (vt rfl Zd) rfl ?_;refine zm [7] ?_;refine dz 8 rfl Kr (vU rfl Zd) rfl ?_;refine dx (fl := [sj 10 10 134 (fe (fun _ => 0)), sj 11 11 134 (fe (fun _ => 0))]) rfl ?_;refine j9 4 (some 31) func151 ?_;intro _ ex exb;obtain ⟨E,B5,B6,B7,YW,YX,X0⟩ := iW ex E B5 B6 B7 YW YX X0;refine ⟨_, (eB Q1 Q2 _), ?_⟩;rintro e _ ⟨_, rfl, ZQ, ex⟩;refine ⟨_, rfl, ex, ?_⟩;obtain ⟨E,B5,B6,B7,YW,YX,X0⟩ := iW ex E B5 B6 B7 YW YX X0;obtain ⟨f10, rfl, ZQ⟩ := ZQ.fe;refine j9 9 (some 36) func206 ?_;intro _ ex exb;obtain ⟨E,B5,B6,B7,YW,YX,X0⟩ := iW ex E B5 B6 B7 YW YX X0;refine ⟨_, (gL Q1 Q2 _), ?_⟩;rintro e _ ⟨_, rfl, ZR, ex⟩;refine ⟨_, rfl, ex, ?_⟩;obtain ⟨E,B5,B6,B7,YW,YX,X0⟩ := iW ex E B5 B6 B7 YW YX X0;obtain ⟨f11, rfl, ZR⟩ := ZR.fe;refine jK ⟨(aN (br rfl Kr) (aN (br rfl Kr) av)), aa2 rfl, aa2 rfl, (aN (⟨rfl, aa2 rfl⟩) (aN (⟨rfl, aa2 rfl⟩) av)), (aN (aQ Kr) (aN (aQ Kr) av))⟩ Kr ?_;rintro _ _ _ ex ⟨⟨ZS, rfl, Ze⟩, Zt⟩ ⟨⟨g11, rfl, Zf⟩, Zu⟩ Zg;replace Zt := Zt ZS rfl;replace Zu := Zu g11 rfl;have ZE : ZS ≠ g11 := fun e => Zg ZS rfl (by rw [e]; rfl);obtain ⟨E,B5,B6,B7,YW,YX,X0⟩ := iW ex E B5 B6 B7 YW YX X0;refine cY 12 Kr ?_;refine er rfl (ag rfl rfl (by rw [aj]; kernel_rfl) Ze (by rw [aj, aj]) (bg _)) rfl ?_;rintro _ _ ⟨rfl, Ze, cg⟩;replace X0 := X0.aw cg Zt;refine ⟨X0, ?_⟩;replace E := Zk.ext X0;replace B5 := Y3.ext X0;replace B6 := Za.ext X0;replace B7 := Zb.ext X0;replace YW := Y0.ext X0;replace YX := Y2.ext X0;replace Zf := Zf.aw cg Om;refine cY 13 Kr ?_;refine er rfl (ag rfl rfl (by rw [aj]; kernel_rfl) Zf (by rw [aj, aj]) (bg _)) rfl ?_;rintro _ _ ⟨rfl, Zf, cg⟩;replace X0 := X0.aw cg Zu;refine ⟨X0, ?_⟩;replace E := Zk.ext X0;replace B5 := Y3.ext X0;replace B6 := Za.ext X0;replace B7 := Zb.ext X0;replace YW := Y0.ext X0;replace YX := Y2.ext X0;replace Ze := Ze.aw cg Om;refine dM Kr ?_;refine aU ?_;refine dA Kr 10 rfl ?_; intro wd3 ex hd3;obtain ⟨E,B5,B6,B7,YW,YX,Ze,Zf⟩ := GC ex E B5 B6 B7 YW YX Ze Zf;have Zk := E;have Y3 := B5;have Za := B6;have Zb := B7;have Y0 := YW;have Y2 := YX;have Zv := Ze;have Zw := Zf;have X0 := Ext.refl wd3;refine dz 0 rfl Kr (cL rfl Zw) rfl ?_;refine dz 1 rfl Kr (cL rfl Y0) rfl ?_;refine dz 3 rfl Kr (cL rfl Zv) rfl ?_;refine dz 4 rfl Kr (cL rfl Y2) rfl ?_;refine dx (fl := [sj 6 12 134 (fe (fun _ => 0)), sj 7 13 134 (fe (fun _ => 0))]) rfl ?_;refine j9 2 (some 39) func144 ?_;intro _ ex exb;obtain ⟨E,B5,B6,B7,YW,YX,X0⟩ := iW ex E B5 B6 B7 YW YX X0;refine ⟨_, (bo ZR F8 _), ?_⟩;rintro e _ ⟨_, rfl, ZK, ex⟩;refine ⟨_, rfl, ex, ?_⟩;obtain ⟨E,B5,B6,B7,YW,YX,X0⟩ := iW ex E B5 B6 B7 YW YX X0;obtain ⟨f12, rfl, ZK⟩ := ZK.fe;refine j9 5 (some 42) func144 ?_;intro _ ex exb;obtain ⟨E,B5,B6,B7,YW,YX,X0⟩ := iW ex E B5 B6 B7 YW YX X0;refine ⟨_, (bo ZQ F9 _), ?_⟩;rintro e _ ⟨_, rfl, ZL, ex⟩;refine ⟨_, rfl, ex, ?_⟩;obtain ⟨E,B5,B6,B7,YW,YX,X0⟩ := iW ex E B5 B6 B7 YW YX X0;obtain ⟨f13, rfl, ZL⟩ := ZL.fe;refine jK ⟨(aN (br rfl Kr) (aN (br rfl Kr) av)), aa2 rfl, aa2 rfl, (aN (⟨rfl, aa2 rfl⟩) (aN (⟨rfl, aa2 rfl⟩) av)), (aN (aQ Kr) (aN (aQ Kr) av))⟩ Kr ?_;rintro _ _ _ ex ⟨⟨ZT, rfl, YU⟩, Zx⟩ ⟨⟨g13, rfl, YV⟩, Zy⟩ Zh;replace Zx := Zx ZT rfl;replace Zy := Zy g13 rfl;have ZF : ZT ≠ g13 := fun e => Zh ZT rfl (by rw [e]; rfl);obtain ⟨E,B5,B6,B7,YW,YX,X0⟩ := iW ex E B5 B6 B7 YW YX X0;refine cY 8 Kr ?_;refine er rfl (ag rfl rfl (by rw [aj]; kernel_rfl) YU (by rw [aj, aj]) (bg _)) rfl ?_;rintro _ _ ⟨rfl, YU, cg⟩;replace X0 := X0.aw cg Zx;refine ⟨X0, ?_⟩;replace E := Zk.ext X0;replace B5 := Y3.ext X0;replace B6 := Za.ext X0;replace B7 := Zb.ext X0;replace YW := Y0.ext X0;replace YX := Y2.ext X0;replace YV := YV.aw cg Om;refine cY 9 Kr ?_;refine er rfl (ag rfl rfl (by rw [aj]; kernel_rfl) YV (by rw [aj, aj]) (bg _)) rfl ?_;rintro _ _ ⟨rfl, YV, cg⟩;replace X0 := X0.aw cg Zy;refine ⟨X0, ?_⟩;replace E := Zk.ext X0;replace B5 := Y3.ext X0;replace B6 := Za.ext X0;replace B7 := Zb.ext X0;replace YW := Y0.ext X0;replace YX := Y2.ext X0;replace YU := YU.aw cg Om;refine dM Kr ?_;refine aU ?_;refine dA Kr 8 rfl ?_; intro wd4 ex hd4;obtain ⟨E,B5,B6,B7,YW,YX,YU,YV⟩ := GC ex E B5 B6 B7 YW YX YU YV;have Zk := E;have Y3 := B5;have Za := B6;have Zb := B7;have Y0 := YW;have Y2 := YX;have Zm := YU;have Zn := YV;have X0 := Ext.refl wd4;refine dz 0 rfl Kr (cL rfl Y0) rfl ?_;refine dz 2 rfl Kr (cL rfl Y2) rfl ?_;refine dx (fl := [sj 4 14 134 (fe (fun _ => 0)), sj 5 15 134 (fe (fun _ => 0))]) rfl ?_;refine j9 1 (some 44) func205 ?_;intro _ ex exb;obtain ⟨E,B5,B6,B7,YU,YV,X0⟩ := iW ex E B5 B6 B7 YU YV X0;refine ⟨_, (bY F8 _), ?_⟩;rintro e _ ⟨_, rfl, ZH, ex⟩;refine ⟨_, rfl, ex, ?_⟩;obtain ⟨E,B5,B6,B7,YU,YV,X0⟩ := iW ex E B5 B6 B7 YU YV X0;obtain ⟨f14, rfl, ZH⟩ := ZH.fe;refine j9 3 (some 46) func205 ?_;intro _ ex exb;obtain ⟨E,B5,B6,B7,YU,YV,X0⟩ := iW ex E B5 B6 B7 YU YV X0;refine ⟨_, (bY F9 _), ?_⟩;rintro e _ ⟨_, rfl, ZM, ex⟩;refine ⟨_, rfl, ex, ?_⟩;obtain ⟨E,B5,B6,B7,YU,YV,X0⟩ := iW ex E B5 B6 B7 YU YV X0;obtain ⟨f15, rfl, ZM⟩ := ZM.fe;refine jK ⟨(aN (br rfl Kr) (aN (br rfl Kr) av)), aa2 rfl, aa2 rfl, (aN (⟨rfl, aa2 rfl⟩) (aN (⟨rfl, aa2 rfl⟩) av)), (aN (aQ Kr) (aN (aQ Kr) av))⟩ Kr ?_;rintro _ _ _ ex ⟨⟨ZU, rfl, YY⟩, Zz⟩ ⟨⟨g15, rfl, YZ⟩, ZA⟩ Zi;replace Zz := Zz ZU rfl;replace ZA := ZA g15 rfl;have ZG : ZU ≠ g15 := fun e => Zi ZU rfl (by rw [e]; rfl);obtain ⟨E,B5,B6,B7,YU,YV,X0⟩ := iW ex E B5 B6 B7 YU YV X0;refine cY 6 Kr ?_;refine er rfl (ag rfl rfl (by rw [aj]; kernel_rfl) YY (by rw [aj, aj]) (bg _)) rfl ?_;rintro _ _ ⟨rfl, YY, cg⟩;replace X0 := X0.aw cg Zz;refine ⟨X0, ?_⟩;replace E := Zk.ext X0;replace B5 := Y3.ext X0;replace B6 := Za.ext X0;replace B7 := Zb.ext X0;replace YU := Zm.ext X0;replace YV := Zn.ext X0;replace YZ := YZ.aw cg Om;refine cY 7 Kr ?_;refine er rfl (ag rfl rfl (by rw [aj]; kernel_rfl) YZ (by rw [aj, aj]) (bg _)) rfl ?_;rintro _ _ ⟨rfl, YZ, cg⟩;replace X0 := X0.aw cg ZA;refine ⟨X0, ?_⟩;replace E := Zk.ext X0;replace B5 := Y3.ext X0;replace B6 := Za.ext X0;replace B7 := Zb.ext X0;replace YU := Zm.ext X0;replace YV := Zn.ext X0;replace YY := YY.aw cg Om;refine dM Kr ?_;refine au 4 ?_;refine ak (cL rfl YY) ?_;refine ak (cL rfl YZ) ?_;refine aB func206 rfl (gL ZH ZM _) ?_;rintro e _ ⟨_, rfl, ZN, ex⟩;obtain ⟨E,B5,B6,B7,YU,YV,YY,YZ⟩ := GC ex E B5 B6 B7 YU YV YY YZ;obtain ⟨f16, rfl, ZN⟩ := ZN.fe;have ZI := E;have ZB := B5;have ZC := B6;have ZD := B7;have Zo := YU;have Zp := YV;have Zq := YY;have Zr := YZ;refine aU ?_;intro wn5_3 g16 (Zj : aq _ _ _ (fe (fun _ => 0))) ZV ex;have Zc := ex;obtain ⟨E,B5,B6,B7,YU,YV,YY,YZ⟩ := GC ex E B5 B6 B7 YU YV YY YZ;refine af (ag rfl rfl (by rw [aj]; kernel_rfl) Zj (by rw [aj, aj]) (bg _)) rfl ?_;rintro _ _ ⟨rfl, Zj, cg⟩;replace Zc := Zc.aw cg ZV;replace E := ZI.ext Zc;replace B5 := ZB.ext Zc;replace B6 := ZC.ext Zc;replace B7 := ZD.ext Zc;replace YU := Zo.ext Zc;replace YV := Zp.ext Zc;replace YY := Zq.ext Zc;replace YZ := Zr.ext Zc;refine aU ?_;refine aD Kr 24 rfl ?_; intro wd6 ex hd6;obtain ⟨E,B5,B6,B7,YU,YV,YY,YZ,Zj⟩ := uX ex E B5 B6 B7 YU YV YY YZ Zj;refine my 0 rfl (cL rfl YY) ?_;refine my 1 rfl (cL rfl YZ) ?_;refine my 3 rfl (cL rfl Zj) ?_;refine my 4 rfl (cL rfl YY) ?_;refine my 5 rfl (cL rfl Zj) ?_;refine my 11 rfl (cL rfl YU) ?_;refine my 12 rfl (cL rfl YV) ?_;refine my 15 rfl (cL rfl B5) ?_;refine my 16 rfl (cL rfl YU) ?_;refine my 17 rfl (cL rfl YV) ?_;refine bC 2 rfl func144 rfl (bo ZH ZM _) ?_;rintro e _ ⟨_, rfl, ZW, ex⟩;refine aU ?_;obtain ⟨E,B6,B7⟩ := bh ex E B6 B7;obtain ⟨f21, rfl, ZW⟩ := ZW.fe;refine bC 6 rfl func143 rfl (dw 121665 _ Om) ?_;rintro e _ ⟨_, rfl, ZX, ex⟩;refine aU ?_;obtain ⟨E,B6,B7⟩ := bh ex E B6 B7;obtain ⟨f22, rfl, ZX⟩ := ZX.fe;refine bC 7 rfl func144 rfl (bo ZN ZX _) ?_;rintro e _ ⟨_, rfl, ZY, ex⟩;refine aU ?_;obtain ⟨E,B6,B7⟩ := bh ex E B6 B7;obtain ⟨f23, rfl, ZY⟩ := ZY.fe;refine bC 8 rfl func151 rfl (eB ZH ZY _) ?_;rintro e _ ⟨_, rfl, ZZ, ex⟩;refine aU ?_;obtain ⟨E,B6,B7⟩ := bh ex E B6 B7;obtain ⟨f24, rfl, ZZ⟩ := ZZ.fe;refine bC 9 rfl func144 rfl (bo ZN ZZ _) ?_;rintro e _ ⟨_, rfl, Z0, ex⟩;refine aU ?_;obtain ⟨E,B6,B7⟩ := bh ex E B6 B7;obtain ⟨f25, rfl, Z0⟩ := Z0.fe;refine dF 10 rfl (fun _ => aA rfl (cells := pr f21 f25) Kr) ?_;refine bC 13 rfl func151 rfl (eB ZK ZL _) ?_;rintro e _ ⟨_, rfl, Z1, ex⟩;refine aU ?_;obtain ⟨E,B6,B7⟩ := bh ex E B6 B7;obtain ⟨f26, rfl, Z1⟩ := Z1.fe;refine bC 14 rfl func205 rfl (bY Z1 _) ?_;rintro e _ ⟨_, rfl, Z2, ex⟩;refine aU ?_;obtain ⟨E,B6,B7⟩ := bh ex E B6 B7;obtain ⟨f27, rfl, Z2⟩ := Z2.fe;refine bC 18 rfl func206 rfl (gL ZK ZL _) ?_;rintro e _ ⟨_, rfl, Z5, ex⟩;refine aU ?_;obtain ⟨E,B6,B7⟩ := bh ex E B6 B7;obtain ⟨f28, rfl, Z5⟩ := Z5.fe;refine bC 19 rfl func205 rfl (bY Z5 _) ?_;rintro e _ ⟨_, rfl, Z6, ex⟩;refine aU ?_;obtain ⟨E,B6,B7⟩ := bh ex E B6 B7;obtain ⟨f29, rfl, Z6⟩ := Z6.fe;refine bC 20 rfl func144 rfl (bo U Z6 _) ?_;rintro e _ ⟨_, rfl, Z7, ex⟩;refine aU ?_;obtain ⟨E,B6,B7⟩ := bh ex E B6 B7;obtain ⟨f30, rfl, Z7⟩ := Z7.fe;refine dF 21 rfl (fun _ => aA rfl (cells := pr f27 f30) Kr) ?_;refine aR 22 Kr ?_; refine bE rfl (ag rfl rfl (by rw [cx]; kernel_rfl) B6 (by rw [cx, cx]) (mK _ _)) rfl ?_;rintro _ _ ⟨rfl, D6, cg⟩;refine ⟨.inl rfl, ?_⟩;replace B7 := B7.aw cg Z8.symm; have E6 := E.aw cg hw6;refine aR 23 Kr ?_; refine bE rfl (ag rfl rfl (by rw [cx]; kernel_rfl) B7 (by rw [cx, cx]) (mK _ _)) rfl ?_;rintro _ _ ⟨rfl, D7, cg⟩;refine ⟨.inl rfl, ?_⟩;replace D6 := D6.aw cg Z8; have E7 := E6.aw cg hw7;refine aU ?_;exact aa4 rfl rfl D6 (cx _ _) D7 (cx _ _) ⟨f21, f25, f27, f30, rfl, ZW, Z0, Z2, Z7, E7⟩
end Go.Proofs.YtgfafidlkldeaaaGreat
