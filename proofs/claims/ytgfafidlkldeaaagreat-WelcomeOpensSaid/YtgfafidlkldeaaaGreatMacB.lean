/- The reference's tag, and which tags are right. Lengths up to 2^45. -/
import Derived.Test.YtgfafidlkldeaaaGreatShaBits
import Derived.Test.YtgfafidlkldeaaaGreatBigC
import Derived.Test.YtgfafidlkldeaaaGreatVc
import Derived.Test.YtgfafidlkldeaaaGreatVc7
set_option linter.unusedVariables false
set_option linter.unusedSimpArgs false
set_option maxHeartbeats 4000000
set_option maxRecDepth 4000
namespace Go.Proofs.YtgfafidlkldeaaaGreat
variable {xs ys : Lb} {a b c d g g' n : Nat} {t : TypeId} {w : World}
section
open Go.RowKit Tryz
attribute [local irreducible] Y Ef WL WC WK WQ WM cv WN WF cZ
theorem ON {k : IntKind} (l : List Nat) (vs : Array Value) (h : vs.toList = l.map (iv k)) (hn : l.length = n) : Ns k (w.alloc (.cells vs t)) (some ⟨w.heap.size, 0, none⟩) n l :=
 ⟨hn, .inr ⟨w.heap.size, 0, rfl, fun j u hu => by
  rw [Nat.zero_add, (ao.new w t vs).cell, ← Array.getElem?_toList, h]; exact hu⟩⟩
theorem eS (x n : Nat) (w : World) (hx : x < 4294967296) (hn : n ≤ 32) :
  Ct 187 #[.int .u64 (x : Int), .int .i64 (n : Int)] w fun e w' => e = .returned (.int .u64 ((Sha.cQ x n : Nat) : Int)) ∧ Ext w w' := by
 refine ai 18 func187 rfl rfl rfl rfl ?_;intro _ hret;refine aU ?_;refine aD (fun n' L wr => ∃ (i y : Nat), L = [(0, .int .u64 (y : Int)), (1, .int .i64 (n : Int)), (5, .int .i64 (i : Int))] ∧ n' = n - i ∧ (i ≤ n ∧ wr = w ∧ y = Sha.cQ x i)) _ _ ⟨0, x, rfl, rfl, by omega, rfl, (En x).symm⟩ Ls ?_;rintro _ n' L wr ⟨i, y, rfl, rfl, _, hw, hy⟩ Vq;refine aU ?_;refine ak rfl (fun Vr => ?_) (fun Vr => ?_)
 ·have hyl : y < 4294967296 := by rw [hy]; exact Sha.br hx Om
  refine au 6 ?_;refine al (dG rfl rfl Om (show IntKind.u64.wrap ((y : Int).tdiv 2) = ((y / 2 : Nat) : Int) from aH rfl Om)) ?_;refine au 1 ?_;refine al (ck rfl rfl Om (show ((y : Int).tmod 2) = ((y % 2 : Nat) : Int) from rfl)) ?_;refine al (cL rfl rfl (aH (n := y % 2 * 2147483648) Om Om)) ?_;refine al (aN rfl rfl (aH (n := y / 2 + y % 2 * 2147483648) Om Om)) ?_;refine au 9 ?_;refine ae ?_;refine Vq _ _ ⟨i + 1, y / 2 + y % 2 * 2147483648, rfl, rfl, by omega, hw, (by rw [FR x i Om, ← hy])⟩ Om Ls
 refine aU ?_;refine hret rfl ?_;obtain rfl : i = n := by omega
 exact ⟨by rw [hy], hw ▸ Ext.refl _⟩
theorem sV (x n : Nat) (w : World) (hx : x < 4294967296) (hn : n ≤ 32) :
  Ct 188 #[.int .u64 (x : Int), .int .i64 (n : Int)] w fun e w' => e = .returned (.int .u64 ((x / 2 ^ n : Nat) : Int)) ∧ Ext w w' := by
 refine ai 14 func188 rfl rfl rfl rfl ?_;intro _ hret;refine aU ?_;refine aD (fun n' L wr => ∃ (i y : Nat), L = [(0, .int .u64 (y : Int)), (1, .int .i64 (n : Int)), (5, .int .i64 (i : Int))] ∧ n' = n - i ∧ (i ≤ n ∧ wr = w ∧ y = x / 2 ^ i)) _ _ ⟨0, x, rfl, rfl, by omega, rfl, (by rw [Nat.pow_zero, Nat.div_one])⟩ Ls ?_;rintro _ n' L wr ⟨i, y, rfl, rfl, _, hw, hy⟩ Vq;refine aU ?_;refine ak rfl (fun Vr => ?_) (fun Vr => ?_)
 ·have hyl : y < 4294967296 := by rw [hy]; exact Nat.lt_of_le_of_lt (Nat.div_le_self _ _) hx
  refine au 6 ?_;refine al (dG rfl rfl Om (show IntKind.u64.wrap ((y : Int).tdiv 2) = ((y / 2 : Nat) : Int) from aH rfl Om)) ?_;refine au 9 ?_;refine ae ?_;refine Vq _ _ ⟨i + 1, y / 2, rfl, rfl, by omega, hw, (by rw [hy, Nat.pow_succ, Nat.div_div_eq_div_mul])⟩ Om Ls
 refine aU ?_;refine hret rfl ?_;obtain rfl : i = n := by omega
 exact ⟨by rw [hy], hw ▸ Ext.refl _⟩
theorem Rl (v i : Nat) (h : i < 8) : UInt8.ofNat (v / 256 ^ (7 - i)) = (Sha.kT v).getD i 0 := by
 have : i = 0 ∨ i = 1 ∨ i = 2 ∨ i = 3 ∨ i = 4 ∨ i = 5 ∨ i = 6 ∨ i = 7 := by omega
 rcases this with rfl | rfl | rfl | rfl | rfl | rfl | rfl | rfl <;> simp [Sha.kT]
theorem xI (M : Lb) (k t i : Nat) (ht : t < 16) (hi : i < 4) : M.getD (64 * k + 4 * t + i) 0 = ((M.drop (64 * k)).take 64).getD (4 * t + i) 0 := by rw [Sha.Bi _ _ _ Om, Nat.add_assoc]
theorem Si (S : Sha.S8) (i : Nat) (h : i < 8) : S.bytes.take (4 * i) ++ Sha.tZ (S.list.getD i 0) = S.bytes.take (4 * (i + 1)) := by
 obtain ⟨a, b, c, d, e, f, g, h'⟩ := S;have : i = 0 ∨ i = 1 ∨ i = 2 ∨ i = 3 ∨ i = 4 ∨ i = 5 ∨ i = 6 ∨ i = 7 := by omega
 rcases this with rfl | rfl | rfl | rfl | rfl | rfl | rfl | rfl <;> rfl
theorem AD {s : Sha.S8} (h : s.ok) (i : Nat) : s.list.getD i 0 < 4294967296 := by obtain ⟨h1, h2, h3, h4, h5, h6, h7, h8⟩ := h;refine Sha.gV (fun x hx => ?_) i;simp only [Sha.S8.list, List.mem_cons, List.not_mem_nil, or_false] at hx;rcases hx with rfl | rfl | rfl | rfl | rfl | rfl | rfl | rfl <;> assumption
theorem rB (s : Sha.S8) : s.list.length = 8 := rfl
theorem Vh (x : Nat) : IntKind.u8.wrap (x : Int) = ((UInt8.ofNat x).toNat : Int) := by rw [UInt8.toNat_ofNat'];show ((x : Int) % 256) = _;omega
theorem Dg (ha : a < 4294967296) (hb : b < 4294967296) (hc : c < 4294967296) : (a ^^^ b) ^^^ c < 4294967296 := Sha.ix (Sha.ix ha hb) hc
theorem DO (a b c : Nat) (ha : a < 4294967296) (hb : b < 4294967296) (hc : c < 4294967296) : bits .xor .u64 (bits .xor .u64 (a : Int) (b : Int)) (c : Int) = (((a ^^^ b) ^^^ c : Nat) : Int) := vc _ _ _ Om Om Om
theorem LC (A A1 A2 : Oa) (n c c1 c2 : Nat) (xs : Lb) (w : World) (HA : Bs w A n xs) (hn : n ≤ 35184372088832) (HH : Ns .u64 w A1 8 Sha.H0) (VS : Ns .u64 w A2 64 Sha.K) :
  Ct 121 #[.slice A n c, .slice A1 8 c1, .slice A2 64 c2] w fun e w' => ∃ A' c', e = .returned (.slice A' 32 c') ∧ Own w' w.heap.size A' 32 c' (Sha.sum xs) ∧ Ext w w' := by
 have hxl := HA.1;have hzl : Sha.cA n < 64 := Nat.mod_lt _ Om;have hz : Sha.cA n = (119 - n % 64) % 64 := rfl;obtain ⟨gK, oK, _, rfl, _, hgK, _⟩ := VS.get (i := 0) Om;refine ai 352 func121 rfl rfl rfl rfl ?_;intro Q hret;refine aU ?_;refine ag (aF (z := .int .u64 0) Tn.u Kr rfl rfl rfl rfl rfl) rfl ?_;rintro _ w1 ⟨g1, rfl, B1, VZ, ex⟩;have E1 := ex; have R1 : Row w1 w.heap.size 38 (some ⟨g1, 0, none⟩) 0 0 (([] : List Nat).map (iv .u64)) := Row.new B1 VZ rfl (by unfold maxLen; omega);refine aU ?_;refine ag (iF rfl rfl JS R1 (HH.ext E1).2 (by rw [List.length_map]; rfl) nB Om Om E1.size) rfl ?_;rintro _ w2 ⟨_, ch, rfl, RH, be, gr, hl⟩;have E2 : Ext w w2 := E1.trans be;obtain ⟨gh, _, rfl, _, _, V0, hghl, _⟩ := RH.get (i := 0) Om;refine aU ?_;refine ag (aF (z := .int .u8 0) Tn.u Kr rfl rfl rfl rfl rfl) rfl ?_;rintro _ w3 ⟨g3, rfl, B3, V4, ex⟩;have E3 := ex; have R3 : Row w3 w2.heap.size 5 (some ⟨g3, 0, none⟩) 0 0 (([] : Lb).map bv) := Row.new B3 V4 rfl (by unfold maxLen; omega);refine aU ?_;refine ag (iF rfl rfl bT R3 (HA.wk (E2.tr E3)).2 (by rw [List.length_map, HA.1]) aJ Om Om E3.size) rfl ?_;rintro _ _ ⟨_, _, rfl, R4, be, gr, hl⟩;have E4 := E3.trans be;refine ag (aF (z := .int .u8 0) Tn.u Kr rfl rfl rfl rfl rfl) rfl ?_;rintro _ w5 ⟨g5, rfl, B5, Vz, ex⟩;have E5 := E4.ext ex; have R5 := R4.ext ex;refine ag (aX rfl rfl bT R5 (At.jn (vs := [(128 : UInt8)].map bv) (B5.congr rfl)) rfl aJ Om Om E5.size) rfl ?_;rintro _ w6 ⟨A6, c6, rfl, R6, be, gr, hl⟩;have E6 := E5.trans be; replace R6 := R6.cat;refine aU ?_;refine aD (fun n' L wr => ∃ (k c8 : Nat) (A8 : Oa), L = [(0, .slice A n c), (2, .slice (some ⟨gK, oK, none⟩) 64 c2), (7, .slice (some ⟨gh, 0, none⟩) 8 ch), (8, .slice A8 (n + 1 + k) c8)] ∧ n' = Sha.cA n - k ∧ (k ≤ Sha.cA n ∧ Ext w2 wr ∧ Row wr w2.heap.size 5 A8 (n + 1 + k) c8 ((xs ++ 128 :: List.replicate k 0).map bv))) _ _ ⟨0, c6, A6, rfl, rfl, by omega, E6, R6⟩ Ls ?_;rintro _ n' L wr ⟨k, c8, A8, rfl, rfl, hk, E, R⟩ V5;refine au 5 ?_;refine al (ck rfl rfl Om (show (((n + 1 + k : Nat) : Int).tmod 64) = (((n + 1 + k) % 64 : Nat) : Int) from rfl)) ?_;refine aU ?_;refine ak rfl (fun V6 => ?_) (fun V6 => ?_)
 ·have hkz : k < Sha.cA n := by omega
  refine aU ?_;refine ag (aF (z := .int .u8 0) Tn.u Kr rfl rfl rfl rfl rfl) rfl ?_;rintro _ w7 ⟨g7, rfl, B7, VT, ex⟩;have E7 := E.ext ex; have R7 := R.ext ex;refine ag (aX rfl rfl bT R7 (At.jn (vs := [(0 : UInt8)].map bv) (B7.congr rfl)) rfl aJ Om Om E7.size) rfl ?_;rintro _ w8 ⟨A9, c9, rfl, R8, be, gr, hl⟩;have E8 := E7.trans be; replace R8 := R8.cat;refine au 3 ?_;refine ae ?_;refine V5 _ _ ⟨k + 1, c9, A9, rfl, rfl, by omega, E8, (by rw [List.append_assoc, List.cons_append, ← List.replicate_succ'] at R8; exact R8)⟩ Om Ls
 obtain rfl : k = Sha.cA n := by omega
 obtain ⟨tl, htl⟩ : ∃ l, l = Sha.kT (n * 8) := ⟨_, rfl⟩
 have htll : tl.length = 8 := by rw [htl]; rfl
 refine au 9 ?_;refine al (bo rfl Tn.u Tn.u (c := (n : Int)) (show IntKind.u64.wrap (n : Int) = (n : Int) from aH rfl Om)) ?_;refine al (cL rfl rfl (aH (n := n * 8) Om Om)) ?_;refine aU ?_;refine aD (fun n' L wr => ∃ (i c6 : Nat) (A6 : Oa), L = [(2, .slice (some ⟨gK, oK, none⟩) 64 c2), (7, .slice (some ⟨gh, 0, none⟩) 8 ch), (8, .slice A6 (n + 1 + Sha.cA n + i) c6), (9, .int .u64 ((n * 8 : Nat) : Int)), (10, .int .i64 (i : Int))] ∧ n' = 8 - i ∧ (i ≤ 8 ∧ Ext w2 wr ∧ Row wr w2.heap.size 5 A6 (n + 1 + Sha.cA n + i) c6 ((xs ++ 128 :: List.replicate (Sha.cA n) 0 ++ tl.take i).map bv))) _ _ ⟨0, c8, A8, rfl, rfl, by omega, E, (by rw [List.take_zero, List.append_nil]; exact R)⟩ Ls ?_;rintro _ n' L wr ⟨i, c6, A6, rfl, rfl, hi, E, R⟩ V9;refine aU ?_;refine ak rfl (fun Wa => ?_) (fun Wa => ?_)
 ·refine aU ?_;refine aD (fun n' L wq => ∃ k : Nat, L = [(2, .slice (some ⟨gK, oK, none⟩) 64 c2), (7, .slice (some ⟨gh, 0, none⟩) 8 ch), (8, .slice A6 (n + 1 + Sha.cA n + i) c6), (9, .int .u64 ((n * 8 : Nat) : Int)), (10, .int .i64 (i : Int)), (11, .int .u64 ((256 ^ k : Nat) : Int)), (12, .int .i64 (k : Int))] ∧ n' = 7 - i - k ∧ (k ≤ 7 - i ∧ wq = wr)) _ _ ⟨0, rfl, rfl, by omega, rfl⟩ Ls ?_;rintro _ n' L wq ⟨k, rfl, rfl, hk, hwq⟩ Wb;refine au 5 ?_;refine al (fI rfl rfl (bD (n := 7 - i) Om Om)) ?_;refine aU ?_;refine ak rfl (fun Wc => ?_) (fun Wc => ?_)
  ·have hpw : 256 ^ (k + 1) ≤ 72057594037927936 := Nat.pow_le_pow_right (n := 256) Om (show k + 1 ≤ 7 by omega);refine au 6 ?_;refine al (cL rfl rfl (aH (n := 256 ^ (k + 1)) (by rw [Nat.pow_succ]; exact (Int.natCast_mul _ _).symm) Om)) ?_;refine au 9 ?_;refine ae ?_;refine Wb _ _ ⟨k + 1, rfl, rfl, by omega, hwq⟩ Om Ls
  refine au 5 ?_;obtain rfl : k = 7 - i := by omega
  subst hwq
  obtain ⟨u, hu⟩ : ∃ u, u = 256 ^ (7 - i) := ⟨_, rfl⟩
  have VF : 0 < u := by rw [hu]; exact Nat.pow_pos Om
  have hqd := Nat.div_le_self (n * 8) u;rw [← hu];refine au 4 ?_;refine al (dG rfl rfl Om (show IntKind.u64.wrap (((n * 8 : Nat) : Int).tdiv (u : Int)) = ((n * 8 / u : Nat) : Int) from aH rfl Om)) ?_;refine al (ck rfl rfl Om (show (((n * 8 / u : Nat) : Int).tmod 256) = ((n * 8 / u % 256 : Nat) : Int) from rfl)) ?_;refine al (bo rfl Tn.u Tn.u (Te _)) ?_;refine ag (aF (z := .int .u8 0) Tn.u Kr rfl rfl rfl rfl rfl) rfl ?_;rintro _ w7 ⟨g7, rfl, B7, VT, ex⟩;have E7 := E.ext ex; have R7 := R.ext ex;refine ag (aX rfl rfl bT R7 (At.jn (vs := [UInt8.ofNat (n * 8 / u)].map bv) (B7.congr rfl)) rfl aJ Om Om E7.size) rfl ?_;rintro _ w8 ⟨A9, c9, rfl, R8, be, gr, hl⟩;have E8 := E7.trans be; replace R8 := R8.cat; rw [hu, Rl _ _ Om, ← htl, List.append_assoc _ (List.take i _), Bz _ _ _ Om] at R8;refine au 9 ?_;refine ae ?_;refine V9 _ _ ⟨i + 1, c9, A9, rfl, rfl, by omega, E8, R8⟩ Om Ls
 refine au 7 ?_;obtain rfl : i = 8 := by omega
 obtain ⟨M, hM⟩ : ∃ M, M = xs ++ Sha.pad n := ⟨_, rfl⟩
 have hMr : xs ++ 128 :: List.replicate (Sha.cA n) 0 ++ tl.take 8 = M := by rw [List.take_of_length_le Om, hM, htl]; simp [Sha.pad]
 rw [hMr] at R
 obtain ⟨nM, hnM⟩ : ∃ q, q = n + 1 + Sha.cA n + 8 := ⟨_, rfl⟩
 rw [← hnM] at R ⊢;have hMl : M.length = nM := by have := R.len; simpa using this
 obtain ⟨gM, _, rfl, _, _, We, hgMl, _⟩ := R.get (i := 0) Om;have HM := R.bs;have Wf := RH.ext E;have Ew := E2.tr E;refine aU ?_;refine aD (fun n' L wa => ∃ k : Nat, L = [(2, .slice (some ⟨gK, oK, none⟩) 64 c2), (7, .slice (some ⟨gh, 0, none⟩) 8 ch), (8, .slice (some ⟨gM, 0, none⟩) nM c6), (13, .int .i64 ((64 * k : Nat) : Int))] ∧ n' = nM + 64 - 64 * k ∧ (64 * k ≤ nM ∧ wr.grownBy wa (some gh) ∧ Row wa w.heap.size 38 (some ⟨gh, 0, none⟩) 8 ch ((Sha.blocks Sha.IV M k).list.map (iv .u64)))) _ _ ⟨0, rfl, rfl, by omega, World.grownBy.refl _ _, Wf⟩ Ls ?_;rintro _ n' L wa ⟨k, rfl, rfl, hk, G, Vw⟩ Wg;refine aU ?_;refine ak rfl (fun Wh => ?_) (fun Wh => ?_)
 ·have hMm : nM % 64 = 0 := by rw [← hMl, hM, List.length_append, hxl]; exact Sha.kF n
  have HMa : Bs wa (some ⟨gM, 0, none⟩) nM M := HM.grown G (by intro b o e; injection e with e; injection e; omega);have HKa : Ns .u64 wa (some ⟨gK, oK, none⟩) 64 Sha.K := (VS.ext Ew).JB G (by intro o e; injection e with e; injection e; omega)
  obtain ⟨bl, hbl⟩ : ∃ l, l = (M.drop (64 * k)).take 64 := ⟨_, rfl⟩
  obtain ⟨S, hS⟩ : ∃ s, s = Sha.blocks Sha.IV M k := ⟨_, rfl⟩
  have hSok : S.ok := by rw [hS]; exact Sha.mC Sha.uz _ _
  rw [← hS] at Vw;have hgha := (Row.lt Vw).2;refine aU ?_;refine aD (fun n' L wb => ∃ (t Vx : Nat) (VB : Oa), L = [(2, .slice (some ⟨gK, oK, none⟩) 64 c2), (7, .slice (some ⟨gh, 0, none⟩) 8 ch), (8, .slice (some ⟨gM, 0, none⟩) nM c6), (13, .int .i64 ((64 * k : Nat) : Int)), (14, .slice VB t Vx), (15, .int .i64 (t : Int))] ∧ n' = 64 - t ∧ (t ≤ 64 ∧ Ext wa wb ∧ Row wb wa.heap.size 38 VB t Vx ((Sha.wt bl t).map (iv .u64)))) _ _ ⟨0, 0, none, rfl, rfl, by omega, Ext.refl _, Row.empty _ _ _⟩ Ls ?_;rintro _ n' L wb ⟨t, Vx, VB, rfl, rfl, ht, F, R⟩ VU;refine aU ?_;refine ak rfl (fun Wi => ?_) (fun Wi => ?_)
  ·refine aU ?_;refine ak rfl (fun Wj => ?_) (fun Wj => ?_)
   ·refine aU ?_;refine aD (fun n' L wc => ∃ i : Nat, L = [(2, .slice (some ⟨gK, oK, none⟩) 64 c2), (7, .slice (some ⟨gh, 0, none⟩) 8 ch), (8, .slice (some ⟨gM, 0, none⟩) nM c6), (13, .int .i64 ((64 * k : Nat) : Int)), (14, .slice VB t Vx), (15, .int .i64 (t : Int)), (16, .int .u64 ((Sha.pre bl t i : Nat) : Int)), (17, .int .i64 (i : Int))] ∧ n' = 4 - i ∧ (i ≤ 4 ∧ wc = wb)) _ _ ⟨0, rfl, rfl, by omega, rfl⟩ Ls ?_;rintro _ n' L wc ⟨i, rfl, rfl, hi, hwc⟩ Wk;refine aU ?_;refine ak rfl (fun Wl => ?_) (fun Wl => ?_)
    ·subst hwc;have hpl := Sha.wF bl t i;have hpp : 256 ^ i ≤ 16777216 := Nat.pow_le_pow_right (n := 256) Om (show i ≤ 3 by omega);have hbyte := (bl.getD (4 * t + i) 0).toNat_lt;refine au 6 ?_;refine al (cL rfl rfl (aH (n := 256 * Sha.pre bl t i) Om Om)) ?_;refine au 3 ?_;refine al (cL rfl rfl (bD (n := 4 * t) Om Om)) ?_;refine al (aN rfl rfl (bD (n := 64 * k + 4 * t) Om Om)) ?_;refine au 1 ?_;refine al (aN rfl rfl (bD (n := 64 * k + 4 * t + i) Om Om)) ?_;refine al (aB rfl rfl Tn.u Kr (j := 64 * k + 4 * t + i) rfl Om) ?_;refine al (af rfl Tn.u rfl (show _ = some (.int .u8 ((bl.getD (4 * t + i) 0).toNat : Int)) from by rw [hbl, ← xI _ _ _ _ Om Om]; exact (HMa.wk F).cellAt Om)) ?_;refine al (bo rfl Tn.u Tn.u (aH rfl Om)) ?_;refine al (aN rfl rfl (aH (n := 256 * Sha.pre bl t i + (bl.getD (4 * t + i) 0).toNat) Om Om)) ?_;refine au 9 ?_;refine ae ?_;refine Wk _ _ ⟨i + 1, rfl, rfl, by omega, rfl⟩ Om Ls
    obtain rfl : i = 4 := by omega
    subst hwc;have hwt : Sha.wt bl t ++ [Sha.pre bl t 4] = Sha.wt bl (t + 1) := by rw [Sha.Kc]; exact (Sha.Pr Om).symm
    refine aU ?_;refine ag (aF (z := .int .u64 0) Tn.u Kr rfl rfl rfl rfl rfl) rfl ?_;rintro _ w5 ⟨g5, rfl, B5, Vz, ex⟩;have R5 := R.ext ex; have F5 := F.ext ex; have VG := F5.size;refine ag (aX rfl rfl JS R5 (At.jn (vs := [Sha.pre bl t 4].map (iv .u64)) (B5.congr rfl)) rfl nB Om Om VG) rfl ?_;rintro _ w6 ⟨A6, c7, rfl, R6, be, gr, hl⟩;have F6 := F5.trans be; have R7 := R6.UH; rw [hwt] at R7;refine au 12 ?_;refine ae ?_;refine VU _ _ ⟨t + 1, c7, A6, rfl, rfl, by omega, F6, R7⟩ Om Ls
   refine au 3 ?_;obtain ⟨VH, _, rfl, _, _, _, _, _⟩ := R.get (i := 0) Om;have Hw := Ns.nJ R;have hlt : ∀ j, (Sha.wt bl t).getD j 0 < 4294967296 := Sha.gV (Sha.GY bl t)
   obtain ⟨Vr, VA⟩ : ∃ v, v = (Sha.wt bl t).getD (t - 15) 0 := ⟨_, rfl⟩
   obtain ⟨v2, e2⟩ : ∃ v, v = (Sha.wt bl t).getD (t - 2) 0 := ⟨_, rfl⟩
   obtain ⟨v7, e7⟩ : ∃ v, v = (Sha.wt bl t).getD (t - 7) 0 := ⟨_, rfl⟩
   obtain ⟨VV, VI⟩ : ∃ v, v = (Sha.wt bl t).getD (t - 16) 0 := ⟨_, rfl⟩
   have Vs := hlt (t - 15); have l2 := hlt (t - 2); have l7 := hlt (t - 7); have Wm := hlt (t - 16);rw [← VA] at Vs; rw [← e2] at l2; rw [← e7] at l7; rw [← VI] at Wm;have d15 : Vr / 2 ^ 3 < 4294967296 := Nat.lt_of_le_of_lt (Nat.div_le_self _ _) Vs;have d2 : v2 / 2 ^ 10 < 4294967296 := Nat.lt_of_le_of_lt (Nat.div_le_self _ _) l2;have q0 := Dg (Sha.br Vs (show 7 ≤ 32 by omega)) (Sha.br Vs (show 18 ≤ 32 by omega)) d15;have q1 := Dg (Sha.br l2 (show 17 ≤ 32 by omega)) (Sha.br l2 (show 19 ≤ 32 by omega)) d2
   obtain ⟨Z, hZ⟩ : ∃ Z, Z = ((Sha.cQ v2 17 ^^^ Sha.cQ v2 19) ^^^ (v2 / 2 ^ 10)) + v7 + ((Sha.cQ Vr 7 ^^^ Sha.cQ Vr 18) ^^^ (Vr / 2 ^ 3)) + VV := ⟨_, rfl⟩
   have hZn : Z % 4294967296 = Sha.jg (Sha.wt bl t) (t - 16) := by unfold Sha.jg;rw [show t - 16 + 14 = t - 2 from by omega, show t - 16 + 9 = t - 7 from by omega, show t - 16 + 1 = t - 15 from by omega, ← e2, ← e7, ← VA, ← VI, hZ];rfl
   refine az Kr 21 rfl ?_; intro Wn ex Wo;obtain ⟨F,R,Hw⟩ := bF ex F R Hw;refine zm [0, 1, 2] ?_;refine my 3 rfl (aB rfl rfl Tn.u Kr (j := t - 15) Om Om) ?_;refine my 4 rfl (af rfl Tn.u rfl (show _ = some (.int .u64 ((Vr : Nat) : Int)) from by rw [VA]; exact Hw.cellAt Om)) ?_;refine zm [6, 7, 8] ?_;refine my 9 rfl (aB rfl rfl Tn.u Kr (j := t - 15) Om Om) ?_;refine my 10 rfl (af rfl Tn.u rfl (show _ = some (.int .u64 ((Vr : Nat) : Int)) from by rw [VA]; exact Hw.cellAt Om)) ?_;refine zm [13, 14, 15] ?_;refine my 16 rfl (aB rfl rfl Tn.u Kr (j := t - 15) Om Om) ?_;refine my 17 rfl (af rfl Tn.u rfl (show _ = some (.int .u64 ((Vr : Nat) : Int)) from by rw [VA]; exact Hw.cellAt Om)) ?_;refine bz 5 rfl func187 rfl (eS Vr 7 _ Vs Om) ?_;rintro e w9 ⟨rfl, ex⟩;refine aU ?_;obtain ⟨F,R,Hw⟩ := bF ex F R Hw;refine bz 11 rfl func187 rfl (eS Vr 18 _ Vs Om) ?_;rintro e w9 ⟨rfl, ex⟩;refine aU ?_;obtain ⟨F,R,Hw⟩ := bF ex F R Hw;refine my 12 rfl (bP rfl rfl rfl) ?_;refine bz 18 rfl func188 rfl (sV Vr 3 _ Vs Om) ?_;rintro e w9 ⟨rfl, ex⟩;refine aU ?_;obtain ⟨F,R,Hw⟩ := bF ex F R Hw;refine my 19 rfl (bP rfl rfl (DO _ _ _ (Sha.br Vs Om) (Sha.br Vs Om) d15)) ?_;refine zm [20] ?_;refine az Kr 21 rfl ?_; intro Wq ex Wr;obtain ⟨F,R,Hw⟩ := bF ex F R Hw;refine zm [0, 1, 2] ?_;refine my 3 rfl (aB rfl rfl Tn.u Kr (j := t - 2) Om Om) ?_;refine my 4 rfl (af rfl Tn.u rfl (show _ = some (.int .u64 ((v2 : Nat) : Int)) from by rw [e2]; exact Hw.cellAt Om)) ?_;refine zm [6, 7, 8] ?_;refine my 9 rfl (aB rfl rfl Tn.u Kr (j := t - 2) Om Om) ?_;refine my 10 rfl (af rfl Tn.u rfl (show _ = some (.int .u64 ((v2 : Nat) : Int)) from by rw [e2]; exact Hw.cellAt Om)) ?_;refine zm [13, 14, 15] ?_;refine my 16 rfl (aB rfl rfl Tn.u Kr (j := t - 2) Om Om) ?_;refine my 17 rfl (af rfl Tn.u rfl (show _ = some (.int .u64 ((v2 : Nat) : Int)) from by rw [e2]; exact Hw.cellAt Om)) ?_;refine bz 5 rfl func187 rfl (eS v2 17 _ l2 Om) ?_;rintro e w9 ⟨rfl, ex⟩;refine aU ?_;obtain ⟨F,R,Hw⟩ := bF ex F R Hw;refine bz 11 rfl func187 rfl (eS v2 19 _ l2 Om) ?_;rintro e w9 ⟨rfl, ex⟩;refine aU ?_;obtain ⟨F,R,Hw⟩ := bF ex F R Hw;refine my 12 rfl (bP rfl rfl rfl) ?_;refine bz 18 rfl func188 rfl (sV v2 10 _ l2 Om) ?_;rintro e w9 ⟨rfl, ex⟩;refine aU ?_;obtain ⟨F,R,Hw⟩ := bF ex F R Hw;refine my 19 rfl (bP rfl rfl (DO _ _ _ (Sha.br l2 Om) (Sha.br l2 Om) d2)) ?_;refine zm [20] ?_;refine az Kr 20 rfl ?_; intro Ws ex Ww;obtain ⟨F,R,Hw⟩ := bF ex F R Hw;refine zm [0, 1, 2, 3, 4] ?_;refine dg 5 rfl (fun _ => aB rfl rfl Tn.u Kr (j := t - 7) Om Om) ?_;refine my 6 rfl (af rfl Tn.u rfl (show _ = some (.int .u64 ((v7 : Nat) : Int)) from by rw [e7]; exact Hw.cellAt Om)) ?_;refine dg 7 rfl (fun _ => aN rfl rfl rfl) ?_;refine zm [8] ?_;refine dg 9 rfl (fun _ => aN rfl rfl rfl) ?_;refine zm [10, 11, 12] ?_;refine dg 13 rfl (fun _ => aB rfl rfl Tn.u Kr (j := t - 16) Om Om) ?_;refine my 14 rfl (af rfl Tn.u rfl (show _ = some (.int .u64 ((VV : Nat) : Int)) from by rw [VI]; exact Hw.cellAt Om)) ?_;refine dg 15 rfl (fun _ => Y.as (aN rfl rfl rfl) (congrArg (Value.int .u64) (show _ = ((Z : Nat) : Int) from by rw [j9, j9, j9, hZ]; omega))) ?_;refine dg 16 rfl (fun _ => ck rfl rfl Om (show ((Z : Int).tmod 4294967296) = ((Sha.jg (Sha.wt bl t) (t - 16) : Nat) : Int) from by rw [← hZn]; rfl)) ?_;have hwt : Sha.wt bl t ++ [Sha.jg (Sha.wt bl t) (t - 16)] = Sha.wt bl (t + 1) := (Sha.xt Om).symm;refine aL 17 Kr ?_; refine aQ rfl (aF (z := .int .u64 0) Tn.u Kr rfl rfl rfl rfl rfl) rfl ?_;rintro _ w5 ⟨g5, rfl, B5, Vz, ex⟩;refine ⟨.inr ex, ?_⟩;have R5 := R.ext ex; have F5 := F.ext ex; have VG := F5.size;refine aL 18 Kr ?_; refine aQ rfl (aX rfl rfl JS R5 (At.jn (vs := [Sha.jg (Sha.wt bl t) (t - 16)].map (iv .u64)) (B5.congr rfl)) rfl nB Om Om VG) rfl ?_;rintro _ w6 ⟨A6, c7, rfl, R6, be, gr, hl⟩;refine ⟨.inl rfl, ?_⟩;have F6 := F5.trans be; have R7 := R6.UH; rw [hwt] at R7;refine Gh [19] ?_;refine au 11 ?_;refine ae ?_;refine VU _ _ ⟨t + 1, c7, A6, rfl, rfl, by omega, F6, R7⟩ Om Ls
  obtain rfl : t = 64 := by omega
  rw [Sha.r9] at R;obtain ⟨VH, _, rfl, _, _, _, _, _⟩ := R.get (i := 0) Om;have Hw := Ns.nJ R;have Hh := (Ns.nJ Vw).ext F;refine aU ?_;refine ag (aF (z := .int .u64 0) Tn.u Kr rfl rfl rfl rfl rfl) rfl ?_;rintro _ w5 ⟨g5, rfl, B5, Vz, ex⟩;have x5 := ex; have R5 : Row w5 wb.heap.size 38 (some ⟨g5, 0, none⟩) 0 0 (([] : List Nat).map (iv .u64)) := Row.new B5 Vz rfl (by unfold maxLen; omega);refine aU ?_;refine ag (iF rfl rfl JS R5 (Hh.ext x5).2 (by rw [List.length_map, rB]) nB Om Om x5.size) rfl ?_;rintro _ w6 ⟨Vt, Vy, rfl, VW, be, gr, hl⟩;have x6 : Ext wb w6 := x5.trans be;refine aU ?_;have WZ := F.size;refine aD (fun n' L wd => ∃ (t Vy : Nat) (Vt : Oa), L = [(2, .slice (some ⟨gK, oK, none⟩) 64 c2), (7, .slice (some ⟨gh, 0, none⟩) 8 ch), (8, .slice (some ⟨gM, 0, none⟩) nM c6), (13, .int .i64 ((64 * k : Nat) : Int)), (14, .slice (some ⟨VH, 0, none⟩) 64 Vx), (20, .slice Vt 8 Vy), (21, .int .i64 (t : Int))] ∧ n' = 64 - t ∧ (t ≤ 64 ∧ Ext wb wd ∧ Ns .u64 wd Vt 8 (Sha.rounds (Sha.words bl) S t).list ∧ (∀ o, Vt ≠ some ⟨gh, o, none⟩))) _ _ ⟨0, Vy, Vt, rfl, rfl, by omega, x6, Ns.nJ VW, (fun o e => by have := Rp VW gh o e; omega)⟩ Ls ?_;rintro _ n' L wd ⟨t, Vy, Vt, rfl, rfl, ht, X, HV, hfar⟩ Wx;refine aU ?_;refine ak rfl (fun Wy => ?_) (fun Wy => ?_)
  ·obtain ⟨VJ, VK, _, rfl, _⟩ := HV.cell (i := 0) Om
   obtain ⟨Q, hQ⟩ : ∃ Q, Q = Sha.rounds (Sha.words bl) S t := ⟨_, rfl⟩
   have hok : Q.ok := by rw [hQ]; exact Sha.iH _ hSok _
   rw [← hQ] at HV;obtain ⟨a, b, cc, d, e, f, gg, hh⟩ := Q;obtain ⟨la, lb, lc, ld, le, lf, lg, lh⟩ := hok
   obtain ⟨C, hC⟩ : ∃ C, C = Sha.ch e f gg := ⟨_, rfl⟩
   obtain ⟨J, hJ⟩ : ∃ C, C = Sha.Gi a b cc := ⟨_, rfl⟩
   have hCl : C < 4294967296 := by rw [hC]; exact Sha.Ta le
   have hJl : J < 4294967296 := by rw [hJ]; exact Sha.Rw la lb
   refine aU ?_;refine aD (fun n' L we => ∃ (i u : Nat), L = [(2, .slice (some ⟨gK, oK, none⟩) 64 c2), (7, .slice (some ⟨gh, 0, none⟩) 8 ch), (8, .slice (some ⟨gM, 0, none⟩) nM c6), (13, .int .i64 ((64 * k : Nat) : Int)), (14, .slice (some ⟨VH, 0, none⟩) 64 Vx), (20, .slice (some ⟨VJ, VK, none⟩) 8 Vy), (21, .int .i64 (t : Int)), (22, .int .u64 ((C % u : Nat) : Int)), (23, .int .u64 ((J % u : Nat) : Int)), (24, .int .u64 (u : Int)), (25, .int .i64 (i : Int))] ∧ n' = 32 - i ∧ (i ≤ 32 ∧ u = 2 ^ i ∧ Ext wb we ∧ Ns .u64 we (some ⟨VJ, VK, none⟩) 8 [a, b, cc, d, e, f, gg, hh])) _ _ ⟨0, 1, rfl, rfl, by omega, rfl, X, HV⟩ Ls ?_;rintro _ n' L we ⟨i, u, rfl, rfl, hi, hu, X, HV⟩ VC;refine aU ?_;refine ak rfl (fun Wz => ?_) (fun Wz => ?_)
   ·have hul : u ≤ 2147483648 := by rw [hu]; exact Nat.le_trans (Nat.pow_le_pow_right Om (show i ≤ 31 by omega)) (Nat.le_refl _)
    have VF : 0 < u := by rw [hu]; exact Nat.two_pow_pos i
    have hun : 2 * u = 2 ^ (i + 1) := by rw [Nat.pow_succ, ← hu, Nat.mul_comm]
    have hCm := Nat.mod_lt C VF;have hJm := Nat.mod_lt J VF;have hfu := CQ (f / u) u;have hgu := CQ (gg / u) u;refine au 8 ?_;refine al (aB rfl rfl Tn.u Kr (j := 4) rfl Om) ?_;refine al (af rfl Tn.u rfl (HV.cellAt (i := 4) Om)) ?_;refine au 1 ?_;refine al (dG rfl rfl Om (show IntKind.u64.wrap ((e : Int).tdiv u) = ((e / u : Nat) : Int) from aH rfl (Nat.lt_of_le_of_lt (Nat.div_le_self _ _) (Nat.lt_trans le Om)))) ?_;refine al (ck rfl rfl Om (show (((e / u : Nat) : Int).tmod 2) = ((e / u % 2 : Nat) : Int) from rfl)) ?_;refine aU ?_;refine ak rfl (fun Vu => ?_) (fun Vu => ?_)
    ·refine au 3 ?_;refine al (aB rfl rfl Tn.u Kr (j := 5) rfl Om) ?_;refine al (af rfl Tn.u rfl (HV.cellAt (i := 5) Om)) ?_;refine au 1 ?_;refine al (dG rfl rfl Om (show IntKind.u64.wrap ((f : Int).tdiv u) = ((f / u : Nat) : Int) from aH rfl (Nat.lt_of_le_of_lt (Nat.div_le_self _ _) (Nat.lt_trans lf Om)))) ?_;refine al (ck rfl rfl Om (show (((f / u : Nat) : Int).tmod 2) = ((f / u % 2 : Nat) : Int) from rfl)) ?_;refine au 1 ?_;refine al (cL rfl rfl (aH (n := f / u % 2 * u) (Int.natCast_mul _ _).symm Om)) ?_;refine al (aN rfl rfl (aH (n := C % u + f / u % 2 * u) Om Om)) ?_;refine au 5 ?_;have VL : e / u % 2 = 1 := by exact_mod_cast Vu
     have hCn : C % u + f / u % 2 * u = C % (2 * u) := by rw [hun, hC, Sha.J8 le Om (by rw [← hu]; exact VL), hu]
     refine az Kr 21 rfl ?_; intro VM ex VN;obtain ⟨X,HV⟩ := aZ ex X HV;refine zm [0] ?_;refine my 1 rfl (aB rfl rfl Tn.u Kr (j := 0) rfl Om) ?_;refine my 2 rfl (af rfl Tn.u rfl (HV.cellAt (i := 0) Om)) ?_;refine zm [3] ?_;refine my 4 rfl (dG rfl rfl Om (show IntKind.u64.wrap ((a : Int).tdiv u) = ((a / u : Nat) : Int) from aH rfl (Nat.lt_of_le_of_lt (Nat.div_le_self _ _) (Nat.lt_trans la Om)))) ?_;refine my 5 rfl (ck rfl rfl Om (show (((a / u : Nat) : Int).tmod 2) = ((a / u % 2 : Nat) : Int) from rfl)) ?_;refine zm [6] ?_;refine my 7 rfl (aB rfl rfl Tn.u Kr (j := 1) rfl Om) ?_;refine my 8 rfl (af rfl Tn.u rfl (HV.cellAt (i := 1) Om)) ?_;refine zm [9] ?_;refine my 10 rfl (dG rfl rfl Om (show IntKind.u64.wrap ((b : Int).tdiv u) = ((b / u : Nat) : Int) from aH rfl (Nat.lt_of_le_of_lt (Nat.div_le_self _ _) (Nat.lt_trans lb Om)))) ?_;refine my 11 rfl (ck rfl rfl Om (show (((b / u : Nat) : Int).tmod 2) = ((b / u % 2 : Nat) : Int) from rfl)) ?_;refine my 12 rfl (aN rfl rfl (aH (n := a / u % 2 + b / u % 2) Om Om)) ?_;refine zm [13] ?_;refine my 14 rfl (aB rfl rfl Tn.u Kr (j := 2) rfl Om) ?_;refine my 15 rfl (af rfl Tn.u rfl (HV.cellAt (i := 2) Om)) ?_;refine zm [16] ?_;refine my 17 rfl (dG rfl rfl Om (show IntKind.u64.wrap ((cc : Int).tdiv u) = ((cc / u : Nat) : Int) from aH rfl (Nat.lt_of_le_of_lt (Nat.div_le_self _ _) (Nat.lt_trans lc Om)))) ?_;refine my 18 rfl (ck rfl rfl Om (show (((cc / u : Nat) : Int).tmod 2) = ((cc / u % 2 : Nat) : Int) from rfl)) ?_;refine my 19 rfl (aN rfl rfl (aH (n := a / u % 2 + b / u % 2 + cc / u % 2) Om Om)) ?_;refine zm [20] ?_;refine ak rfl (fun Vq => ?_) (fun Vq => ?_)
     ·refine au 3 ?_;refine al (aN rfl rfl (aH (n := J % u + u) Om Om)) ?_;have Vv : 2 ≤ a / u % 2 + b / u % 2 + cc / u % 2 := by exact_mod_cast Vq
      have hJn : J % u + u = J % (2 * u) := by rw [hun, hJ, Sha.vb (by rw [← hu]; exact Vv), hu]
      refine au 5 ?_;refine al (cL rfl rfl (aH (n := 2 * u) Om Om)) ?_;refine au 9 ?_;refine ae ?_;refine VC _ _ ⟨i + 1, 2 * u, rfl, rfl, by omega, hun, X, HV⟩ Om Ls
     have Vv : ¬ 2 ≤ a / u % 2 + b / u % 2 + cc / u % 2 := fun h => Vq (by exact_mod_cast h)
     have hJn : J % u = J % (2 * u) := by rw [hun, hJ, Sha.uG (by rw [← hu]; exact Vv), hu]
     refine au 4 ?_;refine al (cL rfl rfl (aH (n := 2 * u) Om Om)) ?_;refine au 9 ?_;refine ae ?_;refine VC _ _ ⟨i + 1, 2 * u, rfl, rfl, by omega, hun, X, HV⟩ Om Ls
    refine au 3 ?_;refine al (aB rfl rfl Tn.u Kr (j := 6) rfl Om) ?_;refine al (af rfl Tn.u rfl (HV.cellAt (i := 6) Om)) ?_;refine au 1 ?_;refine al (dG rfl rfl Om (show IntKind.u64.wrap ((gg : Int).tdiv u) = ((gg / u : Nat) : Int) from aH rfl (Nat.lt_of_le_of_lt (Nat.div_le_self _ _) (Nat.lt_trans lg Om)))) ?_;refine al (ck rfl rfl Om (show (((gg / u : Nat) : Int).tmod 2) = ((gg / u % 2 : Nat) : Int) from rfl)) ?_;refine au 1 ?_;refine al (cL rfl rfl (aH (n := gg / u % 2 * u) (Int.natCast_mul _ _).symm Om)) ?_;refine al (aN rfl rfl (aH (n := C % u + gg / u % 2 * u) Om Om)) ?_;refine au 5 ?_;have VL : ¬ e / u % 2 = 1 := fun h => Vu (by exact_mod_cast h)
    have hCn : C % u + gg / u % 2 * u = C % (2 * u) := by rw [hun, hC, Sha.Lz le Om (by rw [← hu]; exact VL), hu]
    refine az Kr 21 rfl ?_; intro VM ex VN;obtain ⟨X,HV⟩ := aZ ex X HV;refine zm [0] ?_;refine my 1 rfl (aB rfl rfl Tn.u Kr (j := 0) rfl Om) ?_;refine my 2 rfl (af rfl Tn.u rfl (HV.cellAt (i := 0) Om)) ?_;refine zm [3] ?_;refine my 4 rfl (dG rfl rfl Om (show IntKind.u64.wrap ((a : Int).tdiv u) = ((a / u : Nat) : Int) from aH rfl (Nat.lt_of_le_of_lt (Nat.div_le_self _ _) (Nat.lt_trans la Om)))) ?_;refine my 5 rfl (ck rfl rfl Om (show (((a / u : Nat) : Int).tmod 2) = ((a / u % 2 : Nat) : Int) from rfl)) ?_;refine zm [6] ?_;refine my 7 rfl (aB rfl rfl Tn.u Kr (j := 1) rfl Om) ?_;refine my 8 rfl (af rfl Tn.u rfl (HV.cellAt (i := 1) Om)) ?_;refine zm [9] ?_;refine my 10 rfl (dG rfl rfl Om (show IntKind.u64.wrap ((b : Int).tdiv u) = ((b / u : Nat) : Int) from aH rfl (Nat.lt_of_le_of_lt (Nat.div_le_self _ _) (Nat.lt_trans lb Om)))) ?_;refine my 11 rfl (ck rfl rfl Om (show (((b / u : Nat) : Int).tmod 2) = ((b / u % 2 : Nat) : Int) from rfl)) ?_;refine my 12 rfl (aN rfl rfl (aH (n := a / u % 2 + b / u % 2) Om Om)) ?_;refine zm [13] ?_;refine my 14 rfl (aB rfl rfl Tn.u Kr (j := 2) rfl Om) ?_;refine my 15 rfl (af rfl Tn.u rfl (HV.cellAt (i := 2) Om)) ?_;refine zm [16] ?_;refine my 17 rfl (dG rfl rfl Om (show IntKind.u64.wrap ((cc : Int).tdiv u) = ((cc / u : Nat) : Int) from aH rfl (Nat.lt_of_le_of_lt (Nat.div_le_self _ _) (Nat.lt_trans lc Om)))) ?_;refine my 18 rfl (ck rfl rfl Om (show (((cc / u : Nat) : Int).tmod 2) = ((cc / u % 2 : Nat) : Int) from rfl)) ?_;refine my 19 rfl (aN rfl rfl (aH (n := a / u % 2 + b / u % 2 + cc / u % 2) Om Om)) ?_;refine zm [20] ?_;refine ak rfl (fun Vq => ?_) (fun Vq => ?_)
    ·refine au 3 ?_;refine al (aN rfl rfl (aH (n := J % u + u) Om Om)) ?_;have Vv : 2 ≤ a / u % 2 + b / u % 2 + cc / u % 2 := by exact_mod_cast Vq
     have hJn : J % u + u = J % (2 * u) := by rw [hun, hJ, Sha.vb (by rw [← hu]; exact Vv), hu]
     refine au 5 ?_;refine al (cL rfl rfl (aH (n := 2 * u) Om Om)) ?_;refine au 9 ?_;refine ae ?_;refine VC _ _ ⟨i + 1, 2 * u, rfl, rfl, by omega, hun, X, HV⟩ Om Ls
    have Vv : ¬ 2 ≤ a / u % 2 + b / u % 2 + cc / u % 2 := fun h => Vq (by exact_mod_cast h)
    have hJn : J % u = J % (2 * u) := by rw [hun, hJ, Sha.uG (by rw [← hu]; exact Vv), hu]
    refine au 4 ?_;refine al (cL rfl rfl (aH (n := 2 * u) Om Om)) ?_;refine au 9 ?_;refine ae ?_;refine VC _ _ ⟨i + 1, 2 * u, rfl, rfl, by omega, hun, X, HV⟩ Om Ls
   refine au 6 ?_;obtain rfl : i = 32 := by omega
   obtain rfl : u = 4294967296 := by rw [hu]
   rw [Nat.mod_eq_of_lt hCl, Nat.mod_eq_of_lt hJl]
   obtain ⟨kt, hkt⟩ : ∃ q, q = Sha.K.getD t 0 := ⟨_, rfl⟩
   obtain ⟨wt, hwt⟩ : ∃ q, q = (Sha.words bl).getD t 0 := ⟨_, rfl⟩
   obtain ⟨T, hT⟩ : ∃ T, T = Sha.T1 ⟨a, b, cc, d, e, f, gg, hh⟩ kt wt := ⟨_, rfl⟩
   obtain ⟨U, hU⟩ : ∃ T, T = Sha.T2 ⟨a, b, cc, d, e, f, gg, hh⟩ := ⟨_, rfl⟩
   have WA : T = hh + ((Sha.cQ e 6 ^^^ Sha.cQ e 11) ^^^ Sha.cQ e 25) + C + kt + wt := by rw [hT, hC]; rfl
   have WB : U = ((Sha.cQ a 2 ^^^ Sha.cQ a 13) ^^^ Sha.cQ a 22) + J := by rw [hU, hJ]; rfl
   have W0 : kt < 4294967296 := by rw [hkt]; exact Sha.gV Sha.TF _
   have W3 : wt < 4294967296 := by rw [hwt]; exact Sha.gV (Sha.Ik bl) _
   have W4 : (Sha.cQ e 6 ^^^ Sha.cQ e 11) ^^^ Sha.cQ e 25 < 4294967296 := Sha.SU le;have W5 : (Sha.cQ a 2 ^^^ Sha.cQ a 13) ^^^ Sha.cQ a 22 < 4294967296 := Sha.Sl la;refine az Kr 31 rfl ?_; intro WD ex WE;obtain ⟨X,HV⟩ := aZ ex X HV;refine zm [0] ?_;refine my 1 rfl (aB rfl rfl Tn.u Kr (j := 7) rfl Om) ?_;refine my 2 rfl (af rfl Tn.u rfl (HV.cellAt (i := 7) Om)) ?_;refine zm [3] ?_;refine my 4 rfl (aB rfl rfl Tn.u Kr (j := 4) rfl Om) ?_;refine my 5 rfl (af rfl Tn.u rfl (HV.cellAt (i := 4) Om)) ?_;refine zm [7] ?_;refine my 8 rfl (aB rfl rfl Tn.u Kr (j := 4) rfl Om) ?_;refine my 9 rfl (af rfl Tn.u rfl (HV.cellAt (i := 4) Om)) ?_;refine zm [12] ?_;refine my 13 rfl (aB rfl rfl Tn.u Kr (j := 4) rfl Om) ?_;refine my 14 rfl (af rfl Tn.u rfl (HV.cellAt (i := 4) Om)) ?_;refine zm [18, 20, 21, 22] ?_;refine my 23 rfl (af rfl Tn.u rfl (show _ = some (.int .u64 ((kt : Nat) : Int)) from by rw [hkt]; exact (HKa.wk (F.tr X)).cellAt Om)) ?_;refine zm [25, 26, 27] ?_;refine my 28 rfl (af rfl Tn.u rfl (show _ = some (.int .u64 ((wt : Nat) : Int)) from by rw [hwt]; exact (Hw.wk X).cellAt Om)) ?_;refine bz 6 rfl func187 rfl (eS e 6 _ le Om) ?_;rintro e w9 ⟨rfl, ex⟩;obtain ⟨X,HV⟩ := aZ ex X HV;refine aU ?_;refine bz 10 rfl func187 rfl (eS e 11 _ le Om) ?_;rintro e w9 ⟨rfl, ex⟩;obtain ⟨X,HV⟩ := aZ ex X HV;refine aU ?_;refine my 11 rfl (bP rfl rfl rfl) ?_;refine bz 15 rfl func187 rfl (eS e 25 _ le Om) ?_;rintro e w9 ⟨rfl, ex⟩;obtain ⟨X,HV⟩ := aZ ex X HV;refine aU ?_;refine my 16 rfl (bP rfl rfl (DO _ _ _ (Sha.br le Om) (Sha.br le Om) (Sha.br le Om))) ?_;refine my 17 rfl (aN rfl rfl rfl) ?_;refine my 19 rfl (aN rfl rfl rfl) ?_;refine my 24 rfl (aN rfl rfl rfl) ?_;refine my 29 rfl (Y.as (aN rfl rfl rfl) (congrArg (Value.int .u64) (show _ = ((T : Nat) : Int) from by rw [j9, j9, j9, j9, WA, show ([a, b, cc, d, e, f, gg, hh].getD 7 0) = hh from rfl]; have : hh < 4294967296 := lh; omega))) ?_;refine zm [30] ?_;refine az Kr 17 rfl ?_; intro WG ex WH;obtain ⟨X,HV⟩ := aZ ex X HV;refine zm [0] ?_;refine my 1 rfl (aB rfl rfl Tn.u Kr (j := 0) rfl Om) ?_;refine my 2 rfl (af rfl Tn.u rfl (HV.cellAt (i := 0) Om)) ?_;refine zm [4] ?_;refine my 5 rfl (aB rfl rfl Tn.u Kr (j := 0) rfl Om) ?_;refine my 6 rfl (af rfl Tn.u rfl (HV.cellAt (i := 0) Om)) ?_;refine zm [9] ?_;refine my 10 rfl (aB rfl rfl Tn.u Kr (j := 0) rfl Om) ?_;refine my 11 rfl (af rfl Tn.u rfl (HV.cellAt (i := 0) Om)) ?_;refine zm [14] ?_;refine bz 3 rfl func187 rfl (eS a 2 _ la Om) ?_;rintro e w9 ⟨rfl, ex⟩;obtain ⟨X,HV⟩ := aZ ex X HV;refine aU ?_;refine bz 7 rfl func187 rfl (eS a 13 _ la Om) ?_;rintro e w9 ⟨rfl, ex⟩;obtain ⟨X,HV⟩ := aZ ex X HV;refine aU ?_;refine my 8 rfl (bP rfl rfl rfl) ?_;refine bz 12 rfl func187 rfl (eS a 22 _ la Om) ?_;rintro e w9 ⟨rfl, ex⟩;obtain ⟨X,HV⟩ := aZ ex X HV;refine aU ?_;refine my 13 rfl (bP rfl rfl (DO _ _ _ (Sha.br la Om) (Sha.br la Om) (Sha.br la Om))) ?_;refine my 15 rfl (Y.as (aN rfl rfl rfl) (congrArg (Value.int .u64) (show _ = ((U : Nat) : Int) from by rw [j9, WB]; omega))) ?_;refine zm [16] ?_;refine az Kr 30 rfl ?_; intro WI ex WO;obtain ⟨X,HV⟩ := aZ ex X HV;refine zm [0, 1] ?_;refine my 2 rfl (aN rfl rfl (aH (n := T + U) Om (by have : hh < 4294967296 := lh; omega))) ?_;refine my 3 rfl (ck rfl rfl Om (show (((T + U : Nat) : Int).tmod 4294967296) = (((T + U) % 4294967296 : Nat) : Int) from rfl)) ?_;refine zm [4] ?_;refine my 5 rfl (aB rfl rfl Tn.u Kr (j := 0) rfl Om) ?_;refine my 6 rfl (af rfl Tn.u rfl (HV.cellAt (i := 0) Om)) ?_;refine zm [7] ?_;refine my 8 rfl (aB rfl rfl Tn.u Kr (j := 1) rfl Om) ?_;refine my 9 rfl (af rfl Tn.u rfl (HV.cellAt (i := 1) Om)) ?_;refine zm [10] ?_;refine my 11 rfl (aB rfl rfl Tn.u Kr (j := 2) rfl Om) ?_;refine my 12 rfl (af rfl Tn.u rfl (HV.cellAt (i := 2) Om)) ?_;refine zm [13] ?_;refine my 14 rfl (aB rfl rfl Tn.u Kr (j := 3) rfl Om) ?_;refine my 15 rfl (af rfl Tn.u rfl (HV.cellAt (i := 3) Om)) ?_;refine zm [16] ?_;refine my 17 rfl (Y.as (aN rfl rfl rfl) (congrArg (Value.int .u64) (show _ = ((d + T : Nat) : Int) from by rw [j9]; show ((d : Int) + _) % _ = _; have : hh < 4294967296 := lh; have : d < 4294967296 := ld; omega))) ?_;refine my 18 rfl (ck rfl rfl Om (show (((d + T : Nat) : Int).tmod 4294967296) = (((d + T) % 4294967296 : Nat) : Int) from rfl)) ?_;refine zm [19] ?_;refine my 20 rfl (aB rfl rfl Tn.u Kr (j := 4) rfl Om) ?_;refine my 21 rfl (af rfl Tn.u rfl (HV.cellAt (i := 4) Om)) ?_;refine zm [22] ?_;refine my 23 rfl (aB rfl rfl Tn.u Kr (j := 5) rfl Om) ?_;refine my 24 rfl (af rfl Tn.u rfl (HV.cellAt (i := 5) Om)) ?_;refine zm [25] ?_;refine my 26 rfl (aB rfl rfl Tn.u Kr (j := 6) rfl Om) ?_;refine my 27 rfl (af rfl Tn.u rfl (HV.cellAt (i := 6) Om)) ?_;have hzX := X.size;refine aL 28 Kr ?_; refine aQ rfl (aF (z := .int .u64 0) Tn.u Kr rfl rfl rfl rfl rfl) rfl ?_;rintro _ w7 ⟨g7, rfl, B7, VT, ex⟩;refine ⟨.inr ex, ?_⟩;replace X := X.ext ex
   have e2 : (Sha.rounds (Sha.words bl) S (t + 1)).list = [(T + U) % 4294967296, a, b, cc, (d + T) % 4294967296, e, f, gg] := by show (Sha.As (Sha.rounds (Sha.words bl) S t) (Sha.K.getD t 0) ((Sha.words bl).getD t 0)).list = _;rw [← hQ, ← hkt, ← hwt, hT, hU]; rfl
   refine Gh [29] ?_;refine au 11 ?_;refine ae ?_;refine Wx _ _ ⟨t + 1, 8, some ⟨g7, 0, none⟩, rfl, rfl, by omega, X, (by rw [e2]; exact Ns.jn (B7.congr rfl) rfl), (fun o h => by injection h with h; injection h; omega)⟩ Om Ls
  obtain rfl : t = 64 := by omega
  obtain ⟨m, hm⟩ : ∃ m, m = (Sha.rounds (Sha.words bl) S 64).list := ⟨_, rfl⟩
  rw [← hm] at HV;have VO : S.list.length = m.length := by rw [hm, rB, rB]
  have WS := rB S;have Au : ∀ i, m.getD i 0 < 4294967296 := by rw [hm]; exact AD (Sha.iH _ hSok _)
  have okl := AD hSok;have hfin : (Sha.blocks Sha.IV M (k + 1)).list = Sha.fV S.list m 8 := by rw [hm, ← Sha.r8, hS, hbl]; rfl
  have G9 : wr.grownBy wd (some gh) := lF.tr G (lF.LO (F.tr X) gh);have VX := Vw.ext (F.tr X)
  obtain ⟨l, hl⟩ : ∃ l, l = S.list := ⟨_, rfl⟩
  rw [← hl] at VX okl WS VO hfin;refine aU ?_;refine aD (fun n' L wg => ∃ i : Nat, L = [(2, .slice (some ⟨gK, oK, none⟩) 64 c2), (7, .slice (some ⟨gh, 0, none⟩) 8 ch), (8, .slice (some ⟨gM, 0, none⟩) nM c6), (13, .int .i64 ((64 * k : Nat) : Int)), (20, .slice Vt 8 Vy), (28, .int .i64 (i : Int))] ∧ n' = 8 - i ∧ (i ≤ 8 ∧ wd.grownBy wg (some gh) ∧ Row wg w.heap.size 38 (some ⟨gh, 0, none⟩) 8 ch ((Sha.fV l m i).map (iv .u64)))) _ _ ⟨0, rfl, rfl, by omega, World.grownBy.refl _ _, (by rw [Sha.mE]; exact VX)⟩ Ls ?_;rintro _ n' L wg ⟨i, rfl, rfl, hi, CG, Rg⟩ WT;refine aU ?_;refine ak rfl (fun VP => ?_) (fun VP => ?_)
  ·refine aU ?_;obtain ⟨VJ, VK, _, rfl, _⟩ := HV.cell (i := 0) Om;have HVg := HV.JB CG hfar
   obtain ⟨p, hp⟩ : ∃ p, p = l.getD i 0 := ⟨_, rfl⟩
   obtain ⟨q, hq⟩ : ∃ q, q = m.getD i 0 := ⟨_, rfl⟩
   have lp : p < 4294967296 := by rw [hp]; exact okl _
   have lq : q < 4294967296 := by rw [hq]; exact Au _
   have hgp : (Sha.fV l m i).getD i 0 = p := by rw [Sha.oe VO Om, hp]
   refine az Kr 14 rfl ?_; intro WU ex WV;replace HVg := HVg.ext ex; replace Rg := Rg.ext ex; replace CG := lF.tr CG (lF.LO ex gh);refine zm [0, 1, 2, 3, 4] ?_;refine my 5 rfl (af rfl Tn.u rfl (show _ = some (.int .u64 ((p : Nat) : Int)) from by rw [← hgp]; exact (Ns.nJ Rg).cellAt Om)) ?_;refine zm [6, 7, 8] ?_;refine my 9 rfl (af rfl Tn.u rfl (show _ = some (.int .u64 ((q : Nat) : Int)) from by rw [hq]; exact HVg.cellAt Om)) ?_;refine dg 10 rfl (fun _ => aN rfl rfl (aH (n := p + q) Om Om)) ?_;refine dg 11 rfl (fun _ => ck rfl rfl Om (show (((p + q : Nat) : Int).tmod 4294967296) = (((p + q) % 4294967296 : Nat) : Int) from rfl)) ?_;refine zm [12] ?_;refine aL 13 Kr ?_; refine aQ rfl (mP rfl rfl rfl Kr Rg Om) rfl ?_;rintro _ _ ⟨rfl, VY, cg⟩;refine ⟨.inl rfl, ?_⟩;have WW := lF.tr CG cg; have hset : ((Sha.fV l m i).map (iv .u64)).set i (.int .u64 (((p + q) % 4294967296 : Nat) : Int)) = (Sha.fV l m (i + 1)).map (iv .u64) := by rw [← Sha.ox VO Om, ← hp, ← hq, List.map_set]; rfl
   rw [hset] at VY;refine au 9 ?_;refine ae ?_;refine WT _ _ ⟨i + 1, rfl, rfl, by omega, WW, VY⟩ Om Ls
  obtain rfl : i = 8 := by omega
  refine au 8 ?_;refine al (aN rfl rfl (bD (n := 64 * (k + 1)) Om Om)) ?_;refine au 2 ?_;refine ae ?_;refine Wg _ _ ⟨k + 1, rfl, rfl, by omega, lF.tr G9 CG, (by rw [hfin]; exact Rg)⟩ Om Ls
 have hkM : nM = 64 * k := by omega
 obtain ⟨S, hS⟩ : ∃ s, s = Sha.blocks Sha.IV M k := ⟨_, rfl⟩
 rw [← hS] at Vw;have hsum : Sha.sum xs = S.bytes := by unfold Sha.sum; rw [hxl, ← hM, hMl, hkM, Nat.mul_div_cancel_left _ Om, hS]
 have hSl := Sha.kl S;have hSok : S.ok := by rw [hS]; exact Sha.mC Sha.uz _ _
 have Ea : Ext w wa := Ew.aA G Om;have Hh := Ns.nJ Vw;refine aU ?_;refine aD (fun n' L wo => ∃ (i VD : Nat) (VE : Oa), L = [(7, .slice (some ⟨gh, 0, none⟩) 8 ch), (29, .slice VE (4 * i) VD), (30, .int .i64 (i : Int))] ∧ n' = 8 - i ∧ (i ≤ 8 ∧ Ext wa wo ∧ Row wo wa.heap.size 5 VE (4 * i) VD ((S.bytes.take (4 * i)).map bv))) _ _ ⟨0, 0, none, rfl, rfl, by omega, Ext.refl _, Row.empty _ _ _⟩ Ls ?_;rintro _ n' L wo ⟨i, VD, VE, rfl, rfl, hi, F, R⟩ VQ;refine aU ?_;refine ak rfl (fun VR => ?_) (fun VR => ?_)
 ·refine aU ?_
  obtain ⟨x, hx⟩ : ∃ x, x = S.list.getD i 0 := ⟨_, rfl⟩
  have hxw : x < 4294967296 := by rw [hx]; exact AD hSok _
  have Hx := Hh.wk F;refine az Kr 30 rfl ?_; intro WX ex WY;obtain ⟨F,R,Hx⟩ := bF ex F R Hx;refine zm [0, 1, 2, 3] ?_;refine my 4 rfl (af rfl Tn.u rfl (show _ = some (.int .u64 ((x : Nat) : Int)) from by rw [hx]; exact Hx.cellAt Om)) ?_;refine dg 5 rfl (fun _ => dG rfl rfl Om (show IntKind.u64.wrap ((x : Int).tdiv 16777216) = ((x / 16777216 : Nat) : Int) from aH rfl Om)) ?_;refine my 6 rfl (bo rfl Tn.u Tn.u (Vh _)) ?_;refine zm [7, 8, 9] ?_;refine my 10 rfl (af rfl Tn.u rfl (show _ = some (.int .u64 ((x : Nat) : Int)) from by rw [hx]; exact Hx.cellAt Om)) ?_;refine dg 11 rfl (fun _ => dG rfl rfl Om (show IntKind.u64.wrap ((x : Int).tdiv 65536) = ((x / 65536 : Nat) : Int) from aH rfl Om)) ?_;refine dg 12 rfl (fun _ => ck rfl rfl Om (show (((x / 65536 : Nat) : Int).tmod 256) = ((x / 65536 % 256 : Nat) : Int) from rfl)) ?_;refine my 13 rfl (bo rfl Tn.u Tn.u (Te _)) ?_;refine zm [14, 15, 16] ?_;refine my 17 rfl (af rfl Tn.u rfl (show _ = some (.int .u64 ((x : Nat) : Int)) from by rw [hx]; exact Hx.cellAt Om)) ?_;refine dg 18 rfl (fun _ => dG rfl rfl Om (show IntKind.u64.wrap ((x : Int).tdiv 256) = ((x / 256 : Nat) : Int) from aH rfl Om)) ?_;refine dg 19 rfl (fun _ => ck rfl rfl Om (show (((x / 256 : Nat) : Int).tmod 256) = ((x / 256 % 256 : Nat) : Int) from rfl)) ?_;refine my 20 rfl (bo rfl Tn.u Tn.u (Te _)) ?_;refine zm [21, 22, 23] ?_;refine my 24 rfl (af rfl Tn.u rfl (show _ = some (.int .u64 ((x : Nat) : Int)) from by rw [hx]; exact Hx.cellAt Om)) ?_;refine dg 25 rfl (fun _ => ck rfl rfl Om (show ((x : Int).tmod 256) = ((x % 256 : Nat) : Int) from rfl)) ?_;refine my 26 rfl (bo rfl Tn.u Tn.u (Te _)) ?_;refine aL 27 Kr ?_; refine aQ rfl (aF (z := .int .u8 0) Tn.u Kr rfl rfl rfl rfl rfl) rfl ?_;rintro _ w5 ⟨g5, rfl, B5, Vz, ex⟩;refine ⟨.inr ex, ?_⟩;have F5 := F.ext ex; have R5 := R.ext ex;refine aL 28 Kr ?_; refine aQ rfl (aX rfl rfl bT R5 (At.jn (vs := (Sha.tZ x).map bv) (B5.congr rfl)) rfl aJ Om Om F5.size) rfl ?_;rintro _ w6 ⟨A7, c7, rfl, R6, be, gr, hl⟩;refine ⟨.inl rfl, ?_⟩;have F6 := F5.trans be; replace R6 := R6.cat; rw [hx, Si _ _ Om] at R6;refine Gh [29] ?_;refine au 11 ?_;refine ae ?_;refine VQ _ _ ⟨i + 1, c7, A7, rfl, rfl, by omega, F6, R6⟩ Om Ls
 refine aU ?_;refine hret rfl ?_;obtain rfl : i = 8 := by omega
 exact ⟨VE, VD, rfl, by rw [hsum]; rw [List.take_of_length_le Om] at R; exact Row.lower R Ea.size, Ea.tr F⟩
end
section
open Go.RowKit Tryz
theorem U5 : bits .and .u64 (IntKind.u64.wrap (-7)) 31 = 25 := by decide +kernel
theorem Uj : bits .and .u64 (IntKind.u64.wrap (-18)) 31 = 14 := by decide +kernel
theorem Ud : bits .and .u64 (IntKind.u64.wrap (-17)) 31 = 15 := by decide +kernel
theorem TK : bits .and .u64 (IntKind.u64.wrap (-19)) 31 = 13 := by decide +kernel
theorem Vn : bits .and .u64 (IntKind.u64.wrap (-6)) 31 = 26 := by decide +kernel
theorem TB : bits .and .u64 (IntKind.u64.wrap (-11)) 31 = 21 := by decide +kernel
theorem Ui : bits .and .u64 (IntKind.u64.wrap (-25)) 31 = 7 := by decide +kernel
theorem Ve : bits .and .u64 (IntKind.u64.wrap (-2)) 31 = 30 := by decide +kernel
theorem Uv : bits .and .u64 (IntKind.u64.wrap (-13)) 31 = 19 := by decide +kernel
theorem TA : bits .and .u64 (IntKind.u64.wrap (-22)) 31 = 10 := by decide +kernel
theorem Nc (x n : Nat) (hx : x < 4294967296) (hn : n ≤ 32) (p q : Int) (hp : p = ((x * 2 ^ (32 - n) % 4294967296 : Nat) : Int)) (hq : q = ((x / 2 ^ n : Nat) : Int)) :
  Ending.returned (.int .u32 (bits .or .u32 p q)) = .returned (.int .u32 (Sha.cQ x n : Nat)) := by
 subst hp; subst hq;rw [u32_or_nat _ _ (Nat.mod_lt _ Om) (Nat.lt_of_le_of_lt (Nat.div_le_self _ _) hx), Sha.xi hx hn]
theorem jV (x : Nat) (n : Int) (w : World) (hx : x < 4294967296) (hn : n = 7 ∨ n = 18 ∨ n = 17 ∨ n = 19 ∨ n = 6 ∨ n = 11 ∨ n = 25 ∨ n = 2 ∨ n = 13 ∨ n = 22) :
  Calls Tryz.prog 266 #[.int .u32 x, .int .i64 n] w fun e w' => e = .returned (.int .u32 (Sha.cQ x n.toNat : Nat)) ∧ w = w' := by
 have h7 := U5; have Vq := Uj; have Vr := Ud; have Vs := TK; have h6 := Vn;have Vt := TB; have Vu := Ui; have h2 := Ve; have Vv := Uv; have Vw := TA;rcases hn with rfl | rfl | rfl | rfl | rfl | rfl | rfl | rfl | rfl | rfl
 all_goals
  go_enter func266, ntmps266
  go_wp2
  go_ret
  exact ⟨Nc x _ hx (by decide) _ _ (by simp) (by simp), rfl⟩
theorem SJ : (Tryz.prog.info? 305).map (fun i => i.zero.map (·.cells)) = some (some (aM .u32 (lC 64))) := by kernel_rfl
theorem z8 : (Tryz.prog.info? 284).map (fun i => i.zero.map (·.cells)) = some (some (aM .u32 (lC 8))) := by kernel_rfl
theorem PH : (Tryz.prog.info? 305).map (·.size) = some 64 := by kernel_rfl
theorem s8 : (Tryz.prog.info? 284).map (·.size) = some 8 := by kernel_rfl
set_option maxRecDepth 100000 in
theorem EP (w : World) : Calls Tryz.prog 265 #[] w fun e w' => e = .returned (.agg (aM .u32 Sha.K)) ∧ Below w.heap.size w w' := by go_enter func265, ntmps265;go_wp2_with (first | refine et rfl _ rfl _ SJ w.heap.size rfl ?_ | refine vv rfl _ _ rfl (aM .u32 Sha.K) Kr ?_ | refine fv rfl _ _ _ rfl w.heap.size (aM .u32 Sha.K) rfl rfl _ _ (ao.new w _ _) 64 PH rfl rfl (dc _ _) ?_);exact rM rfl w.heap.size _ _ _ rfl ((ao.new w _ _).row _) underlying305 rfl 64 PH rfl rfl ⟨rfl, gW ((Below.refl _ _).alloc (Nat.le_refl _) _) (Nat.le_refl _) _⟩
theorem FW (w : World) : Calls Tryz.prog 246 #[] w fun e w' => e = .returned (.agg (aM .u32 Sha.H0)) ∧ Below w.heap.size w w' := by go_enter func246, ntmps246;go_wp2_with (first | refine et rfl _ rfl _ z8 w.heap.size rfl ?_ | refine vv rfl _ _ rfl (aM .u32 Sha.H0) Kr ?_ | refine fv rfl _ _ _ rfl w.heap.size (aM .u32 Sha.H0) rfl rfl _ _ (ao.new w _ _) 8 s8 rfl rfl (dc _ _) ?_);exact rM rfl w.heap.size _ _ _ rfl ((ao.new w _ _).row _) underlying284 rfl 8 s8 rfl rfl ⟨rfl, gW ((Below.refl _ _).alloc (Nat.le_refl _) _) (Nat.le_refl _) _⟩
theorem Tc (a b c d : UInt8) : bits .or .u32 (bits .or .u32 (bits .or .u32 ((a.toNat : Int) % 4294967296 * 16777216 % 4294967296) ((b.toNat : Int) % 4294967296 * 65536 % 4294967296)) ((c.toNat : Int) % 4294967296 * 256 % 4294967296)) ((d.toNat : Int) % 4294967296) =
  ((a.toNat * 16777216 + b.toNat * 65536 + c.toNat * 256 + d.toNat : Nat) : Int) := by
 have ha := a.toNat_lt; have hb := b.toNat_lt; have hc := c.toNat_lt; have hd := d.toNat_lt
 generalize a.toNat = a at *; generalize b.toNat = b at *; generalize c.toNat = c at *; generalize d.toNat = d at *
 have e1 : (a : Int) % 4294967296 * 16777216 % 4294967296 = ((a * 16777216 : Nat) : Int) := by omega
 have e2 : (b : Int) % 4294967296 * 65536 % 4294967296 = ((b * 65536 : Nat) : Int) := by omega
 have e3 : (c : Int) % 4294967296 * 256 % 4294967296 = ((c * 256 : Nat) : Int) := by omega
 have e4 : (d : Int) % 4294967296 = (d : Int) := by omega
 rw [e1, e2, e3, e4, u32_or_nat _ _ Om Om, nat_join 24 _ _ Om Om, u32_or_nat _ _ Om Om, nat_join 16 _ _ Om Om, u32_or_nat _ _ Om Om, nat_join 8 _ _ Om Om]
theorem Lu (a b c : Nat) (ha : a < 4294967296) (hb : b < 4294967296) (hc : c < 4294967296) : bits .xor .u32 (bits .xor .u32 (a : Int) (b : Int)) (c : Int) = (((a ^^^ b) ^^^ c : Nat) : Int) := by rw [u32_xor_nat _ _ ha hb, u32_xor_nat _ _ (Sha.ix ha hb) hc]
set_option maxRecDepth 100000 in
theorem EZ (A : Oa) (c : Nat) (xs : Lb) (w : World) (ha : Bs w A 64 xs) :
   Calls Tryz.prog 264 #[.slice A 64 c] w fun e w' => e = .returned (.agg (aM .u32 (Sha.words xs))) ∧ Below w.heap.size w w' := by
  go_enter func264, ntmps264;go_wp2_with (first | refine et rfl _ rfl _ SJ w.heap.size rfl ?_ | refine et rfl _ rfl _ SJ (w.heap.size + 1) (by simp) ?_);go_loopw [4, 10] (fun _ i wr => ∃ k : Nat, k ≤ 16 ∧ i = .int .i64 k ∧ Below w.heap.size w wr ∧ ao wr w.heap.size 305 (aM .u32 (lC 64)) ∧ ao wr (w.heap.size + 1) 305 (aM .u32 (Sha.jr xs k ++ lC (64 - k)))) (fun _ i _ => 16 - (intOf i).toNat);case atStart => exact ⟨0, by omega, rfl, ((Below.refl _ _).alloc (Nat.le_refl _) _).alloc (by simp) _, (ao.new w _ _).alloc _, by have := ao.new (w.alloc (.cells (aM .u32 (lC 64)) 305)) 305 (aM .u32 (lC 64)); rw [World.size_alloc] at this; exact this⟩
  case round =>
    obtain ⟨k, hk, rfl, hbw, VC, VD⟩ := hrel
    have Vx := Lib.hid VC
    have Vr := Lib.hid VD
    have HW := Lib.hid hbw
    clear VC VD hbw
    by_cases hlt : k < 16
    · have Vs := ha.below HW.out
      obtain ⟨b, off, x0, rfl, VE, V0⟩ := Vs.byte (k := 4 * k) Om
      obtain ⟨x1, VF, V4⟩ := Vs.Bv (k := 4 * k + 1) Om
      obtain ⟨x2, VG, V5⟩ := Vs.Bv (k := 4 * k + 2) Om
      obtain ⟨x3, VH, V6⟩ := Vs.Bv (k := 4 * k + 3) Om
      clear Vs
      have hcc : wr.cell? ⟨w.heap.size + 1, k, none⟩ = some (.int .u32 0) := by rw [Vr.out.cell]; exact vf _ _ _ _ (by rw [Sha.fS]) Om
      have hff := Vr.out.frozen k
      have V9 : IntKind.i64.wrap (4 * (k : Int)) = 4 * (k : Int) := IntWalk.i64_in _ Om
      have Wa : 0 ≤ 4 * (k : Int) := by omega
      have Wb : 4 * (k : Int) < 64 := by omega
      have Wc : (4 * (k : Int)).toNat = 4 * k := by omega
      have VM : IntKind.i64.wrap (4 * (k : Int) + 1) = 4 * (k : Int) + 1 := IntWalk.i64_in _ Om
      have VN : 0 ≤ 4 * (k : Int) + 1 := by omega
      have VO : 4 * (k : Int) + 1 < 64 := by omega
      have VP : (4 * (k : Int) + 1).toNat = 4 * k + 1 := by omega
      have VQ : IntKind.i64.wrap (4 * (k : Int) + 2) = 4 * (k : Int) + 2 := IntWalk.i64_in _ Om
      have VR : 0 ≤ 4 * (k : Int) + 2 := by omega
      have VS : 4 * (k : Int) + 2 < 64 := by omega
      have VT : (4 * (k : Int) + 2).toNat = 4 * k + 2 := by omega
      have VU : IntKind.i64.wrap (4 * (k : Int) + 3) = 4 * (k : Int) + 3 := IntWalk.i64_in _ Om
      have VV : 0 ≤ 4 * (k : Int) + 3 := by omega
      have VW : 4 * (k : Int) + 3 < 64 := by omega
      have VX : (4 * (k : Int) + 3).toNat = 4 * k + 3 := by omega
      have VY : (k : Int) < 64 := by omega
      go_wp2_with fail
      go_still_tail 35, Kr
      change wpList _ _ _ _ _ wr.drew
      go_wp2
      go_roundw
      case rel =>
        rw [Tc]
        refine ⟨k + 1, by omega, by go_num, (HW.out.drew).setCell (by simp) _, Vx.out.De (by simp) _, ?_⟩
        have h := Vr.out.set k (.int .u32 ((x0.toNat * 16777216 + x1.toNat * 65536 + x2.toNat * 256 + x3.toNat : Nat) : Int))
        rw [zS _ _ _ (64 - (k + 1)) _ _ (by rw [Sha.fS]) Om] at h
        rw [VE.out, VF.out, VG.out, VH.out] at h
        rw [VE.out, VF.out, VG.out, VH.out]
        exact h
      case measure => simp [intOf]; omega
    have Vt : ao wr (w.heap.size + 1) 305 (aM .u32 (Sha.jr xs 16 ++ lC 48)) := by have h := Vr.out;grind
    have Vu := Lib.hid Vt
    clear Vt Vr
    go_wp2
    obtain ⟨wo, rfl⟩ : ∃ wo : World, wo = wr := ⟨_, rfl⟩
    go_loopw [5, 6, 7, 8, 9] (fun i _ _ _ _ wx => ∃ t : Nat, 16 ≤ t ∧ t ≤ 64 ∧ i = .int .i64 t ∧ Below w.heap.size w wx ∧ ao wx w.heap.size 305 (aM .u32 (lC 64)) ∧ ao wx (w.heap.size + 1) 305 (aM .u32 (Sha.ext (Sha.jr xs 16) (t - 16) ++ lC (64 - t)))) (fun i _ _ _ _ _ => 64 - (intOf i).toNat)
    case atStart => exact ⟨16, by omega, by omega, rfl, HW.out, Vx.out, Vu.out⟩
    case round =>
      obtain ⟨t, We, Wf, rfl, hbx, VI, VJ⟩ := hrel
      have Vw := Lib.hid VI
      have Vv := Lib.hid VJ
      have HX := Lib.hid hbx
      clear VI VJ hbx Vx Vu HW
      by_cases hlt : t < 64
      · have hlen : (Sha.ext (Sha.jr xs 16) (t - 16)).length = t := by rw [Sha.gS, Sha.fS]; omega
        have hltA := Sha.tO (Sha.jr xs 16) (Sha.sJ xs 16) (t - 16)
        obtain ⟨q1, Vy⟩ : ∃ q, Hid (q = (Sha.ext (Sha.jr xs 16) (t - 16)).getD (t - 15) 0) := ⟨_, rfl⟩
        obtain ⟨q2, Vz⟩ : ∃ q, Hid (q = (Sha.ext (Sha.jr xs 16) (t - 16)).getD (t - 2) 0) := ⟨_, rfl⟩
        obtain ⟨q3, VK⟩ : ∃ q, Hid (q = (Sha.ext (Sha.jr xs 16) (t - 16)).getD (t - 7) 0) := ⟨_, rfl⟩
        obtain ⟨q4, VL⟩ : ∃ q, Hid (q = (Sha.ext (Sha.jr xs 16) (t - 16)).getD (t - 16) 0) := ⟨_, rfl⟩
        have l1 : q1 < 4294967296 := by rw [Vy.out]; exact Sha.gV hltA _
        have l2 : q2 < 4294967296 := by rw [Vz.out]; exact Sha.gV hltA _
        have c1 : wr.cell? ⟨w.heap.size + 1, t - 15, none⟩ = some (.int .u32 q1) := by rw [Vv.out.cell, Vy.out]; exact od _ _ _ _ Om
        have c2 : wr.cell? ⟨w.heap.size + 1, t - 2, none⟩ = some (.int .u32 q2) := by rw [Vv.out.cell, Vz.out]; exact od _ _ _ _ Om
        have HL := Lib.hid hlen
        clear hlen hltA
        have VM : IntKind.i64.wrap ((t : Int) - 15) = (t : Int) - 15 := bj Om Om; have VN : (15 : Int) ≤ (t : Int) := Om; have VO : (t : Int) - 15 < 64 := Om; have VP : ((t : Int) - 15).toNat = t - 15 := Om
        have VQ : IntKind.i64.wrap ((t : Int) - 2) = (t : Int) - 2 := bj Om Om; have VR : (2 : Int) ≤ (t : Int) := Om; have VS : (t : Int) - 2 < 64 := Om; have VT : ((t : Int) - 2).toNat = t - 2 := Om
        have VU : IntKind.i64.wrap ((t : Int) - 7) = (t : Int) - 7 := bj Om Om; have VV : (7 : Int) ≤ (t : Int) := Om; have VW : (t : Int) - 7 < 64 := Om; have VX : ((t : Int) - 7).toNat = t - 7 := Om
        have Wg : IntKind.i64.wrap ((t : Int) - 16) = (t : Int) - 16 := bj Om Om; have Wh : (16 : Int) ≤ (t : Int) := Om; have VY : (t : Int) - 16 < 64 := Om; have Wi : ((t : Int) - 16).toNat = t - 16 := Om
        have Wj : (t : Int) < 64 := by omega
        go_wp2_with fail
        go_quiet (fail)
        clear c1 c2
        have VA : Hid (ao (wr.drewN nq) w.heap.size 305 (aM .u32 (lC 64))) := Vw.out
        have Vq : Hid (ao (wr.drewN nq) (w.heap.size + 1) 305 (aM .u32 (Sha.ext (Sha.jr xs 16) (t - 16) ++ lC (64 - t)))) := Vv.out
        have VZ : Hid (Below w.heap.size w (wr.drewN nq)) := mq HX.out nq
        generalize wr.drewN nq = wy at *
        clear Vw Vv HX
        have c3 : wy.cell? ⟨w.heap.size + 1, t - 7, none⟩ = some (.int .u32 q3) := by rw [Vq.out.cell, VK.out]; exact od _ _ _ _ (by rw [HL.out]; omega)
        have c4 : wy.cell? ⟨w.heap.size + 1, t - 16, none⟩ = some (.int .u32 q4) := by rw [Vq.out.cell, VL.out]; exact od _ _ _ _ (by rw [HL.out]; omega)
        have c5 : wy.cell? ⟨w.heap.size + 1, t, none⟩ = some (.int .u32 0) := by rw [Vq.out.cell]; exact vf _ _ _ _ HL.out.symm Om
        have c6 := Vq.out.frozen t
        go_wp2_with (go_at_call 266; refine (jV _ _ _ (by assumption) Om).mono ?_; rintro e w' ⟨rfl, rfl⟩)
        have e1 : bits .xor .u32 (bits .xor .u32 ((Sha.cQ q1 7 : Nat) : Int) ((Sha.cQ q1 18 : Nat) : Int)) ((q1 : Int) / 8) = ((Sha.s0 q1 : Nat) : Int) := Lu _ _ (q1 / 8) (Sha.br l1 Om) (Sha.br l1 Om) Om
        have e2 : bits .xor .u32 (bits .xor .u32 ((Sha.cQ q2 17 : Nat) : Int) ((Sha.cQ q2 19 : Nat) : Int)) ((q2 : Int) / 1024) = ((Sha.s1 q2 : Nat) : Int) := Lu _ _ (q2 / 1024) (Sha.br l2 Om) (Sha.br l2 Om) Om
        simp only [e1, e2]
        clear e1 e2
        go_still_tail 15, Kr
        change wpList _ _ _ _ _ wy.drew
        go_wp2
        go_roundw
        case rel =>
          refine ⟨t + 1, by omega, by omega, by go_num, (VZ.out.drew).setCell (by simp) _, VA.out.De (by simp) _, ?_⟩
          rw [show t + 1 - 16 = t - 16 + 1 from by omega]
          refine ao.fill (w := wy.drew) Vq.out HL.out.symm Om (wW ?_)
          have e : Sha.jg (Sha.ext (Sha.jr xs 16) (t - 16)) (t - 16) = (Sha.s1 q2 + q3 + Sha.s0 q1 + q4) % 4294967296 := by unfold Sha.jg;rw [Vy.out, Vz.out, VK.out, VL.out, show t - 16 + 14 = t - 2 from by omega, show t - 16 + 9 = t - 7 from by omega, show t - 16 + 1 = t - 15 from by omega]
          omega
        case measure => simp [intOf]; omega
      have VB : ao wr (w.heap.size + 1) 305 (aM .u32 (Sha.words xs)) := by have h := Vv.out;rw [show t = 64 from by omega] at h;rw [show Sha.ext (Sha.jr xs 16) (64 - 16) ++ lC (64 - 64) = Sha.words xs from List.append_nil _] at h;exact h
      go_wp2_with (first | refine oS rfl _ _ rfl (w.heap.size + 1) rfl _ _ _ VB underlying305 rfl 64 PH (by rw [bu, Sha.cM]) ?_ | refine fv rfl _ _ _ rfl w.heap.size (aM .u32 (Sha.words xs)) rfl rfl _ _ Vw.out 64 PH (by rw [bu, Sha.cM]) rfl (dc _ _) ?_)
      exact rM rfl w.heap.size _ _ _ rfl (Vw.out.row _) underlying305 rfl 64 PH (by rw [bu, Sha.cM]) rfl ⟨rfl, gW HX.out (Nat.le_refl _) _⟩
theorem Sd : (Tryz.prog.info? 227).map (·.size) = some 1 := by kernel_rfl
theorem N6 (e f g : Nat) (he : e < 4294967296) (hf : f < 4294967296) (hg : g < 4294967296) :
  bits .xor .u32 (bits .and .u32 (e : Int) (f : Int)) (bits .and .u32 (bits .xor .u32 IntKind.u32.max (e : Int)) (g : Int)) = ((Sha.ch e f g : Nat) : Int) := by
 have h1 : bits .xor .u32 IntKind.u32.max (e : Int) = ((4294967295 - e : Nat) : Int) := by
  show bits .xor .u32 ((4294967295 : Nat) : Int) (e : Int) = _;rw [u32_xor_nat _ _ Om he];congr 1;apply Nat.eq_of_testBit_eq;intro i;have h1 := Nat.testBit_two_pow_sub_succ (n := 32) he i;have h2 := Nat.testBit_two_pow_sub_one 32 i;rw [show (2 : Nat) ^ 32 - (e + 1) = 4294967295 - e from by omega] at h1;rw [show (2 : Nat) ^ 32 - 1 = 4294967295 from rfl] at h2;rw [Nat.testBit_xor, h1, h2];by_cases hi : i < 32
  ·simp [hi]
  have : e.testBit i = false := Nat.testBit_lt_two_pow (Nat.lt_of_lt_of_le he (Nat.pow_le_pow_right (n := 2) Om (by omega : 32 ≤ i)));simp [hi, this]
 rw [h1, u32_and_nat _ _ he hf, u32_and_nat _ _ Om hg, u32_xor_nat _ _ (Sha.fE he) (Sha.fE Om)];rfl
theorem It (a b c : Nat) (ha : a < 4294967296) (hb : b < 4294967296) (hc : c < 4294967296) :
  bits .xor .u32 (bits .xor .u32 (bits .and .u32 (a : Int) (b : Int)) (bits .and .u32 (a : Int) (c : Int))) (bits .and .u32 (b : Int) (c : Int)) = ((Sha.Gi a b c : Nat) : Int) := by
 rw [u32_and_nat _ _ ha hb, u32_and_nat _ _ ha hc, u32_and_nat _ _ hb hc, Lu _ _ _ (Sha.fE ha) (Sha.fE ha) (Sha.fE hb)];rfl
theorem MG {e f h kt wt : Nat} {x y : Int} (hb : ao w g' t (aM .u32 [a, a, b, c, d, e, f, g])) (hx : x = (((d + Sha.T1 ⟨a, b, c, d, e, f, g, h⟩ kt wt) % 4294967296 : Nat) : Int))
  (hy : y = (((Sha.T1 ⟨a, b, c, d, e, f, g, h⟩ kt wt + Sha.T2 ⟨a, b, c, d, e, f, g, h⟩) % 4294967296 : Nat) : Int)) :
  ao ((w.setCell ⟨g', 4, none⟩ (.int .u32 x)).setCell ⟨g', 0, none⟩ (.int .u32 y)) g' t (aM .u32 (Sha.As ⟨a, b, c, d, e, f, g, h⟩ kt wt).list) := by
 subst hx; subst hy;exact (hb.set 4 _).set 0 _
theorem Ia {s : Sha.S8} (h : s.ok) (i : Nat) : s.list.getD i 0 < 4294967296 := by obtain ⟨h1, h2, h3, h4, h5, h6, h7, h8⟩ := h;refine Sha.gV ?_ i;simp only [Sha.S8.list, List.mem_cons, List.not_mem_nil, or_false];omega
theorem yn (w : World) (o : Obj) (t : TypeId) (cs : Array Value) : ao ((w.alloc o).alloc (.cells cs t)) (w.heap.size + 1) t cs := by have := ao.new (w.alloc o) t cs; simp_all
theorem xT (w : World) (t : TypeId) (cs : Array Value) (h : w.heap.size = n) : ao (w.alloc (.cells cs t)) n t cs := by subst h; exact ao.new w t cs
set_option maxRecDepth 100000 in
theorem Kx (A : Oa) (c : Nat) (xs : Lb) (g : Nat) (s : Sha.S8) (w : World) (ha : Bs w A 64 xs) (hs : s.ok)
   (hg : ao w g 284 (aM .u32 s.list)) :
   Calls Tryz.prog 248 #[.pointer (some ⟨g, 0, none⟩), .slice A 64 c] w fun e w' => e = .returned (.tuple #[]) ∧ ao w' g 284 (aM .u32 (Sha.step s xs).list) ∧ w.grownBy w' (some g) := by
  go_enter func248, ntmps248;go_wp2_with fail;refine (EZ _ _ _ _ ha).mono ?_;rintro e _ ⟨rfl, Vt⟩;go_wp2_with fail;refine (EP _).mono ?_;rintro e w2 ⟨rfl, Vv⟩;have hbb : Below w.heap.size w w2 := Vt.trans (Vv.mono Vt.size);have VB : ao w2 g 284 (aM .u32 s.list) := hg.kept hbb;have hgl := VB.lt;have HG := Lib.hid VB;have HB := Lib.hid hbb;clear Vt Vv VB hbb
  go_wp2_with (first
    | refine et rfl _ rfl _ SJ w2.heap.size rfl ?_
    | refine et rfl _ rfl _ SJ (w2.heap.size + 1) (by simp) ?_
    | refine fv rfl _ (.tmp 4) (.tmp 14) rfl w2.heap.size (aM .u32 (Sha.words xs)) rfl rfl _ _ ((ao.new w2 _ _).alloc _) 64 PH (by rw [bu, Sha.cM]) rfl (dc _ _) ?_
    | (refine fv rfl _ (.tmp 5) (.tmp 15) rfl (w2.heap.size + 1) (aM .u32 Sha.K) rfl rfl _ _ ((yn w2 _ _ _).jG Om _) 64 PH rfl rfl (dc _ _) ?_
       obtain ⟨w3, Vu⟩ : ∃ w3, w3 = (((w2.alloc (.cells (aM .u32 (lC 64)) 305)).alloc (.cells (aM .u32 (lC 64)) 305)).setRow w2.heap.size (aM .u32 (Sha.words xs))).setRow (w2.heap.size + 1) (aM .u32 Sha.K) := ⟨_, rfl⟩
       have q4 : ao w3 w2.heap.size 305 (aM .u32 (Sha.words xs)) := by rw [Vu]; exact ((((ao.new w2 _ _).alloc _).row _).jG Om _)
       have q5 : ao w3 (w2.heap.size + 1) 305 (aM .u32 Sha.K) := by rw [Vu]; exact (((yn w2 _ _ _).jG Om _).row _)
       have qg : ao w3 g 284 (aM .u32 s.list) := by rw [Vu]; exact ((((HG.out.alloc _).alloc _).jG Om _).jG Om _)
       have qb : Below w2.heap.size w2 w3 := by rw [Vu]; exact gW (gW (((Below.refl _ _).alloc (Nat.le_refl _) _).alloc (by simp) _) (Nat.le_refl _) _) Om _
       have qs : w3.heap.size = w2.heap.size + 2 := by simp_all
       rw [← Vu]
       have Q4 := Lib.hid q4; have Q5 := Lib.hid q5; have QG := Lib.hid qg; have QB := Lib.hid qb; have QS := Lib.hid qs
       clear q4 q5 qg qb qs Vu)
    | refine oS rfl _ (.tmp 17) rfl g rfl _ _ _ QG.out underlying284 rfl 8 s8 rfl ?_
    | refine et rfl _ rfl _ z8 (w2.heap.size + 2) QS.out ?_
    | refine fv rfl _ (.tmp 6) (.tmp 18) rfl (w2.heap.size + 2) (aM .u32 s.list) rfl rfl _ _ (xT _ _ _ QS.out) 8 s8 rfl rfl (dc _ _) ?_)
  go_loopw [7, 8, 9, 10, 11, 19] (fun _ _ _ _ _ i wr => ∃ t : Nat, t ≤ 64 ∧ i = .int .i64 t ∧ Below w2.heap.size w2 wr ∧ w2.heap.size + 3 ≤ wr.heap.size ∧ ao wr w2.heap.size 305 (aM .u32 (Sha.words xs)) ∧ ao wr (w2.heap.size + 1) 305 (aM .u32 Sha.K)
      ∧ ao wr (w2.heap.size + 2) 284 (aM .u32 (Sha.rounds (Sha.words xs) s t).list)) (fun _ _ _ _ _ i _ => 64 - (intOf i).toNat)
  case atStart => exact ⟨0, by omega, rfl, gW (QB.out.alloc (by rw [QS.out]; omega) _) Om _, by simp [World.setRow, QS.out], (Q4.out.alloc _).jG Om _, (Q5.out.alloc _).jG Om _, (xT _ _ _ QS.out).row _⟩
  case round =>
    obtain ⟨t, ht, rfl, hbx, hsx, VC, VD, VE⟩ := hrel
    have Vw := Lib.hid VC; have Vx := Lib.hid VD; have Vy := Lib.hid VE; have HX := Lib.hid hbx
    clear VC VD VE hbx Q4 Q5 QB QS
    by_cases hlt : t < 64
    · obtain ⟨R, hR⟩ : ∃ R, Hid (R = Sha.rounds (Sha.words xs) s t) := ⟨_, rfl⟩
      have hok : R.ok := by rw [hR.out]; exact Sha.iH _ hs _
      obtain ⟨a, b, c', d, e, f, g', hh⟩ := R
      obtain ⟨la, lb, lc, ld, le, lf, lg, lh⟩ := hok
      obtain ⟨kt, hkt⟩ : ∃ q, Hid (q = Sha.K.getD t 0) := ⟨_, rfl⟩
      obtain ⟨wt, hwt⟩ : ∃ q, Hid (q = (Sha.words xs).getD t 0) := ⟨_, rfl⟩
      have Vr : ao wr (w2.heap.size + 2) 284 (aM .u32 [a, b, c', d, e, f, g', hh]) := by have := Vy.out; rw [← hR.out] at this; exact this
      have Vq := Lib.hid Vr
      clear Vr Vy
      have x0 : wr.cell? ⟨w2.heap.size + 2, 0, none⟩ = some (.int .u32 a) := by rw [Vq.out.cell]; rfl
      have x1 : wr.cell? ⟨w2.heap.size + 2, 1, none⟩ = some (.int .u32 b) := by rw [Vq.out.cell]; rfl
      have x2 : wr.cell? ⟨w2.heap.size + 2, 2, none⟩ = some (.int .u32 c') := by rw [Vq.out.cell]; rfl
      have x4 : wr.cell? ⟨w2.heap.size + 2, 4, none⟩ = some (.int .u32 e) := by rw [Vq.out.cell]; rfl
      have x5 : wr.cell? ⟨w2.heap.size + 2, 5, none⟩ = some (.int .u32 f) := by rw [Vq.out.cell]; rfl
      have x6 : wr.cell? ⟨w2.heap.size + 2, 6, none⟩ = some (.int .u32 g') := by rw [Vq.out.cell]; rfl
      have x7 : wr.cell? ⟨w2.heap.size + 2, 7, none⟩ = some (.int .u32 hh) := by rw [Vq.out.cell]; rfl
      have y1 : wr.cell? ⟨w2.heap.size, t, none⟩ = some (.int .u32 wt) := by rw [Vw.out.cell, hwt.out]; exact dL _ _ _ (by rw [Sha.cM]; omega)
      have y2 : wr.cell? ⟨w2.heap.size + 1, t, none⟩ = some (.int .u32 kt) := by rw [Vx.out.cell, hkt.out]; exact dL _ _ _ (by show t < 64; omega)
      have VL : (t : Int) < 64 := by omega
      go_wp2_with fail
      go_quiet (fail)
      obtain ⟨n1, rfl⟩ : ∃ n : Nat, n = nq := ⟨_, rfl⟩
      go_wp2_with fail
      go_quiet ((go_at_call 266; first | exact OJ (jV _ _ _ (by assumption) Om) | exact vr (jV _ _ _ (by assumption) Om)))
      obtain ⟨n2, rfl⟩ : ∃ n : Nat, n = nq := ⟨_, rfl⟩
      go_wp2_with fail
      go_quiet ((go_at_call 266; first | exact OJ (jV _ _ _ (by assumption) Om) | exact vr (jV _ _ _ (by assumption) Om)))
      obtain ⟨n3, rfl⟩ : ∃ n : Nat, n = nq := ⟨_, rfl⟩
      have z1 : Hid (ao ((wr.drewN (n1 + n2)).drewN n3) w2.heap.size 305 (aM .u32 (Sha.words xs))) := Vw.out
      have z2 : Hid (ao ((wr.drewN (n1 + n2)).drewN n3) (w2.heap.size + 1) 305 (aM .u32 Sha.K)) := Vx.out
      have z3 : Hid (ao ((wr.drewN (n1 + n2)).drewN n3) (w2.heap.size + 2) 284 (aM .u32 [a, b, c', d, e, f, g', hh])) := Vq.out
      have z4 : Hid (Below w2.heap.size w2 ((wr.drewN (n1 + n2)).drewN n3)) := mq (mq HX.out _) _
      have z5 : w2.heap.size + 3 ≤ ((wr.drewN (n1 + n2)).drewN n3).heap.size := hsx
      go_wp2_with fail
      generalize (wr.drewN (n1 + n2)).drewN n3 = wy at *
      clear Vw Vx Vq HX hsx x0 x1 x2 x4 x5 x6 x7 y1 y2
      go_still_tail 2, Kr
      change wpList _ _ _ _ _ wy.drew
      refine IL rfl _ _ _ _ _ rfl (w2.heap.size + 2) 1 7 7 (some ⟨w2.heap.size + 2, 0, none⟩) 7 8 _ _ ([a, b, c', d, e, f, g'].map (iv .u32)) rfl rfl underlying309 Sd z3.out (z3.out.at 0 _ (yZ .u32 [a, b, c', d, e, f, g'] [hh])) rfl (Nat.le_refl 8) nB ?_
      have v3 : Hid (ao (wy.drew.setRow (w2.heap.size + 2) (aM .u32 [a, a, b, c', d, e, f, g'])) (w2.heap.size + 2) 284 (aM .u32 [a, a, b, c', d, e, f, g'])) := z3.out.row (w := wy.drew) _
      have v1 : Hid (ao (wy.drew.setRow (w2.heap.size + 2) (aM .u32 [a, a, b, c', d, e, f, g'])) w2.heap.size 305 (aM .u32 (Sha.words xs))) := z1.out.jG (w := wy.drew) Om _
      have v2 : Hid (ao (wy.drew.setRow (w2.heap.size + 2) (aM .u32 [a, a, b, c', d, e, f, g'])) (w2.heap.size + 1) 305 (aM .u32 Sha.K)) := z2.out.jG (w := wy.drew) Om _
      have v4 : Hid (Below w2.heap.size w2 (wy.drew.setRow (w2.heap.size + 2) (aM .u32 [a, a, b, c', d, e, f, g']))) := gW z4.out.drew Om _
      have v5 : w2.heap.size + 3 ≤ (wy.drew.setRow (w2.heap.size + 2) (aM .u32 [a, a, b, c', d, e, f, g'])).heap.size := by rw [size_setRow]; exact z5
      change wpList _ _ _ _ _ (wy.drew.setRow (w2.heap.size + 2) (aM .u32 [a, a, b, c', d, e, f, g']))
      generalize wy.drew.setRow (w2.heap.size + 2) (aM .u32 [a, a, b, c', d, e, f, g']) = wz at *
      clear z1 z2 z3 z4 z5
      have x4 : wz.cell? ⟨w2.heap.size + 2, 4, none⟩ = some (.int .u32 d) := by rw [v3.out.cell]; rfl
      have x0 : wz.cell? ⟨w2.heap.size + 2, 0, none⟩ = some (.int .u32 a) := by rw [v3.out.cell]; rfl
      have f4 := v3.out.frozen 4
      have f0 := v3.out.frozen 0
      go_wp2
      go_roundw
      case rel =>
        rw [Lu _ _ _ (Sha.br le Om) (Sha.br le Om) (Sha.br le Om), Lu _ _ _ (Sha.br la Om) (Sha.br la Om) (Sha.br la Om), N6 e f g' le lf lg, It a b c' la lb lc]
        refine ⟨t + 1, by omega, by go_num, (v4.out.setCell (by show _ ≤ w2.heap.size + 2; omega) _).setCell (by show _ ≤ w2.heap.size + 2; omega) _, by rw [size_setCell, size_setCell]; exact v5, (v1.out.De (by show _ ≠ w2.heap.size + 2; omega) _).De (by show _ ≠ w2.heap.size + 2; omega) _, (v2.out.De (by show _ ≠ w2.heap.size + 2; omega) _).De (by show _ ≠ w2.heap.size + 2; omega) _, ?_⟩
        have e1 : Sha.rounds (Sha.words xs) s (t + 1) = Sha.As ⟨a, b, c', d, e, f, g', hh⟩ kt wt := by rw [hR.out, hkt.out, hwt.out]; rfl
        rw [e1]
        exact MG v3.out (by simp only [Sha.T1, Sha.S1]; omega) (by simp only [Sha.T1, Sha.T2, Sha.S1, Sha.S0]; omega)
      case measure => simp [intOf]; omega
    have Vr : ao wr (w2.heap.size + 2) 284 (aM .u32 (Sha.rounds (Sha.words xs) s 64).list) := by have h := Vy.out;rw [show t = 64 from by omega] at h;exact h
    have hgr : w.grownBy wr (some g) := BK (qD HB.out (Nat.le_refl _) _) HX.out
    have hgg : ao wr g 284 (aM .u32 s.list) := HG.out.kept HX.out
    have Vq := Lib.hid Vr; have HGR := Lib.hid hgr; have HGG := Lib.hid hgg
    clear Vr Vy hgr hgg Vw Vx HX QG
    go_wp2
    obtain ⟨wo, rfl⟩ : ∃ wo : World, wo = wr := ⟨_, rfl⟩
    obtain ⟨m, hm⟩ : ∃ m, Hid (m = (Sha.rounds (Sha.words xs) s 64).list) := ⟨_, rfl⟩
    obtain ⟨l, hl⟩ : ∃ l, Hid (l = s.list) := ⟨_, rfl⟩
    have VF : m.length = 8 := by rw [hm.out]; rfl
    have VG : l.length = 8 := by rw [hl.out]; rfl
    have okl : ∀ i, l.getD i 0 < 4294967296 := by rw [hl.out]; exact Ia hs
    have Au : ∀ i, m.getD i 0 < 4294967296 := by rw [hm.out]; exact Ia (Sha.iH _ hs _)
    have Vz := Lib.hid VF; have Vs := Lib.hid VG
    clear VF VG okl Au
    go_loopw [12, 93] (fun _ i wx => ∃ k : Nat, k ≤ 8 ∧ i = .int .i64 k ∧ w.grownBy wx (some g) ∧ w2.heap.size + 3 ≤ wx.heap.size ∧ ao wx g 284 (aM .u32 (Sha.fV l m k)) ∧ ao wx (w2.heap.size + 2) 284 (aM .u32 m)) (fun _ i _ => 8 - (intOf i).toNat)
    case atStart => exact ⟨0, by omega, rfl, HGR.out, hsx, by rw [Sha.mE, hl.out]; exact HGG.out, by rw [hm.out]; exact Vq.out⟩
    case round =>
      obtain ⟨k, hk, rfl, VH, VK, Vt, Vv⟩ := hrel
      have VA := Lib.hid Vt; have VI := Lib.hid Vv; have VJ := Lib.hid VH
      clear Vt Vv VH HGR HGG Vq
      by_cases hlt : k < 8
      · obtain ⟨p, hp⟩ : ∃ p, Hid (p = l.getD k 0) := ⟨_, rfl⟩
        obtain ⟨q, hq⟩ : ∃ q, Hid (q = m.getD k 0) := ⟨_, rfl⟩
        have x1 : wr.cell? ⟨g, k, none⟩ = some (.int .u32 p) := by rw [VA.out.cell, dL _ _ _ (by rw [Sha.l9 (Vs.out.trans Vz.out.symm) (by rw [Vs.out]; omega), Vs.out]; omega), Sha.oe (Vs.out.trans Vz.out.symm) (by rw [Vs.out]; omega), hp.out]
        have x2 : wr.cell? ⟨w2.heap.size + 2, k, none⟩ = some (.int .u32 q) := by rw [VI.out.cell, hq.out]; exact dL _ _ _ (by rw [Vz.out]; omega)
        have f1 := VA.out.frozen k
        have VM : (k : Int) < 8 := by omega
        go_wp2_with fail
        go_still_tail 11, Kr
        change wpList _ _ _ _ _ wr.drew
        go_wp2
        go_roundw
        case rel =>
          refine ⟨k + 1, by omega, by go_num, uH (Bw VJ.out) (.inl rfl) _, by show _ ≤ (World.setCell wr _ _).heap.size; rw [size_setCell]; exact VK, ?_, VI.out.De (w := wr.drew) (by show _ ≠ g; omega) _⟩
          have h := VA.out.set (w := wr.drew) k (.int .u32 (((p + q) % 4294967296 : Nat) : Int))
          rw [gD, hp.out, hq.out, Sha.ox (Vs.out.trans Vz.out.symm) (by rw [Vs.out]; omega)] at h
          rw [hp.out, hq.out]
          exact h
        case measure => simp [intOf]; omega
      go_wp2
      go_end0
      have h := VA.out
      rw [show k = 8 from by omega, hl.out, hm.out] at h
      exact ⟨rfl, h, VJ.out⟩
theorem ta (k : Nat) : (128 : UInt8) :: List.replicate k 0 ++ [0] = 128 :: List.replicate (k + 1) 0 := by rw [List.cons_append, ← List.replicate_succ']
theorem IZ (n : Nat) (w : World) (hn : n ≤ 70368744177664) :
  Calls Tryz.prog 247 #[.int .i64 n] w fun e w' => ∃ A c, e = .returned (.slice A (9 + Sha.cA n) c) ∧ Own w' w.heap.size A (9 + Sha.cA n) c (Sha.pad n) ∧ Below w.heap.size w w' := by
 have hz : Sha.cA n < 64 := Nat.mod_lt _ Om;go_enter func247, ntmps247;go_wp2;go_loopw [3] (fun v wr => ∃ (k : Nat) (A : Oa) (c : Nat), v = .slice A (1 + k) c ∧ k ≤ Sha.cA n ∧ Below w.heap.size w wr ∧ Own wr w.heap.size A (1 + k) c (128 :: List.replicate k 0)) (fun v _ => 64 - (lenOf v));case atStart => exact ⟨0, _, _, rfl, by omega, (Below.refl _ _).alloc (Nat.le_refl _) _, Own.lit w (Nat.le_refl _) 128⟩
 case round =>
  obtain ⟨k, A, c, rfl, hk, hbw, hown⟩ := hrel
  by_cases hlt : k < Sha.cA n
  ·have ht : (((n : Int) + (1 + (k : Int))) % 64 != 56) = true := by rw [bne_iff_ne]; unfold Sha.cA at hlt; omega
   go_wp2_with (at_builtin; refine fL (w0 := w) rfl _ _ _ rfl _ _ bT _ _ _ _ rfl (hown.alloc _) _ _ _ ([0].map bv) rfl rfl (Bs.one wr _ 0).2 aJ ?_ ?_ (hbw.alloc hbw.size _) ?_ ?_; rotate_right; intro A2 c2 w2 Vq Vr Vs Vt)
   ·go_roundw
    case rel => exact ⟨k + 1, A2, c2, rfl, by omega, Vr, (Own.app (ys := [0]) Vq).congr rfl (ta k)⟩
    case measure => simp [lenOf]; omega
   ·omega
   ·omega
   have := hbw.size; simp; omega
  have ht : (((n : Int) + (1 + (k : Int))) % 64 != 56) = false := by rw [bne_eq_false_iff_eq]; unfold Sha.cA at hlt hk; omega
  go_wp2
  have Vv : k = Sha.cA n := by omega
  have HK := Lib.hid Vv
  have Vu : Own wr w.heap.size A (1 + k + 0) c (128 :: List.replicate k 0 ++ (Sha.kT (n * 8)).take 0) := hown.congr rfl (by simp)
  have HO := Lib.hid Vu; have HW := Lib.hid hbw
  clear Vv Vu hown hbw
  obtain ⟨wo, rfl⟩ : ∃ wo : World, wo = wr := ⟨_, rfl⟩
  go_loopw [3, 4] (fun v i wx => ∃ (j : Nat) (A : Oa) (c : Nat), v = .slice A (1 + k + j) c ∧ j ≤ 8 ∧ i = .int .i64 (7 - (j : Int)) ∧ Below w.heap.size w wx ∧ Own wx w.heap.size A (1 + k + j) c (128 :: List.replicate k 0 ++ (Sha.kT (n * 8)).take j)) (fun v _ _ => 80 + k - (lenOf v))
  case atStart => exact ⟨0, A, c, rfl, by omega, rfl, HW.out, HO.out⟩
  case round =>
   obtain ⟨j, A1, c1, rfl, hj, rfl, hbx, hox⟩ := hrel
   by_cases Vw : j < 8
   ·obtain rfl | rfl | rfl | rfl | rfl | rfl | rfl | rfl : j = 0 ∨ j = 1 ∨ j = 2 ∨ j = 3 ∨ j = 4 ∨ j = 5 ∨ j = 6 ∨ j = 7 := by omega
    ·go_wp2_with (at_builtin; refine fL (w0 := w) rfl _ _ _ rfl _ _ bT _ _ _ _ rfl (hox.alloc _) _ _ _ ([UInt8.ofNat (n * 8 / 72057594037927936)].map bv) rfl rfl (Bs.y7 wr _ ?_).2 aJ ?_ ?_ (hbx.alloc hbx.size _) ?_ ?_; rotate_right; intro A2 c2 w2 Vq Vr Vs Vt)
     ·go_roundw
      case rel => exact ⟨1, A2, c2, rfl, by omega, rfl, Vr, (Own.app (ys := [UInt8.ofNat (n * 8 / 72057594037927936)]) Vq).congr rfl (by rw [List.append_assoc]; rfl)⟩
      case measure => simp [lenOf]; omega
     ·exact gA Om Om Om
     ·omega
     ·omega
     have := hbx.size; simp; omega
    ·go_wp2_with (at_builtin; refine fL (w0 := w) rfl _ _ _ rfl _ _ bT _ _ _ _ rfl (hox.alloc _) _ _ _ ([UInt8.ofNat (n * 8 / 281474976710656)].map bv) rfl rfl (Bs.y7 wr _ ?_).2 aJ ?_ ?_ (hbx.alloc hbx.size _) ?_ ?_; rotate_right; intro A2 c2 w2 Vq Vr Vs Vt)
     ·go_roundw
      case rel => exact ⟨2, A2, c2, rfl, by omega, rfl, Vr, (Own.app (ys := [UInt8.ofNat (n * 8 / 281474976710656)]) Vq).congr rfl (by rw [List.append_assoc]; rfl)⟩
      case measure => simp [lenOf]; omega
     ·exact gA Om Om Om
     ·omega
     ·omega
     have := hbx.size; simp; omega
    ·go_wp2_with (at_builtin; refine fL (w0 := w) rfl _ _ _ rfl _ _ bT _ _ _ _ rfl (hox.alloc _) _ _ _ ([UInt8.ofNat (n * 8 / 1099511627776)].map bv) rfl rfl (Bs.y7 wr _ ?_).2 aJ ?_ ?_ (hbx.alloc hbx.size _) ?_ ?_; rotate_right; intro A2 c2 w2 Vq Vr Vs Vt)
     ·go_roundw
      case rel => exact ⟨3, A2, c2, rfl, by omega, rfl, Vr, (Own.app (ys := [UInt8.ofNat (n * 8 / 1099511627776)]) Vq).congr rfl (by rw [List.append_assoc]; rfl)⟩
      case measure => simp [lenOf]; omega
     ·simp_all
     ·omega
     ·omega
     have := hbx.size; simp; omega
    ·go_wp2_with (at_builtin; refine fL (w0 := w) rfl _ _ _ rfl _ _ bT _ _ _ _ rfl (hox.alloc _) _ _ _ ([UInt8.ofNat (n * 8 / 4294967296)].map bv) rfl rfl (Bs.y7 wr _ ?_).2 aJ ?_ ?_ (hbx.alloc hbx.size _) ?_ ?_; rotate_right; intro A2 c2 w2 Vq Vr Vs Vt)
     ·go_roundw
      case rel => exact ⟨4, A2, c2, rfl, by omega, rfl, Vr, (Own.app (ys := [UInt8.ofNat (n * 8 / 4294967296)]) Vq).congr rfl (by rw [List.append_assoc]; rfl)⟩
      case measure => simp [lenOf]; omega
     ·simp_all
     ·omega
     ·omega
     have := hbx.size; simp; omega
    ·go_wp2_with (at_builtin; refine fL (w0 := w) rfl _ _ _ rfl _ _ bT _ _ _ _ rfl (hox.alloc _) _ _ _ ([UInt8.ofNat (n * 8 / 16777216)].map bv) rfl rfl (Bs.y7 wr _ ?_).2 aJ ?_ ?_ (hbx.alloc hbx.size _) ?_ ?_; rotate_right; intro A2 c2 w2 Vq Vr Vs Vt)
     ·go_roundw
      case rel => exact ⟨5, A2, c2, rfl, by omega, rfl, Vr, (Own.app (ys := [UInt8.ofNat (n * 8 / 16777216)]) Vq).congr rfl (by rw [List.append_assoc]; rfl)⟩
      case measure => simp [lenOf]; omega
     ·simp_all
     ·omega
     ·omega
     have := hbx.size; simp; omega
    ·go_wp2_with (at_builtin; refine fL (w0 := w) rfl _ _ _ rfl _ _ bT _ _ _ _ rfl (hox.alloc _) _ _ _ ([UInt8.ofNat (n * 8 / 65536)].map bv) rfl rfl (Bs.y7 wr _ ?_).2 aJ ?_ ?_ (hbx.alloc hbx.size _) ?_ ?_; rotate_right; intro A2 c2 w2 Vq Vr Vs Vt)
     ·go_roundw
      case rel => exact ⟨6, A2, c2, rfl, by omega, rfl, Vr, (Own.app (ys := [UInt8.ofNat (n * 8 / 65536)]) Vq).congr rfl (by rw [List.append_assoc]; rfl)⟩
      case measure => simp [lenOf]; omega
     ·simp_all
     ·omega
     ·omega
     have := hbx.size; simp; omega
    ·go_wp2_with (at_builtin; refine fL (w0 := w) rfl _ _ _ rfl _ _ bT _ _ _ _ rfl (hox.alloc _) _ _ _ ([UInt8.ofNat (n * 8 / 256)].map bv) rfl rfl (Bs.y7 wr _ ?_).2 aJ ?_ ?_ (hbx.alloc hbx.size _) ?_ ?_; rotate_right; intro A2 c2 w2 Vq Vr Vs Vt)
     ·go_roundw
      case rel => exact ⟨7, A2, c2, rfl, by omega, rfl, Vr, (Own.app (ys := [UInt8.ofNat (n * 8 / 256)]) Vq).congr rfl (by rw [List.append_assoc]; rfl)⟩
      case measure => simp [lenOf]; omega
     ·simp_all
     ·omega
     ·omega
     have := hbx.size; simp; omega
    go_wp2_with (at_builtin; refine fL (w0 := w) rfl _ _ _ rfl _ _ bT _ _ _ _ rfl (hox.alloc _) _ _ _ ([UInt8.ofNat (n * 8)].map bv) rfl rfl (Bs.y7 wr _ ?_).2 aJ ?_ ?_ (hbx.alloc hbx.size _) ?_ ?_; rotate_right; intro A2 c2 w2 Vq Vr Vs Vt)
    ·go_roundw
     case rel => exact ⟨8, A2, c2, rfl, by omega, rfl, Vr, (Own.app (ys := [UInt8.ofNat (n * 8)]) Vq).congr rfl (by rw [List.append_assoc]; rfl)⟩
     case measure => simp [lenOf]; omega
    ·simp_all
    ·omega
    ·omega
    have := hbx.size; simp; omega
   obtain rfl : j = 8 := by omega
   go_wp2
   go_ret
   refine ⟨A1, c1, ?_, hox.congr Om (by rw [HK.out]; rfl), hbx⟩
   show Ending.returned (.slice A1 (1 + k + 8) c1) = _
   rw [show 1 + k + 8 = 9 + Sha.cA n from by omega]
theorem QJ : (Tryz.prog.info? 256).map (fun i => i.zero.map (·.cells)) = some (some (dd (iC 32))) := by kernel_rfl
theorem NA : (Tryz.prog.info? 256).map (·.size) = some 32 := by kernel_rfl
theorem Ek (l : List Nat) : (l.flatMap Sha.tZ).length = 4 * l.length := by
 induction l with
 | nil => rfl
 | cons x l ih => rw [List.flatMap_cons, List.length_append, ih, List.length_cons]; show 4 + _ = _; omega
theorem NH {base off : Nat} {A : Oa} (h : Own w base A n c xs) (hA : A = some ⟨b, off, none⟩) : base ≤ b ∧ b < w.heap.size := by subst hA;exact World.ownsRow.lt h b rfl
theorem Ol (A : Oa) (n c : Nat) (xs : Lb) (w : World) (ha : Bs w A n xs) (hn : n ≤ 35184372088832) :
    Calls Tryz.prog 217 #[.slice A n c] w fun e w' => e = .returned (.agg (dd (Sha.sum xs))) ∧ Below w.heap.size w w' := by
  have HA := Lib.hid ha;clear ha;go_enter func217, ntmps217
  go_wp2_with (first
    | (refine et rfl _ rfl _ QJ w.heap.size rfl ?_
       obtain ⟨w0, VB⟩ : ∃ w0, w0 = w.alloc (.cells (dd (iC 32)) 256) := ⟨_, rfl⟩
       rw [← VB]
       have B0 : Hid (Below w.heap.size w w0) := by rw [VB]; exact (Below.refl _ _).alloc (Nat.le_refl _) _
       have K0 : Hid (ao w0 w.heap.size 256 (dd (iC 32))) := by rw [VB]; exact ao.new w _ _
       clear VB)
    | fail)
  refine yK 0 (fun a' w' => ∃ u0 u1 u5 u6 u7 u8 u9 VJ VK VL VM VN VO u16 VP VQ VR VS VT VU VV VW VX VY VZ V0 V4 V5 V6 u32 V9 Wa Wb Wc We Wf Wg Wh Wi Wj Wk Wl Wm Wn Wo Wq Wr Ws Ww Wx Wy Wz WA, ∃ (g1 k m c' : Nat) (A' : Oa),
      a' = { tmps := #[u0, u1, .pointer (some ⟨w.heap.size, 0, none⟩), .pointer (some ⟨g1, 0, none⟩), .slice A' m c', u5, u6, u7, u8, u9, VJ, VK, VL, VM, VN, VO, u16, VP, VQ, VR, VS, VT, VU, VV, VW, VX, VY, VZ, V0, V4, V5, V6, u32, V9, Wa, Wb, Wc, We, Wf, Wg, Wh, Wi, Wj, Wk, Wl, Wm, Wn, Wo, Wq, Wr, Ws, Ww, Wx, Wy, Wz, WA], defers := [] }
      ∧ m ≤ c' ∧ 64 * k + m = (xs ++ Sha.pad xs.length).length ∧ w.heap.size < g1 ∧ (∀ b off, A' = some ⟨b, off, none⟩ → b ≠ g1) ∧ Below w.heap.size w w' ∧ ao w' w.heap.size 256 (dd (iC 32))
      ∧ ao w' g1 284 (aM .u32 (Sha.blocks Sha.IV (xs ++ Sha.pad xs.length) k).list) ∧ Bs w' A' m ((xs ++ Sha.pad xs.length).drop (64 * k))) (fun a' _ => lenOf (a'.tmps.getD 4 undef)) rfl ?_ ?_
  · rintro a' w' ⟨u0, u1, u5, u6, u7, u8, u9, VJ, VK, VL, VM, VN, VO, u16, VP, VQ, VR, VS, VT, VU, VV, VW, VX, VY, VZ, V0, V4, V5, V6, u32, V9, Wa, Wb, Wc, We, Wf, Wg, Wh, Wi, Wj, Wk, Wl, Wm, Wn, Wo, Wq, Wr, Ws, Ww, Wx, Wy, Wz, WA, g1, k, m, c', A', rfl, hmc, hkm, WB, hne, hbw, WD, WE, hbs⟩
    have HB := Lib.hid hbw; have Vx := Lib.hid WD; have VC := Lib.hid WE; have HS := Lib.hid hbs; have HNE := Lib.hid hne; have HKM := Lib.hid hkm;have hpm : (xs ++ Sha.pad xs.length).length % 64 = 0 := by rw [List.length_append]; exact Sha.kF _
    have hmod : m % 64 = 0 := by omega
    clear hbw WD WE hbs hne hkm hpm;by_cases hm : 0 < m
    · have VE : 64 ≤ m := by omega
      have hmi : (64 : Int) ≤ (m : Int) := by omega
      have hci : (64 : Int) ≤ (c' : Int) := by omega
      obtain ⟨b, off, rfl, _⟩ := HS.out.get hm;have hbg : b ≠ g1 := HNE.out b off rfl;go_wp2_with fail;refine (Kx _ c' _ g1 _ _ (HS.out.take VE) (Sha.mC Sha.uz _ _) VC.out).mono ?_;rintro e Vy ⟨rfl, WG, hgr⟩;have WH : Hid (ao Vy g1 284 (aM .u32 (Sha.blocks Sha.IV (xs ++ Sha.pad xs.length) (k + 1)).list)) := WG;have HC := HS.out.grown hgr HNE.out
      have HCA : c' = 64 → Bs Vy (some ⟨b, off, none⟩) (m - 64) ((xs ++ Sha.pad xs.length).drop (64 * (k + 1))) := fun h => by have h := HC.Ri (k := 64) Om (some ⟨b, off, none⟩);rw [List.drop_drop] at h;exact h
      have HCB : Bs Vy (some ⟨b, off + 64, none⟩) (m - 64) ((xs ++ Sha.pad xs.length).drop (64 * (k + 1))) := by have h := HC.wT 64;rw [List.drop_drop] at h;exact h
      have WW := Lib.hid HCA; have WX := Lib.hid HCB;clear HC HCA HCB;have WI : Hid (Below w.heap.size w Vy) := qT HB.out hgr Om HB.out.size;have WO : Hid (ao Vy w.heap.size 256 (dd (iC 32))) := Vx.out.grown hgr (by grind);clear WG hgr HB Vx VC HS HNE;go_wp2
      · go_step3
        refine ⟨rfl, ⟨_, _, _, _, _, _, _, _, _, _, _, _, _, _, _, _, _, _, _, _, _, _, _, _, _, _, _, _, _, _, _, _, _, _, _, _, _, _, _, _, _, _, _, _, _, _, _, _, _, _, _, _, _, g1, k + 1, m - 64, 0, _, rfl, by omega, by have := HKM.out; omega, WB, ?_, WI.out, WO.out, WH.out, WW.out Om⟩, ?_⟩
        · grind
        simp [lenOf]; omega
      go_step3;refine ⟨rfl, ⟨_, _, _, _, _, _, _, _, _, _, _, _, _, _, _, _, _, _, _, _, _, _, _, _, _, _, _, _, _, _, _, _, _, _, _, _, _, _, _, _, _, _, _, _, _, _, _, _, _, _, _, _, _, g1, k + 1, m - 64, c' - 64, _, rfl, by omega, by have := HKM.out; omega, WB, ?_, WI.out, WO.out, WH.out, WX.out⟩, ?_⟩
      · intro b' WY h; injection h with h; injection h with h _ _; omega
      simp [lenOf]; omega
    have hfin : ao w' g1 284 (aM .u32 (Sha.blocks Sha.IV (xs ++ Sha.pad xs.length) ((xs ++ Sha.pad xs.length).length / 64)).list) := by have h := VC.out;rw [show k = (xs ++ Sha.pad xs.length).length / 64 from by have := HKM.out; omega] at h;exact h
    obtain ⟨S, hS⟩ : ∃ S, Hid (S = Sha.blocks Sha.IV (xs ++ Sha.pad xs.length) ((xs ++ Sha.pad xs.length).length / 64)) := ⟨_, rfl⟩
    rw [← hS.out] at hfin;have hok : S.ok := by rw [hS.out]; exact Sha.mC Sha.uz _ _
    have HF := Lib.hid hfin; have HOK := Lib.hid hok;have hsz := HB.out.size;have hszlt := Vx.out.lt;clear hfin hok VC HS HNE;obtain rfl : m = 0 := by omega
    go_wp2_with (first
      | (refine et rfl _ rfl _ QJ w'.heap.size rfl ?_
         obtain ⟨w5, Vu⟩ : ∃ w5, w5 = w'.alloc (.cells (dd (iC 32)) 256) := ⟨_, rfl⟩
         rw [← Vu]
         have WS : Hid (Below w.heap.size w w5) := by rw [Vu]; exact HB.out.alloc hsz _
         have K5 : Hid (ao w5 w'.heap.size 256 (dd (iC 32))) := by rw [Vu]; exact ao.new w' _ _
         have K6 : Hid (ao w5 w.heap.size 256 (dd (iC 32))) := by rw [Vu]; exact Vx.out.alloc _
         have K7 : Hid (ao w5 g1 284 (aM .u32 S.list)) := by rw [Vu]; exact HF.out.alloc _
         clear Vu)
      | refine oS rfl _ (.tmp 3) rfl g1 rfl _ _ _ K7.out underlying284 rfl 8 s8 rfl ?_)
    have WZ : w.heap.size ≤ w'.heap.size := hsz;have VF : S.list.length = 8 := rfl
    obtain ⟨l, hl⟩ : ∃ l, Hid (l = S.list) := ⟨_, rfl⟩
    rw [← hl.out] at K7 VF ⊢;have OKL : Hid (∀ i, l.getD i 0 < 4294967296) := by rw [hl.out]; exact Ia HOK.out
    have Vv := Lib.hid VF;clear VF HF Vx HB B0 K0;go_loopw [6, 7, 24] (fun _ _ i wr => ∃ k : Nat, k ≤ 8 ∧ i = .int .i64 k ∧ Below w.heap.size w wr ∧ ao wr w.heap.size 256 (dd (iC 32)) ∧ ao wr w'.heap.size 256 (dd ((l.take k).flatMap Sha.tZ ++ iC (32 - 4 * k)))) (fun _ _ i _ => 8 - (intOf i).toNat);case atStart => exact ⟨0, by omega, rfl, WS.out, K6.out, K5.out⟩
    case round =>
      obtain ⟨k, hk, rfl, hb, WT, WU⟩ := hrel
      have HX := Lib.hid hb; have VG := Lib.hid WT; have Vq := Lib.hid WU
      clear hb WT WU WS K5 K6
      by_cases hlt : k < 8
      · obtain ⟨q, hq⟩ : ∃ q, Hid (q = l.getD k 0) := ⟨_, rfl⟩
        have hql : q < 4294967296 := by rw [hq.out]; exact OKL.out _
        have hidx := fun (W : World) => ue (P := Tryz.prog) (w := W) (k := .i64) underlying284 underlying227 Sd hlt (by rw [dL .u32 l k (by rw [Vv.out]; exact hlt), ← hq.out] : (aM .u32 l)[k]? = some (.int .u32 (q : Int)))
        have hlen : ((l.take k).flatMap Sha.tZ).length = 4 * k := by rw [Ek, List.length_take, Vv.out]; omega
        have HLN := Lib.hid hlen
        have c0 : wr.cell? ⟨w'.heap.size, 4 * k, none⟩ = some (.int .u8 0) := by rw [Vq.out.cell]; exact pj Om Om
        have c1 : wr.cell? ⟨w'.heap.size, 4 * k + 1, none⟩ = some (.int .u8 0) := by rw [Vq.out.cell]; exact pj Om Om
        have c2 : wr.cell? ⟨w'.heap.size, 4 * k + 2, none⟩ = some (.int .u8 0) := by rw [Vq.out.cell]; exact pj Om Om
        have c3 : wr.cell? ⟨w'.heap.size, 4 * k + 3, none⟩ = some (.int .u8 0) := by rw [Vq.out.cell]; exact pj Om Om
        have f0 := Vq.out.frozen (4 * k); have f1 := Vq.out.frozen (4 * k + 1); have f2 := Vq.out.frozen (4 * k + 2); have f3 := Vq.out.frozen (4 * k + 3)
        clear hlen
        go_wp2
        go_roundw
        case rel =>
          refine ⟨k + 1, by omega, by go_num, (((HX.out.setCell (by show _ ≤ w'.heap.size; omega) _).setCell (by show _ ≤ w'.heap.size; omega) _).setCell (by show _ ≤ w'.heap.size; omega) _).setCell (by show _ ≤ w'.heap.size; omega) _, (((VG.out.De (by show _ ≠ w'.heap.size; omega) _).De (by show _ ≠ w'.heap.size; omega) _).De (by show _ ≠ w'.heap.size; omega) _).De (by show _ ≠ w'.heap.size; omega) _, ?_⟩
          have e : (l.take (k + 1)).flatMap Sha.tZ ++ iC (32 - 4 * (k + 1)) = (((((l.take k).flatMap Sha.tZ ++ [UInt8.ofNat (q / 16777216)]) ++ [UInt8.ofNat (q / 65536)]) ++ [UInt8.ofNat (q / 256)]) ++ [UInt8.ofNat q]) ++ iC (28 - 4 * k) := by
            rw [List.take_succ_eq_append_getElem (by rw [Vv.out]; exact hlt), List.flatMap_append, show 32 - 4 * (k + 1) = 28 - 4 * k from by omega];have : l[k]'(by rw [Vv.out]; exact hlt) = q := by rw [hq.out]; simp [Vv.out, hlt]
            rw [this];simp [Sha.tZ]
          rw [e]
          refine ao.Dn (m := 29 - 4 * k) (ao.Dn (m := 30 - 4 * k) (ao.Dn (m := 31 - 4 * k) (ao.Dn (m := 32 - 4 * k) Vq.out HLN.out.symm Om ?_) ?_ Om ?_) ?_ Om ?_) ?_ Om ?_
          · exact gA Om Om Om
          · simp [HLN.out]
          · exact gA Om Om Om
          · simp [HLN.out]
          · exact gA Om Om Om
          · simp [HLN.out]
          exact gA Om Om Om
        case measure => simp [intOf]; omega
      have hfin : ao wr w'.heap.size 256 (dd (Sha.sum xs)) := by have h := Vq.out;rw [show k = 8 from by omega, List.take_of_length_le (by rw [Vv.out]; omega)] at h;rw [show l.flatMap Sha.tZ ++ iC (32 - 4 * 8) = Sha.sum xs from by rw [hl.out, hS.out]; exact List.append_nil _] at h;exact h
      go_wp2_with (first
        | refine oS rfl _ (.tmp 5) rfl w'.heap.size rfl _ _ _ hfin underlying256 rfl 32 NA rfl ?_
        | refine fv rfl _ (.tmp 2) (.tmp 55) rfl w.heap.size (dd (Sha.sum xs)) rfl rfl _ _ VG.out 32 NA rfl rfl (mx _) ?_)
      simp only [Exit.jump]
      exact rM rfl w.heap.size _ _ _ rfl (VG.out.row _) underlying256 rfl 32 NA rfl rfl ⟨rfl, gW HX.out (Nat.le_refl _) _⟩
  intro hp;have HP := Lib.hid hp;clear hp
  go_wp2_with (first
    | (go_at_call 246; refine (FW _).mono ?_; rintro e w1 ⟨rfl, VD⟩
       have W0 : w.heap.size < w1.heap.size := Nat.lt_of_lt_of_le K0.out.lt VD.size
       have B1 : Hid (Below w.heap.size w w1) := B0.out.trans (VD.mono B0.out.size)
       have K1 : Hid (ao w1 w.heap.size 256 (dd (iC 32))) := K0.out.kept VD
       clear VD B0 K0)
    | (refine et rfl _ rfl _ z8 w1.heap.size rfl ?_)
    | (refine fv rfl _ (.tmp 3) (.tmp 8) rfl w1.heap.size (aM .u32 Sha.H0) rfl rfl _ _ (ao.new w1 _ _) 8 s8 rfl rfl (dc _ _) ?_
       obtain ⟨w2, Vz⟩ : ∃ w2, w2 = (w1.alloc (.cells (aM .u32 (lC 8)) 284)).setRow w1.heap.size (aM .u32 Sha.H0) := ⟨_, rfl⟩
       rw [← Vz]
       have K2 : Hid (ao w2 w1.heap.size 284 (aM .u32 Sha.IV.list)) := by rw [Vz]; exact (ao.new w1 _ _).row _
       have J2 : Hid (ao w2 w.heap.size 256 (dd (iC 32))) := by rw [Vz]; exact (K1.out.alloc _).jG Om _
       have B2 : Hid (Below w.heap.size w w2) := by rw [Vz]; exact gW (B1.out.alloc Om _) Om _
       clear Vz B1 K1)
    | fail)
  have W3 : w1.heap.size < w2.heap.size := K2.out.lt;refine (jU A n c xs _ (HA.out.below B2.out) Om).mono ?_;rintro e w3 ⟨A3, c3, rfl, Vr, VA⟩;have O3 := Lib.hid Vr; have K3 : Hid (ao w3 w1.heap.size 284 (aM .u32 Sha.IV.list)) := K2.out.kept VA;have J3 : Hid (ao w3 w.heap.size 256 (dd (iC 32))) := J2.out.kept VA;have B3 : Hid (Below w.heap.size w w3) := B2.out.trans (VA.mono B2.out.size);have W4 := VA.size;clear VA Vr K2 J2 B2;go_wp2_with fail;refine (IZ n _ Om).mono ?_;rintro e w4 ⟨A4, c4, rfl, Vs, Vw⟩;have VH : Hid (Own w4 w2.heap.size A3 n c3 xs) := O3.out.below Vw;have O4 : Hid (Own w4 w3.heap.size A4 (9 + Sha.cA n) c4 (Sha.pad n)) := Vs;have K4 : Hid (ao w4 w1.heap.size 284 (aM .u32 Sha.IV.list)) := K3.out.kept Vw;have J4 : Hid (ao w4 w.heap.size 256 (dd (iC 32))) := J3.out.kept Vw;have B4 : Hid (Below w.heap.size w w4) := B3.out.trans (Vw.mono B3.out.size);have W5 := Vw.size;have hzz : Sha.cA n < 64 := Nat.mod_lt _ Om;clear Vw Vs O3 K3 J3 B3;go_wp2_with (at_builtin; refine fL (w0 := w4) rfl _ _ _ rfl _ _ bT w2.heap.size _ _ _ rfl VH.out _ _ _ ((Sha.pad n).map bv) rfl (by rw [List.length_map]; exact O4.out.len) O4.out.bs.2 aJ ?_ ?_ (Below.refl _ _) ?_ ?_; rotate_right; intro A5 c5 w5 Vt VI WV W6)
  · go_step3
    have hL : 64 * 0 + (n + (9 + Sha.cA n)) = (xs ++ Sha.pad xs.length).length := by rw [List.length_append, Sha.cP, HA.out.1]; omega
    have O5 : Own w5 w2.heap.size A5 (n + (9 + Sha.cA n)) c5 (xs ++ Sha.pad xs.length) := by have := Own.app (ys := Sha.pad n) Vt;rw [HA.out.1]; exact this
    simp only [Exit.then];rename_i hk;refine hk _ _ ?_;refine HP.out _ _ ⟨_, _, _, _, _, _, _, _, _, _, _, _, _, _, _, _, _, _, _, _, _, _, _, _, _, _, _, _, _, _, _, _, _, _, _, _, _, _, _, _, _, _, _, _, _, _, _, _, _, _, _, _, _, w1.heap.size, 0, _, c5, A5, rfl, ?_, hL, W0, ?_, ?_, ?_, ?_, ?_⟩
    · exact CT Vt
    · exact fun b off he => by have := NH O5 he; omega
    · exact B4.out.trans (VI.mono Om)
    · exact (J4.out.grown WV (by have := VH.out.lt; intro h; have := this _ h.symm; omega))
    · exact (K4.out.grown WV (by have := VH.out.lt; intro h; have := this _ h.symm; omega))
    exact O5.bs
  · omega
  · omega
  omega
set_option maxRecDepth 100000 in
theorem Gd (w : World) : Ct 120 #[] w fun e w' => ∃ g1 g2, e = .returned (.tuple #[.slice (some ⟨g1, 0, none⟩) 8 8, .slice (some ⟨g2, 0, none⟩) 64 64]) ∧ Ns .u64 w' (some ⟨g1, 0, none⟩) 8 Sha.H0 ∧ Ns .u64 w' (some ⟨g2, 0, none⟩) 64 Sha.K ∧ Below w.heap.size w w' := by
 go_enter func120, ntmps120;go_wp2;go_ret2;refine ⟨_, _, rfl, ?_, ?_, ((Below.refl _ _).alloc (Nat.le_refl _) _).alloc (by simp) _⟩
 ·refine Ns.below (w := w.alloc _) ?_ ((Below.refl _ _).alloc (Nat.le_refl _) _);exact ON (w := w) Sha.H0 _ rfl rfl
 have h := ON (w := w.alloc (.cells (aM .u64 Sha.H0) 38)) (t := 38) (k := .u64) Sha.K (aM .u64 Sha.K) rfl rfl (n := 64);rw [World.size_alloc] at h;exact h
theorem fT (A : Oa) (n c : Nat) (xs : Lb) (w : World) (ha : Bs w A n xs) (hn : n ≤ 35184372088832) :
    Ct 52 #[.slice A n c] w fun e w' => ∃ A' c', e = .returned (.slice A' 32 c') ∧ Own w' w.heap.size A' 32 c' (Sha.sum xs) ∧ Below w.heap.size w w' := by
  have HA := Lib.hid ha;clear ha;go_enter func52, ntmps52
  go_wp2_with (first
    | (go_at_call 120; refine (Gd _).mono ?_; rintro e w1 ⟨g1, g2, rfl, h1, h2, Vr⟩
       have H1 := Lib.hid h1; have H2 := Lib.hid h2; have Vq := Lib.hid Vr
       clear h1 h2 Vr)
    | (go_at_call 121; refine (LC A _ _ n c _ _ xs _ (HA.out.below Vq.out) hn H1.out H2.out).mono ?_; rintro e w2 ⟨A2, c2, rfl, Vs, Vt⟩
       have Vu := Lib.hid Vs
       have Vv : Hid (Below w.heap.size w w2) := Vq.out.trans (Vt.mono Vq.out.size)
       have Vw := Vq.out.size
       clear Vs Vt))
  go_ret;exact ⟨A2, c2, rfl, Vu.out.lower Vw, Vv.out⟩
theorem wP (A : Oa) (n c : Nat) (xss : List (List UInt8)) (w : World) (ha : rO w A n xss) (hn : n ≤ 35184372088832) (hlen : xss.flatten.length ≤ 35184372088832) :
    Ct 161 #[.slice A n c] w fun e w' => ∃ g, e = .returned (.slice (some ⟨g, 0, none⟩) 32 32) ∧ w.heap.size ≤ g ∧ ao w' g 256 (dd (Sha.sum xss.flatten)) ∧ Below w.heap.size w w' := by
  have HA := Lib.hid ha;clear ha;go_enter func161, ntmps161
  go_wp2_with (first
    | (go_at_call 184; refine (gU A n c xss _ HA.out Om Om).mono ?_; rintro e w1 ⟨A1, m1, c1, rfl, Vr, Vs⟩
       have Vv := Lib.hid Vr; have Vt := Lib.hid Vs
       have Vw : m1 ≤ 35184372088832 := by have := Vr.len; omega
       clear Vr Vs)
    | (go_at_call 217; refine (Ol A1 m1 c1 xss.flatten _ Vv.out.bs Vw).mono ?_; rintro e w2 ⟨rfl, Vu⟩
       have Vq : Hid (Below w.heap.size w w2) := Vt.out.trans (Vu.mono Vt.out.size)
       clear Vu)
    | refine et rfl _ rfl _ QJ w2.heap.size rfl ?_
    | refine fv rfl _ (.tmp 3) (.tmp 6) rfl w2.heap.size (dd (Sha.sum xss.flatten)) rfl rfl _ _ (ao.new w2 _ _) 32 NA rfl rfl (mx _) ?_)
  go_ret;exact ⟨w2.heap.size, rfl, Vq.out.size, (ao.new w2 _ _).row _, gW (Vq.out.alloc Vq.out.size _) Vq.out.size _⟩
end
open Go.RowKit Tryz
attribute [local irreducible] Y Ef WL WC WK WQ WM cv
theorem xor_zero (a b : Nat) : a ^^^ b = 0 ↔ a = b := by
 constructor
 ·intro h;have : (a ^^^ b) ^^^ b = 0 ^^^ b := by rw [h]
  rw [Nat.xor_assoc, Nat.xor_self] at this;simpa using this
 rintro rfl; simp
theorem wG {k : Nat} (hx : xs.length = n) (hy : ys.length = n) (hk : k < n) (h : d = 0 ↔ xs.take k = ys.take k) :
  (d ||| ((xs.getD k 0).toNat ^^^ (ys.getD k 0).toNat) = 0) ↔ xs.take (k + 1) = ys.take (k + 1) := by
 rw [List.take_succ_eq_append_getElem Om, List.take_succ_eq_append_getElem Om];have e1 : xs.getD k 0 = xs[k] := by simp [show k < xs.length by omega]
 have e2 : ys.getD k 0 = ys[k] := by simp [show k < ys.length by omega]
 rw [e1, e2, Nat.or_eq_zero_iff, h, xor_zero];constructor
 ·rintro ⟨h1, h2⟩;rw [h1, UInt8.toNat_inj.1 h2]
 intro hh;have := List.append_inj hh So;exact ⟨this.1, by have := this.2; simp at this; rw [this]⟩
theorem xL (A B : Oa) (n m c d : Nat) (xs ys : Lb) (w : World) (HA : Bs w A n xs) (HB : Bs w B m ys) (hn : n ≤ 140737488355328) (hm : m ≤ 140737488355328) :
  Ct 44 #[.slice A n c, .slice B m d] w fun e w' => e = .returned (.bool (decide (xs = ys))) ∧ Ext w w' := by
 refine ai 31 func44 rfl rfl rfl rfl ?_;intro _ hret;refine aU ?_;refine ak rfl (fun Vq => ?_) (fun Vq => ?_)
 ·refine aU ?_;refine hret rfl ?_;exact ⟨by rw [decide_eq_false]; intro h; exact Vq (by rw [← HA.1, ← HB.1, h]), Ext.refl _⟩
 have hnm : n = m := by omega
 refine aU ?_;refine aD (fun n' L wr => ∃ k D : Nat, L = [(0, .slice A n c), (1, .slice B m d), (5, .int .u8 (D : Int)), (13, .int .i64 (n : Int)), (14, .int .i64 (k : Int))] ∧ n' = n - k ∧ (k ≤ n ∧ D < 256 ∧ Ext w wr ∧ (D = 0 ↔ xs.take k = ys.take k))) _ _ ⟨0, 0, rfl, rfl, Nat.zero_le _, by omega, Ext.refl _, by simp⟩ Ls ?_;rintro _ n' L wr ⟨k, D, rfl, rfl, _, hD, E, hI⟩ Vr;refine aU ?_;refine ak rfl (fun Vs => ?_) (fun Vs => ?_)
 ·refine aU ?_;obtain ⟨b, off, x, rfl, hx, hcx⟩ := (HA.ext E).byte (k := k) Om;obtain ⟨b', Vt, y, rfl, hy, hcy⟩ := (HB.ext E).byte (k := k) Om;refine az Kr 12 rfl ?_; intro Vw ex Vx;have Vu := x.toNat_lt; have Vv := y.toNat_lt;replace hcx := (ex.cell (dX hcx)).trans hcx; replace hcy := (ex.cell (dX hcy)).trans hcy;refine zm [0, 1, 2, 3] ?_;refine my 4 rfl (af rfl Tn.u rfl hcx) ?_;refine zm [5, 6, 7] ?_;refine my 8 rfl (af rfl Tn.u rfl hcy) ?_;refine my 9 rfl (bP rfl rfl (bH Om Om).2.2) ?_;have hxl := Nat.xor_lt_two_pow (n := 8) Vu Vv; have hlt := Nat.or_lt_two_pow (n := 8) hD hxl;refine my 10 rfl (jN rfl rfl (bH Om Om).2.1) ?_;refine Gh [11] ?_;refine au 10 ?_;refine ae ?_;refine Vr _ _ ⟨k + 1, _, rfl, rfl, by omega, hlt, E.tr ex, by rw [hx.out, hy.out]; exact wG HA.1 (by rw [HB.1, hnm]) Om hI⟩ Om Ls
 refine aU ?_;refine hret rfl ?_;exact ⟨dM (by rw [List.take_of_length_le (by rw [HA.1]; omega), List.take_of_length_le (by rw [HB.1]; omega)] at hI; rw [← hI]; omega), E⟩
theorem copied (ks : Lb) (hk : ks.length ≤ 64) (h : ao w g t ((List.replicate 64 (Value.int .u8 0)).toArray.toList.take 0 ++ ks.map bv ++ (List.replicate 64 (Value.int .u8 0)).toArray.toList.drop (0 + (ks.map bv).length)).toArray) :
  ao w g t (dd (ks ++ iC (64 - ks.length))) := by
 have e : (List.replicate 64 (Value.int .u8 0)).toArray.toList.take 0 ++ ks.map bv ++ (List.replicate 64 (Value.int .u8 0)).toArray.toList.drop (0 + (ks.map bv).length) = (ks ++ iC (64 - ks.length)).map bv := by rw [List.toList_toArray, List.take_zero, List.nil_append, List.drop_replicate, List.length_map, Nat.zero_add, List.map_append];unfold iC;rw [List.map_replicate];rfl
 rw [e] at h;exact h
theorem zI (l : Lb) (c : UInt8) (k : Nat) (hk : k < l.length) : ((l.take k).map (· ^^^ c) ++ l.drop k).set k (l.getD k 0 ^^^ c) = (l.take (k + 1)).map (· ^^^ c) ++ l.drop (k + 1) := by
 have hl : ((l.take k).map (· ^^^ c)).length = k := by simp; omega
 rw [List.set_append_right _ _ Om, hl, Nat.sub_self, List.drop_eq_getElem_cons hk, List.set_cons_zero, List.take_succ_eq_append_getElem hk, List.map_append, List.append_assoc];simp [hk]
theorem Ec (l : Lb) (c : UInt8) (k : Nat) (hk : k < l.length) : ((l.take k).map (· ^^^ c) ++ l.drop k).getD k 0 = l.getD k 0 := by
 have hl : ((l.take k).map (· ^^^ c)).length = k := by simp; omega
 have h2 := List.getElem?_append_right (l₁ := (l.take k).map (· ^^^ c)) (l₂ := l.drop k) (i := k) Om;rw [List.getD_eq_getElem?_getD, h2, hl, Nat.sub_self];simp [hk]
theorem yE (A : Oa) (n c : Nat) (xs : Lb) (x : UInt8) (w : World) (HA : Bs w A n xs) (hn : n ≤ 35184372088832) :
  Ct 185 #[.slice A n c, .int .u8 (x.toNat : Int)] w fun e w' => ∃ g, e = .returned (.slice (some ⟨g, 0, none⟩) 64 64) ∧ w.heap.size ≤ g ∧ ao w' g 5 (dd (Mac.held xs x)) ∧ Ext w w' := by
 have Vr : ∀ ks : List UInt8, ks = (if 64 < n then Sha.sum xs else xs) → ks ++ iC (64 - ks.length) = Mac.N2 xs := fun ks h => by rw [h]; unfold Mac.N2; simp only [HA.1]
 have hx := x.toNat_lt
 obtain ⟨X, hX⟩ : ∃ X, X = Mac.N2 xs := ⟨_, rfl⟩
 have hXl : X.length = 64 := by rw [hX]; exact Mac.nF _
 refine ai 31 func185 rfl rfl rfl rfl ?_;intro _ hret;have HK := HA; have E := Ext.refl w;refine aU ?_;refine ak rfl (fun Vv => ?_) (fun Vv => ?_)
 ·refine aU ?_;refine ag (aF (t := 127) Tn.u (z := .slice none 0 0) Kr rfl rfl rfl rfl rfl) rfl ?_;rintro _ _ ⟨_, rfl, B1, _, ex⟩;replace HK := HK.ext ex;have E1 := ex;refine aC func161 rfl (wP _ 1 1 [xs] _ (mD B1 HK) Om (by simp [HA.1]; omega)) ?_;rintro e _ ⟨_, rfl, _, B2, ex⟩;replace HK := HK.ext ex;replace E := E1.tr ex;replace HK := bh B2 (Sha.cn _);refine aU ?_;refine ag (dD (n := 64) (z := .int .u8 0) (bytes := 1) rfl rfl Tn.u Kr rfl rfl Om Om Om Om) rfl ?_;rintro _ w3 ⟨g3, rfl, B3, Vs, ex⟩;replace HK := HK.ext ex;have Vq : w.heap.size ≤ g3 := Nat.le_trans E.size Vs; replace E := E.tr ex;refine aU ?_;refine ag (gY rfl rfl Tn.u Kr B3 HK.2 (by rw [List.length_map, HK.1]; rfl) (by rw [List.length_map, HK.1]; simp) aJ) rfl ?_;rintro _ w4 ⟨rfl, B4, cg⟩;have B5 := copied _ (by rw [HK.1]; omega) B4; rw [Vr _ (by rw [if_pos Om]; simp), ← hX] at B5; have E5 := E.aA cg Vq;refine aU ?_;refine aD (fun n' L wr => ∃ k : Nat, L = [(1, .int .u8 (x.toNat : Int)), (5, .slice (some ⟨g3, 0, none⟩) 64 64), (18, .int .i64 64), (19, .int .i64 (k : Int))] ∧ n' = 64 - k ∧ (k ≤ 64 ∧ Ext w wr ∧ ao wr g3 5 (dd ((X.take k).map (· ^^^ x) ++ X.drop k)))) _ _ ⟨0, rfl, rfl, by omega, E5, by simpa using B5⟩ Ls ?_;rintro Vw n' L wr ⟨k, rfl, rfl, hk, E6, B6⟩ Vt;refine aU ?_;refine ak rfl (fun Vu => ?_) (fun Vu => ?_)
  ·have hxk := (X.getD k 0).toNat_lt;refine au 14 ?_;refine al (af rfl Tn.u rfl (B6.get (by rw [Nat.zero_add, kj So, Ec X x k Om]))) ?_;refine au 1 ?_;refine al (bP rfl rfl (bH Om Om).2.2) ?_;refine au 1 ?_;refine ag (aq rfl rfl rfl Kr B6 (by rw [ba]; simp; omega)) rfl ?_;rintro _ w5 ⟨rfl, B7, cg⟩;have B8 := B7.congr (cs' := dd ((X.take (k + 1)).map (· ^^^ x) ++ X.drop (k + 1))) (by rw [Nat.zero_add, ← zI X x k Om, ← mA, UInt8.toNat_xor]); have E7 := E6.aA cg Vq;refine au 7 ?_;refine ae ?_;refine Vt _ _ ⟨k + 1, rfl, rfl, by omega, E7, B8⟩ Om Ls
  refine aU ?_;refine hret rfl ?_;exact ⟨g3, rfl, Vq, B6.congr (by rw [show k = 64 from by omega, List.take_of_length_le Om, List.drop_of_length_le Om, List.append_nil, hX]; rfl), E6⟩
 refine aU ?_;refine ag (dD (n := 64) (z := .int .u8 0) (bytes := 1) rfl rfl Tn.u Kr rfl rfl Om Om Om Om) rfl ?_;rintro _ w3 ⟨g3, rfl, B3, Vs, ex⟩;replace HK := HK.ext ex;have Vq : w.heap.size ≤ g3 := Nat.le_trans E.size Vs; replace E := E.tr ex;refine aU ?_;refine ag (gY rfl rfl Tn.u Kr B3 HK.2 (by rw [List.length_map, HK.1]; exact (Nat.min_eq_left Om).symm) (by rw [List.length_map, HK.1]; simp; omega) aJ) rfl ?_;rintro _ w4 ⟨rfl, B4, cg⟩;have B5 := copied _ (by rw [HK.1]; omega) B4; rw [Vr _ (by rw [if_neg Om]), ← hX] at B5; have E5 := E.aA cg Vq;refine aU ?_;refine aD (fun n' L wr => ∃ k : Nat, L = [(1, .int .u8 (x.toNat : Int)), (5, .slice (some ⟨g3, 0, none⟩) 64 64), (18, .int .i64 64), (19, .int .i64 (k : Int))] ∧ n' = 64 - k ∧ (k ≤ 64 ∧ Ext w wr ∧ ao wr g3 5 (dd ((X.take k).map (· ^^^ x) ++ X.drop k)))) _ _ ⟨0, rfl, rfl, by omega, E5, by simpa using B5⟩ Ls ?_;rintro Vw n' L wr ⟨k, rfl, rfl, hk, E6, B6⟩ Vt;refine aU ?_;refine ak rfl (fun Vu => ?_) (fun Vu => ?_)
 ·have hxk := (X.getD k 0).toNat_lt;refine au 14 ?_;refine al (af rfl Tn.u rfl (B6.get (by rw [Nat.zero_add, kj So, Ec X x k Om]))) ?_;refine au 1 ?_;refine al (bP rfl rfl (bH Om Om).2.2) ?_;refine au 1 ?_;refine ag (aq rfl rfl rfl Kr B6 (by rw [ba]; simp; omega)) rfl ?_;rintro _ w5 ⟨rfl, B7, cg⟩;have B8 := B7.congr (cs' := dd ((X.take (k + 1)).map (· ^^^ x) ++ X.drop (k + 1))) (by rw [Nat.zero_add, ← zI X x k Om, ← mA, UInt8.toNat_xor]); have E7 := E6.aA cg Vq;refine au 7 ?_;refine ae ?_;refine Vt _ _ ⟨k + 1, rfl, rfl, by omega, E7, B8⟩ Om Ls
 refine aU ?_;refine hret rfl ?_;exact ⟨g3, rfl, Vq, B6.congr (by rw [show k = 64 from by omega, List.take_of_length_le Om, List.drop_of_length_le Om, List.append_nil, hX]; rfl), E6⟩
theorem wV (A B : Oa) (n c m d : Nat) (xs : Lb) (xss : List (List UInt8)) (w : World) (HA : Bs w A n xs) (hn : n ≤ 35184372088832) (HB : rO w B m xss) (hm : m ≤ 35184372088832) (hl : xss.flatten.length ≤ 35184372088000) :
  Ct 112 #[.slice A n c, .slice B m d] w fun e w' => ∃ g, e = .returned (.slice (some ⟨g, 0, none⟩) 32 32) ∧ w.heap.size ≤ g ∧ ao w' g 256 (dd (Mac.tag xs xss.flatten)) ∧ Ext w w' := by
 have E := Ext.refl w;refine ai 19 func112 rfl rfl rfl rfl ?_;intro _ hret;refine aU ?_;refine aC func185 rfl (yE A n c xs 54 _ HA hn) ?_;rintro e _ ⟨_, rfl, _, B1, ex⟩;obtain ⟨HA,HB,E⟩ := bF ex HA HB E;have H1 := bh B1 (Mac.ia _ _);refine aU ?_;refine aC func184 rfl (gU B m d xss _ HB Om Om) ?_;rintro e _ ⟨_, _, _, rfl, O2, ex⟩;refine aU ?_;obtain ⟨HA,E,H1⟩ := bF ex HA E H1;have H2 := O2.bs;refine ag (aF (z := .slice none 0 0) Tn.u Kr rfl rfl rfl rfl rfl) rfl ?_;rintro _ _ ⟨_, rfl, B3, _, ex⟩;obtain ⟨HA,E,H1,H2⟩ := bU ex HA E H1 H2;have S3 := ph B3 H1 H2;refine aC func184 rfl (gU _ 2 2 [Mac.held xs 54, xss.flatten] _ S3 Om (by simp [Mac.ia]; simp at hl; omega)) ?_;rintro e _ ⟨_, _, _, rfl, O4, ex⟩;refine aU ?_;obtain ⟨HA,E⟩ := aZ ex HA E;have H4 := O4.bs;refine ag (aF (z := .slice none 0 0) Tn.u Kr rfl rfl rfl rfl rfl) rfl ?_;rintro _ _ ⟨_, rfl, B5, _, ex⟩;obtain ⟨HA,E,H4⟩ := bF ex HA E H4;have S5 := mD B5 H4;refine aC func161 rfl (wP _ 1 1 _ _ S5 Om (by simp [Mac.ia]; simp at hl; omega)) ?_;rintro e _ ⟨_, rfl, _, B6, ex⟩;obtain ⟨HA,E⟩ := aZ ex HA E;have H6 := bh B6 (Sha.cn _);refine aU ?_;refine aC func185 rfl (yE A n c xs 92 _ HA hn) ?_;rintro e _ ⟨_, rfl, _, B7, ex⟩;obtain ⟨E,H6⟩ := aZ ex E H6;have H7 := bh B7 (Mac.ia _ _);refine aU ?_;refine ag (aF (z := .slice none 0 0) Tn.u Kr rfl rfl rfl rfl rfl) rfl ?_;rintro _ _ ⟨_, rfl, B8, _, ex⟩;obtain ⟨E,H6,H7⟩ := bF ex E H6 H7;have S8 := ph B8 H7 H6; have h8 := E.size;refine aC func161 rfl (wP _ 2 2 _ _ S8 Om (by simp [Mac.ia, Sha.cn])) ?_;rintro e _ ⟨g9, rfl, _, B9, ex⟩;replace E := E.ext ex;refine aU ?_;refine hret rfl ?_;exact ⟨g9, rfl, by omega, B9.congr (by simp [Mac.tag]), E⟩
theorem CN (ks xs : Lb) (h : ks = if 64 < xs.length then Sha.sum xs else xs) (k : Nat) : (Mac.N2 xs).getD k 0 = ks.getD k 0 := by
 have e : Mac.N2 xs = ks ++ iC (64 - ks.length) := by rw [h]; rfl
 rw [e, List.getD_eq_getElem?_getD, List.getD_eq_getElem?_getD, List.getElem?_append];by_cases hk : k < ks.length
 ·simp [hk]
 simp only [hk, if_false];rw [List.getElem?_eq_none (by omega : ks.length ≤ k)];simp [iC, List.getElem?_replicate];split <;> simp
theorem il (X : Lb) (k : Nat) (hk : k < X.length) (c y : UInt8) (hy : X.getD k 0 = y) : (X.take k).map (· ^^^ c) ++ [y ^^^ c] = (X.take (k + 1)).map (· ^^^ c) := by rw [List.take_succ_eq_append_getElem hk, List.map_append];subst hy;simp [hk]
theorem kf (A B : Oa) (n c m d : Nat) (xs ys : Lb) (w : World) (HA : Bs w A n xs) (hn : n ≤ 35184372088832) (HB : Bs w B m ys) (hm : m ≤ 35184372088000) :
  Ct 18 #[.slice A n c, .slice B m d] w fun e w' => ∃ A' c', e = .returned (.slice A' 32 c') ∧ Row w' w.heap.size 5 A' 32 c' ((Mac.tag xs ys).map bv) ∧ Ext w w' := by
 have E := Ext.refl w
 obtain ⟨X, hX⟩ : ∃ X, X = Mac.N2 xs := ⟨_, rfl⟩
 have hXl : X.length = 64 := by rw [hX]; exact Mac.nF _
 refine ai 43 func18 rfl rfl rfl rfl ?_;intro _ hret;refine aU ?_;refine ak rfl (fun VR => ?_) (fun VR => ?_)
 ·refine aU ?_;refine aC func52 rfl (fT A n c xs _ HA hn) ?_;rintro e w1 ⟨A1, c1, rfl, O1, ex⟩;obtain ⟨HA,HB,E⟩ := bF ex HA HB E;have HK := O1.bs;refine aU ?_;have hks : ∀ k, X.getD k 0 = (Sha.sum xs).getD k 0 := fun k => by rw [hX]; exact CN _ _ (by have := HA.1; split <;> first | rfl | omega) k
  refine aD (fun n' L wr => ∃ (k c5 c6 : Nat) (A5 A6 : Oa), L = [(0, .slice A1 32 c1), (1, .slice B m d), (5, .slice A5 k c5), (6, .slice A6 k c6), (7, .int .i64 (k : Int))] ∧ n' = 64 - k ∧ (k ≤ 64 ∧ Ext w1 wr ∧ Row wr w1.heap.size 5 A5 k c5 (((X.take k).map (· ^^^ 54)).map bv) ∧ Row wr w1.heap.size 5 A6 k c6 (((X.take k).map (· ^^^ 92)).map bv) ∧ Dj A5 A6)) _ _ ⟨0, 0, 0, none, none, rfl, rfl, by omega, Ext.refl _, Row.empty _ _ _, Row.empty _ _ _, Dj.Js _⟩ Ls ?_;rintro VS n' L wr ⟨k, c5, c6, A5, A6, rfl, rfl, hk, F, R5, R6, hD⟩ Vu;refine aU ?_;refine ak rfl (fun Vy => ?_) (fun Vy => ?_)
  ·refine au 15 ?_;refine bf (eX rfl rfl) rfl (fun hlt => ?_) (fun hlt => ?_)
   ·refine au 2 ?_;refine bX rfl rfl ?_;obtain ⟨b, off, y, rfl, hy, hcy⟩ := (HK.ext F).byte (k := k) Om;refine au 4 ?_;refine al (af rfl Tn.u rfl hcy) ?_;have hyX : X.getD k 0 = y := by rw [hks, hy.out]
    have hyb := (y).toNat_lt;refine au 7 ?_;refine al (bP rfl rfl (bH (p := (y).toNat) (q := 54) Om Om).2.2) ?_;refine ag (aF (z := .int .u8 0) Tn.u Kr rfl rfl rfl rfl rfl) rfl ?_;rintro _ w5 ⟨g5, rfl, B5, Vz, ex⟩;replace F := F.ext ex;replace R5 := R5.ext ex; replace R6 := R6.ext ex;refine ag (aX rfl rfl bT R5 (At.jn (vs := [y ^^^ 54].map bv) (B5.congr (by rfl))) rfl aJ Om Om F.size) rfl ?_;rintro _ w6 ⟨A7, c7, rfl, R7, be, gr, hl⟩;have F6 := F.trans be; have q6 := Row.app R6 hD gr hl R5.gG; have R8 := R7.cat; rw [il X k Om 54 _ hyX] at R8;refine au 6 ?_;refine al (bP rfl rfl (bH (p := (y).toNat) (q := 92) Om Om).2.2) ?_;refine ag (aF (z := .int .u8 0) Tn.u Kr rfl rfl rfl rfl rfl) rfl ?_;rintro _ w7 ⟨g7, rfl, B7, VA, ex⟩;replace R8 := R8.ext ex; have R9 := q6.1.ext ex; have F7 := F6.ext ex;refine ag (aX rfl rfl bT R9 (At.jn (vs := [y ^^^ 92].map bv) (B7.congr (by rfl))) rfl aJ Om Om F7.size) rfl ?_;rintro _ w8 ⟨A9, c9, rfl, Vr, be, gr, hl⟩;have F8 := F7.trans be; have q8 := Row.app R8 q6.2.symm gr hl R9.gG; have Vq := Vr.cat; rw [il X k Om 92 _ hyX] at Vq;refine au 9 ?_;refine ae ?_;refine Vu _ _ ⟨k + 1, c7, c9, A7, A9, rfl, rfl, by omega, F8, q8.1, Vq, q8.2.symm⟩ Om Ls
   refine au 2 ?_;refine bg rfl rfl ?_;refine au 3 ?_;have hyX : X.getD k 0 = 0 := by rw [hks, List.getD_eq_getElem?_getD, List.getElem?_eq_none (by rw [HK.1]; omega)]; rfl
   have hyb := ((0 : UInt8)).toNat_lt;refine au 3 ?_;refine al (bP rfl rfl (bH (p := ((0 : UInt8)).toNat) (q := 54) Om Om).2.2) ?_;refine ag (aF (z := .int .u8 0) Tn.u Kr rfl rfl rfl rfl rfl) rfl ?_;rintro _ w5 ⟨g5, rfl, B5, Vz, ex⟩;replace F := F.ext ex;replace R5 := R5.ext ex; replace R6 := R6.ext ex;refine ag (aX rfl rfl bT R5 (At.jn (vs := [(0 : UInt8) ^^^ 54].map bv) (B5.congr (by rfl))) rfl aJ Om Om F.size) rfl ?_;rintro _ w6 ⟨A7, c7, rfl, R7, be, gr, hl⟩;have F6 := F.trans be; have q6 := Row.app R6 hD gr hl R5.gG; have R8 := R7.cat; rw [il X k Om 54 _ hyX] at R8;refine au 6 ?_;refine al (bP rfl rfl (bH (p := ((0 : UInt8)).toNat) (q := 92) Om Om).2.2) ?_;refine ag (aF (z := .int .u8 0) Tn.u Kr rfl rfl rfl rfl rfl) rfl ?_;rintro _ w7 ⟨g7, rfl, B7, VA, ex⟩;replace R8 := R8.ext ex; have R9 := q6.1.ext ex; have F7 := F6.ext ex;refine ag (aX rfl rfl bT R9 (At.jn (vs := [(0 : UInt8) ^^^ 92].map bv) (B7.congr (by rfl))) rfl aJ Om Om F7.size) rfl ?_;rintro _ w8 ⟨A9, c9, rfl, Vr, be, gr, hl⟩;have F8 := F7.trans be; have q8 := Row.app R8 q6.2.symm gr hl R9.gG; have Vq := Vr.cat; rw [il X k Om 92 _ hyX] at Vq;refine au 9 ?_;refine ae ?_;refine Vu _ _ ⟨k + 1, c7, c9, A7, A9, rfl, rfl, by omega, F8, q8.1, Vq, q8.2.symm⟩ Om Ls
  obtain rfl : k = 64 := by omega
  rw [List.take_of_length_le Om, hX] at R5 R6;have hsF := F.size;refine aU ?_;refine ag (aX rfl rfl bT R5 (HB.ext F).2 (by rw [List.length_map, HB.1]) aJ Om Om hsF) rfl ?_;rintro _ VT ⟨VB, c10, rfl, Vr, be, gr, hl⟩;have VC := F.trans be; have Vq := (Row.app R6 hD gr hl R5.gG).1; have VD := Vr.cat.bs;refine aC func52 rfl (fT VB _ c10 _ _ VD Om) ?_;rintro e VU ⟨VV, c11, rfl, Vv, ex⟩;refine aU ?_;have VE := Vq.ext ex; have Vw := VC.ext ex; have Vs := Vw.size;refine ag (aX rfl rfl bT VE Vv.bs.2 (by rw [List.length_map]; exact Vv.bs.1) aJ Om Om Vs) rfl ?_;rintro _ VF ⟨VG, VH, rfl, VI, be, gr, hl⟩;have Vx := Vw.trans be; have VJ := VI.cat.bs;refine aC func52 rfl (fT VG _ VH _ _ VJ Om) ?_;rintro e VK ⟨VL, VM, rfl, VN, ex⟩;have VO := Vx.ext ex; have VP := E.ext VO; have Vt : w.heap.size ≤ VF.heap.size := Nat.le_trans E.size Vx.size; have VQ : Row VK w.heap.size 5 VL 32 VM _ := Row.lower VN Vt;refine aU ?_;refine hret rfl ?_;exact ⟨_, _, rfl, VQ, VP⟩
 have HK := HA;refine aU ?_;have hks : ∀ k, X.getD k 0 = xs.getD k 0 := fun k => by rw [hX]; exact CN _ _ (by have := HA.1; split <;> first | rfl | omega) k
 refine aD (fun n' L wr => ∃ (k c5 c6 : Nat) (A5 A6 : Oa), L = [(0, .slice A n c), (1, .slice B m d), (5, .slice A5 k c5), (6, .slice A6 k c6), (7, .int .i64 (k : Int))] ∧ n' = 64 - k ∧ (k ≤ 64 ∧ Ext w wr ∧ Row wr w.heap.size 5 A5 k c5 (((X.take k).map (· ^^^ 54)).map bv) ∧ Row wr w.heap.size 5 A6 k c6 (((X.take k).map (· ^^^ 92)).map bv) ∧ Dj A5 A6)) _ _ ⟨0, 0, 0, none, none, rfl, rfl, by omega, Ext.refl _, Row.empty _ _ _, Row.empty _ _ _, Dj.Js _⟩ Ls ?_;rintro VS n' L wr ⟨k, c5, c6, A5, A6, rfl, rfl, hk, F, R5, R6, hD⟩ Vu;refine aU ?_;refine ak rfl (fun Vy => ?_) (fun Vy => ?_)
 ·refine au 15 ?_;refine bf (eX rfl rfl) rfl (fun hlt => ?_) (fun hlt => ?_)
  ·refine au 2 ?_;refine bX rfl rfl ?_;obtain ⟨b, off, y, rfl, hy, hcy⟩ := (HK.ext F).byte (k := k) Om;refine au 4 ?_;refine al (af rfl Tn.u rfl hcy) ?_;have hyX : X.getD k 0 = y := by rw [hks, hy.out]
   have hyb := (y).toNat_lt;refine au 7 ?_;refine al (bP rfl rfl (bH (p := (y).toNat) (q := 54) Om Om).2.2) ?_;refine ag (aF (z := .int .u8 0) Tn.u Kr rfl rfl rfl rfl rfl) rfl ?_;rintro _ w5 ⟨g5, rfl, B5, Vz, ex⟩;replace F := F.ext ex;replace R5 := R5.ext ex; replace R6 := R6.ext ex;refine ag (aX rfl rfl bT R5 (At.jn (vs := [y ^^^ 54].map bv) (B5.congr (by rfl))) rfl aJ Om Om F.size) rfl ?_;rintro _ w6 ⟨A7, c7, rfl, R7, be, gr, hl⟩;have F6 := F.trans be; have q6 := Row.app R6 hD gr hl R5.gG; have R8 := R7.cat; rw [il X k Om 54 _ hyX] at R8;refine au 6 ?_;refine al (bP rfl rfl (bH (p := (y).toNat) (q := 92) Om Om).2.2) ?_;refine ag (aF (z := .int .u8 0) Tn.u Kr rfl rfl rfl rfl rfl) rfl ?_;rintro _ w7 ⟨g7, rfl, B7, VA, ex⟩;replace R8 := R8.ext ex; have R9 := q6.1.ext ex; have F7 := F6.ext ex;refine ag (aX rfl rfl bT R9 (At.jn (vs := [y ^^^ 92].map bv) (B7.congr (by rfl))) rfl aJ Om Om F7.size) rfl ?_;rintro _ w8 ⟨A9, c9, rfl, Vr, be, gr, hl⟩;have F8 := F7.trans be; have q8 := Row.app R8 q6.2.symm gr hl R9.gG; have Vq := Vr.cat; rw [il X k Om 92 _ hyX] at Vq;refine au 9 ?_;refine ae ?_;refine Vu _ _ ⟨k + 1, c7, c9, A7, A9, rfl, rfl, by omega, F8, q8.1, Vq, q8.2.symm⟩ Om Ls
  refine au 2 ?_;refine bg rfl rfl ?_;refine au 3 ?_;have hyX : X.getD k 0 = 0 := by rw [hks, List.getD_eq_getElem?_getD, List.getElem?_eq_none (by rw [HK.1]; omega)]; rfl
  have hyb := ((0 : UInt8)).toNat_lt;refine au 3 ?_;refine al (bP rfl rfl (bH (p := ((0 : UInt8)).toNat) (q := 54) Om Om).2.2) ?_;refine ag (aF (z := .int .u8 0) Tn.u Kr rfl rfl rfl rfl rfl) rfl ?_;rintro _ w5 ⟨g5, rfl, B5, Vz, ex⟩;replace F := F.ext ex;replace R5 := R5.ext ex; replace R6 := R6.ext ex;refine ag (aX rfl rfl bT R5 (At.jn (vs := [(0 : UInt8) ^^^ 54].map bv) (B5.congr (by rfl))) rfl aJ Om Om F.size) rfl ?_;rintro _ w6 ⟨A7, c7, rfl, R7, be, gr, hl⟩;have F6 := F.trans be; have q6 := Row.app R6 hD gr hl R5.gG; have R8 := R7.cat; rw [il X k Om 54 _ hyX] at R8;refine au 6 ?_;refine al (bP rfl rfl (bH (p := ((0 : UInt8)).toNat) (q := 92) Om Om).2.2) ?_;refine ag (aF (z := .int .u8 0) Tn.u Kr rfl rfl rfl rfl rfl) rfl ?_;rintro _ w7 ⟨g7, rfl, B7, VA, ex⟩;replace R8 := R8.ext ex; have R9 := q6.1.ext ex; have F7 := F6.ext ex;refine ag (aX rfl rfl bT R9 (At.jn (vs := [(0 : UInt8) ^^^ 92].map bv) (B7.congr (by rfl))) rfl aJ Om Om F7.size) rfl ?_;rintro _ w8 ⟨A9, c9, rfl, Vr, be, gr, hl⟩;have F8 := F7.trans be; have q8 := Row.app R8 q6.2.symm gr hl R9.gG; have Vq := Vr.cat; rw [il X k Om 92 _ hyX] at Vq;refine au 9 ?_;refine ae ?_;refine Vu _ _ ⟨k + 1, c7, c9, A7, A9, rfl, rfl, by omega, F8, q8.1, Vq, q8.2.symm⟩ Om Ls
 obtain rfl : k = 64 := by omega
 rw [List.take_of_length_le Om, hX] at R5 R6;have hsF := F.size;refine aU ?_;refine ag (aX rfl rfl bT R5 (HB.ext F).2 (by rw [List.length_map, HB.1]) aJ Om Om hsF) rfl ?_;rintro _ VT ⟨VB, c10, rfl, Vr, be, gr, hl⟩;have VC := F.trans be; have Vq := (Row.app R6 hD gr hl R5.gG).1; have VD := Vr.cat.bs;refine aC func52 rfl (fT VB _ c10 _ _ VD Om) ?_;rintro e VU ⟨VV, c11, rfl, Vv, ex⟩;refine aU ?_;have VE := Vq.ext ex; have Vw := VC.ext ex; have Vs := Vw.size;refine ag (aX rfl rfl bT VE Vv.bs.2 (by rw [List.length_map]; exact Vv.bs.1) aJ Om Om Vs) rfl ?_;rintro _ VF ⟨VG, VH, rfl, VI, be, gr, hl⟩;have Vx := Vw.trans be; have VJ := VI.cat.bs;refine aC func52 rfl (fT VG _ VH _ _ VJ Om) ?_;rintro e VK ⟨VL, VM, rfl, VN, ex⟩;have VO := Vx.ext ex; have VP := E.ext VO; have Vt : w.heap.size ≤ VF.heap.size := Nat.le_trans E.size Vx.size; have VQ : Row VK w.heap.size 5 VL 32 VM _ := Row.lower VN Vt;refine aU ?_;refine hret rfl ?_;exact ⟨_, _, rfl, VQ, VP⟩
end Go.Proofs.YtgfafidlkldeaaaGreat
