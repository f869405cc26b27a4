/- The reference's digest of bytes, by beginnings and constants that lie in two slices: the plain function. At most 2^45 bytes. -/
import Derived.Test.YtgfafidlkldeaaaGreatShaBits
import Derived.Test.YtgfafidlkldeaaaGreatAu
set_option linter.unusedVariables false
set_option linter.unusedSimpArgs false
set_option maxHeartbeats 4000000
set_option maxRecDepth 4000
namespace Go.Proofs.YtgfafidlkldeaaaGreat
open Go.RowKit Tryz
attribute [local irreducible] Y Ef WL WC WK WQ WM cx WN WF cT
theorem Iu {w : World} {t : TypeId} {k : IntKind} (l : List Nat) (vs : Array Value) (h : vs.toList = l.map (iv k)) {n : Nat} (hn : l.length = n) : Ns k (w.alloc (.cells vs t)) (some ⟨w.heap.size, 0, none⟩) n l :=
 ⟨hn, .inr ⟨w.heap.size, 0, rfl, fun j u hu => by
  rw [Nat.zero_add, (ao.new w t vs).cell, ← Array.getElem?_toList, h]; exact hu⟩⟩
theorem dE (x n : Nat) (w : World) (hx : x < 4294967296) (hn : n ≤ 32) :
  Ct 187 #[.int .u64 (x : Int), .int .i64 (n : Int)] w fun e w' => e = .returned (.int .u64 ((Sha.cv x n : Nat) : Int)) ∧ Ext w w' := by
 refine aj 18 func187 rfl rfl rfl rfl ?_
 intro _ hret
 refine aU ?_
 refine aF (fun n' L wr => ∃ (i y : Nat), L = [(0, .int .u64 (y : Int)), (1, .int .i64 (n : Int)), (5, .int .i64 (i : Int))] ∧ n' = n - i ∧ (i ≤ n ∧ wr = w ∧ y = Sha.cv x i)) _ _ ⟨0, x, rfl, rfl, by omega, rfl, (zc x).symm⟩ Ls ?_
 rintro _ n' L wr ⟨i, y, rfl, rfl, _, hw, hy⟩ Vl
 refine aU ?_
 refine al rfl (fun Vm => ?_) (fun Vm => ?_)
 ·have hyl : y < 4294967296 := by rw [hy]; exact Sha.ba hx Om
  refine au 6 ?_
  refine ak (cY rfl rfl Om (show IntKind.u64.wrap ((y : Int).tdiv 2) = ((y / 2 : Nat) : Int) from aE rfl Om)) ?_
  refine au 1 ?_
  refine ak (cy rfl rfl Om (show ((y : Int).tmod 2) = ((y % 2 : Nat) : Int) from rfl)) ?_
  refine ak (cz rfl rfl (aE (n := y % 2 * 2147483648) Om Om)) ?_
  refine ak (aN rfl rfl (aE (n := y / 2 + y % 2 * 2147483648) Om Om)) ?_
  refine au 9 ?_
  refine ae ?_
  refine Vl _ _ ⟨i + 1, y / 2 + y % 2 * 2147483648, rfl, rfl, by omega, hw, (by rw [yN x i Om, ← hy])⟩ Om Ls
 ·refine aU ?_
  refine hret rfl ?_
  obtain rfl : i = n := by omega
  exact ⟨by rw [hy], hw ▸ Ext.refl _⟩
theorem oV (x n : Nat) (w : World) (hx : x < 4294967296) (hn : n ≤ 32) :
  Ct 188 #[.int .u64 (x : Int), .int .i64 (n : Int)] w fun e w' => e = .returned (.int .u64 ((x / 2 ^ n : Nat) : Int)) ∧ Ext w w' := by
 refine aj 14 func188 rfl rfl rfl rfl ?_
 intro _ hret
 refine aU ?_
 refine aF (fun n' L wr => ∃ (i y : Nat), L = [(0, .int .u64 (y : Int)), (1, .int .i64 (n : Int)), (5, .int .i64 (i : Int))] ∧ n' = n - i ∧ (i ≤ n ∧ wr = w ∧ y = x / 2 ^ i)) _ _ ⟨0, x, rfl, rfl, by omega, rfl, (by rw [Nat.pow_zero, Nat.div_one])⟩ Ls ?_
 rintro _ n' L wr ⟨i, y, rfl, rfl, _, hw, hy⟩ Vl
 refine aU ?_
 refine al rfl (fun Vm => ?_) (fun Vm => ?_)
 ·have hyl : y < 4294967296 := by rw [hy]; exact Nat.lt_of_le_of_lt (Nat.div_le_self _ _) hx
  refine au 6 ?_
  refine ak (cY rfl rfl Om (show IntKind.u64.wrap ((y : Int).tdiv 2) = ((y / 2 : Nat) : Int) from aE rfl Om)) ?_
  refine au 9 ?_
  refine ae ?_
  refine Vl _ _ ⟨i + 1, y / 2, rfl, rfl, by omega, hw, (by rw [hy, Nat.pow_succ, Nat.div_div_eq_div_mul])⟩ Om Ls
 ·refine aU ?_
  refine hret rfl ?_
  obtain rfl : i = n := by omega
  exact ⟨by rw [hy], hw ▸ Ext.refl _⟩
theorem Kw (v i : Nat) (h : i < 8) : UInt8.ofNat (v / 256 ^ (7 - i)) = (Sha.iR v).getD i 0 := by
 have : i = 0 ∨ i = 1 ∨ i = 2 ∨ i = 3 ∨ i = 4 ∨ i = 5 ∨ i = 6 ∨ i = 7 := by omega
 rcases this with rfl | rfl | rfl | rfl | rfl | rfl | rfl | rfl <;> simp [Sha.iR]
theorem sY (M : Lb) (k t i : Nat) (ht : t < 16) (hi : i < 4) : M.getD (64 * k + 4 * t + i) 0 = ((M.drop (64 * k)).take 64).getD (4 * t + i) 0 := by
 rw [Sha.wW _ _ _ Om, Nat.add_assoc]
theorem LZ (S : Sha.S8) (i : Nat) (h : i < 8) : S.bytes.take (4 * i) ++ Sha.pZ (S.list.getD i 0) = S.bytes.take (4 * (i + 1)) := by
 obtain ⟨a, b, c, d, e, f, g, h'⟩ := S
 have : i = 0 ∨ i = 1 ∨ i = 2 ∨ i = 3 ∨ i = 4 ∨ i = 5 ∨ i = 6 ∨ i = 7 := by omega
 rcases this with rfl | rfl | rfl | rfl | rfl | rfl | rfl | rfl <;> rfl
theorem vP {s : Sha.S8} (h : s.ok) (i : Nat) : s.list.getD i 0 < 4294967296 := by
 obtain ⟨h1, h2, h3, h4, h5, h6, h7, h8⟩ := h
 refine Sha.fB (fun x hx => ?_) i
 simp only [Sha.S8.list, List.mem_cons, List.not_mem_nil, or_false] at hx
 rcases hx with rfl | rfl | rfl | rfl | rfl | rfl | rfl | rfl <;> assumption
theorem oh (s : Sha.S8) : s.list.length = 8 := rfl
theorem OH (x : Nat) : IntKind.u8.wrap (x : Int) = ((UInt8.ofNat x).toNat : Int) := by
 rw [UInt8.toNat_ofNat']
 show ((x : Int) % 256) = _
 omega
theorem xB {a b c : Nat} (ha : a < 4294967296) (hb : b < 4294967296) (hc : c < 4294967296) : (a ^^^ b) ^^^ c < 4294967296 := Sha.fP (Sha.fP ha hb) hc
theorem xV (a b c : Nat) (ha : a < 4294967296) (hb : b < 4294967296) (hc : c < 4294967296) : bits .xor .u64 (bits .xor .u64 (a : Int) (b : Int)) (c : Int) = (((a ^^^ b) ^^^ c : Nat) : Int) := rF _ _ _ Om Om Om
theorem Cm (A A1 A2 : Oa) (n c c1 c2 : Nat) (xs : Lb) (w : World) (HA : Bs w A n xs) (hn : n ≤ 35184372088832) (HH : Ns .u64 w A1 8 Sha.H0) (VN : Ns .u64 w A2 64 Sha.K) :
  Ct 121 #[.slice A n c, .slice A1 8 c1, .slice A2 64 c2] w fun e w' => ∃ A' c', e = .returned (.slice A' 32 c') ∧ Own w' w.heap.size A' 32 c' (Sha.sum xs) ∧ Ext w w' := by
 have hxl := HA.1
 have hzl : Sha.bS n < 64 := Nat.mod_lt _ Om
 have hz : Sha.bS n = (119 - n % 64) % 64 := rfl
 obtain ⟨gK, oK, _, rfl, _, hgK, _⟩ := VN.get (i := 0) Om
 refine aj 352 func121 rfl rfl rfl rfl ?_
 intro Q hret
 refine aU ?_
 refine af (aB (z := .int .u64 0) Tn.u Kr rfl rfl rfl rfl rfl) rfl ?_
 rintro _ w1 ⟨g1, rfl, B1, VU, ex⟩
 have E1 := ex; have R1 : Row w1 w.heap.size 38 (some ⟨g1, 0, none⟩) 0 0 (([] : List Nat).map (iv .u64)) := Row.new B1 VU rfl (by unfold maxLen; omega)
 refine aU ?_
 refine af (iY rfl rfl BZ R1 (HH.ext E1).2 (by rw [List.length_map]; rfl) kO Om Om E1.size) rfl ?_
 rintro _ w2 ⟨_, ch, rfl, RH, be, gr, hl⟩
 have E2 : Ext w w2 := E1.trans be
 obtain ⟨gh, _, rfl, _, _, VV, hghl, _⟩ := RH.get (i := 0) Om
 refine aU ?_
 refine af (aB (z := .int .u8 0) Tn.u Kr rfl rfl rfl rfl rfl) rfl ?_
 rintro _ w3 ⟨g3, rfl, B3, VW, ex⟩
 have E3 := ex; have R3 : Row w3 w2.heap.size 5 (some ⟨g3, 0, none⟩) 0 0 (([] : Lb).map bv) := Row.new B3 VW rfl (by unfold maxLen; omega)
 refine aU ?_
 refine af (iY rfl rfl bF R3 (HA.wk (E2.tr E3)).2 (by rw [List.length_map, HA.1]) aH Om Om E3.size) rfl ?_
 rintro _ _ ⟨_, _, rfl, R4, be, gr, hl⟩
 have E4 := E3.trans be
 refine af (aB (z := .int .u8 0) Tn.u Kr rfl rfl rfl rfl rfl) rfl ?_
 rintro _ w5 ⟨g5, rfl, B5, Vu, ex⟩
 have E5 := E4.ext ex; have R5 := R4.ext ex
 refine af (aQ rfl rfl bF R5 (At.fT (vs := [(128 : UInt8)].map bv) (B5.congr rfl)) rfl aH Om Om E5.size) rfl ?_
 rintro _ w6 ⟨A6, c6, rfl, R6, be, gr, hl⟩
 have E6 := E5.trans be; replace R6 := R6.cat
 refine aU ?_
 refine aF (fun n' L wr => ∃ (k c8 : Nat) (A8 : Oa), L = [(0, .slice A n c), (2, .slice (some ⟨gK, oK, none⟩) 64 c2), (7, .slice (some ⟨gh, 0, none⟩) 8 ch), (8, .slice A8 (n + 1 + k) c8)] ∧ n' = Sha.bS n - k ∧ (k ≤ Sha.bS n ∧ Ext w2 wr ∧ Row wr w2.heap.size 5 A8 (n + 1 + k) c8 ((xs ++ 128 :: List.replicate k 0).map bv))) _ _ ⟨0, c6, A6, rfl, rfl, by omega, E6, R6⟩ Ls ?_
 rintro _ n' L wr ⟨k, c8, A8, rfl, rfl, hk, E, R⟩ VX
 refine au 5 ?_
 refine ak (cy rfl rfl Om (show (((n + 1 + k : Nat) : Int).tmod 64) = (((n + 1 + k) % 64 : Nat) : Int) from rfl)) ?_
 refine aU ?_
 refine al rfl (fun VY => ?_) (fun VY => ?_)
 ·have hkz : k < Sha.bS n := by omega
  refine aU ?_
  refine af (aB (z := .int .u8 0) Tn.u Kr rfl rfl rfl rfl rfl) rfl ?_
  rintro _ w7 ⟨g7, rfl, B7, VO, ex⟩
  have E7 := E.ext ex; have R7 := R.ext ex
  refine af (aQ rfl rfl bF R7 (At.fT (vs := [(0 : UInt8)].map bv) (B7.congr rfl)) rfl aH Om Om E7.size) rfl ?_
  rintro _ w8 ⟨A9, c9, rfl, R8, be, gr, hl⟩
  have E8 := E7.trans be; replace R8 := R8.cat
  refine au 3 ?_
  refine ae ?_
  refine VX _ _ ⟨k + 1, c9, A9, rfl, rfl, by omega, E8, (by rw [List.append_assoc, List.cons_append, ← List.replicate_succ'] at R8; exact R8)⟩ Om Ls
 ·obtain rfl : k = Sha.bS n := by omega
  obtain ⟨tl, htl⟩ : ∃ l, l = Sha.iR (n * 8) := ⟨_, rfl⟩
  have htll : tl.length = 8 := by rw [htl]; rfl
  refine au 9 ?_
  refine ak (bg rfl Tn.u Tn.u (c := (n : Int)) (show IntKind.u64.wrap (n : Int) = (n : Int) from aE rfl Om)) ?_
  refine ak (cz rfl rfl (aE (n := n * 8) Om Om)) ?_
  refine aU ?_
  refine aF (fun n' L wr => ∃ (i c6 : Nat) (A6 : Oa), L = [(2, .slice (some ⟨gK, oK, none⟩) 64 c2), (7, .slice (some ⟨gh, 0, none⟩) 8 ch), (8, .slice A6 (n + 1 + Sha.bS n + i) c6), (9, .int .u64 ((n * 8 : Nat) : Int)), (10, .int .i64 (i : Int))] ∧ n' = 8 - i ∧ (i ≤ 8 ∧ Ext w2 wr ∧ Row wr w2.heap.size 5 A6 (n + 1 + Sha.bS n + i) c6 ((xs ++ 128 :: List.replicate (Sha.bS n) 0 ++ tl.take i).map bv))) _ _ ⟨0, c8, A8, rfl, rfl, by omega, E, (by rw [List.take_zero, List.append_nil]; exact R)⟩ Ls ?_
  rintro _ n' L wr ⟨i, c6, A6, rfl, rfl, hi, E, R⟩ VZ
  refine aU ?_
  refine al rfl (fun V0 => ?_) (fun V0 => ?_)
  ·refine aU ?_
   refine aF (fun n' L wq => ∃ k : Nat, L = [(2, .slice (some ⟨gK, oK, none⟩) 64 c2), (7, .slice (some ⟨gh, 0, none⟩) 8 ch), (8, .slice A6 (n + 1 + Sha.bS n + i) c6), (9, .int .u64 ((n * 8 : Nat) : Int)), (10, .int .i64 (i : Int)), (11, .int .u64 ((256 ^ k : Nat) : Int)), (12, .int .i64 (k : Int))] ∧ n' = 7 - i - k ∧ (k ≤ 7 - i ∧ wq = wr)) _ _ ⟨0, rfl, rfl, by omega, rfl⟩ Ls ?_
   rintro _ n' L wq ⟨k, rfl, rfl, hk, hwq⟩ V1
   refine au 5 ?_
   refine ak (eK rfl rfl (bk (n := 7 - i) Om Om)) ?_
   refine aU ?_
   refine al rfl (fun V2 => ?_) (fun V2 => ?_)
   ·have hpw : 256 ^ (k + 1) ≤ 72057594037927936 := Nat.pow_le_pow_right (n := 256) Om (show k + 1 ≤ 7 by omega)
    refine au 6 ?_
    refine ak (cz rfl rfl (aE (n := 256 ^ (k + 1)) (by rw [Nat.pow_succ]; exact (Int.natCast_mul _ _).symm) Om)) ?_
    refine au 9 ?_
    refine ae ?_
    refine V1 _ _ ⟨k + 1, rfl, rfl, by omega, hwq⟩ Om Ls
   ·refine au 5 ?_
    obtain rfl : k = 7 - i := by omega
    subst hwq
    obtain ⟨u, hu⟩ : ∃ u, u = 256 ^ (7 - i) := ⟨_, rfl⟩
    have VA : 0 < u := by rw [hu]; exact Nat.pow_pos Om
    have hqd := Nat.div_le_self (n * 8) u
    rw [← hu]
    refine au 4 ?_
    refine ak (cY rfl rfl Om (show IntKind.u64.wrap (((n * 8 : Nat) : Int).tdiv (u : Int)) = ((n * 8 / u : Nat) : Int) from aE rfl Om)) ?_
    refine ak (cy rfl rfl Om (show (((n * 8 / u : Nat) : Int).tmod 256) = ((n * 8 / u % 256 : Nat) : Int) from rfl)) ?_
    refine ak (bg rfl Tn.u Tn.u (Mt _)) ?_
    refine af (aB (z := .int .u8 0) Tn.u Kr rfl rfl rfl rfl rfl) rfl ?_
    rintro _ w7 ⟨g7, rfl, B7, VO, ex⟩
    have E7 := E.ext ex; have R7 := R.ext ex
    refine af (aQ rfl rfl bF R7 (At.fT (vs := [UInt8.ofNat (n * 8 / u)].map bv) (B7.congr rfl)) rfl aH Om Om E7.size) rfl ?_
    rintro _ w8 ⟨A9, c9, rfl, R8, be, gr, hl⟩
    have E8 := E7.trans be; replace R8 := R8.cat; rw [hu, Kw _ _ Om, ← htl, List.append_assoc _ (List.take i _), vO _ _ _ Om] at R8
    refine au 9 ?_
    refine ae ?_
    refine VZ _ _ ⟨i + 1, c9, A9, rfl, rfl, by omega, E8, R8⟩ Om Ls
  ·refine au 7 ?_
   obtain rfl : i = 8 := by omega
   obtain ⟨M, hM⟩ : ∃ M, M = xs ++ Sha.pad n := ⟨_, rfl⟩
   have hMr : xs ++ 128 :: List.replicate (Sha.bS n) 0 ++ tl.take 8 = M := by rw [List.take_of_length_le Om, hM, htl]; simp [Sha.pad]
   rw [hMr] at R
   obtain ⟨nM, hnM⟩ : ∃ q, q = n + 1 + Sha.bS n + 8 := ⟨_, rfl⟩
   rw [← hnM] at R ⊢
   have hMl : M.length = nM := by have := R.len; simpa using this
   obtain ⟨gM, _, rfl, _, _, V4, hgMl, _⟩ := R.get (i := 0) Om
   have HM := R.bs
   have V5 := RH.ext E
   have Ew := E2.tr E
   refine aU ?_
   refine aF (fun n' L wa => ∃ k : Nat, L = [(2, .slice (some ⟨gK, oK, none⟩) 64 c2), (7, .slice (some ⟨gh, 0, none⟩) 8 ch), (8, .slice (some ⟨gM, 0, none⟩) nM c6), (13, .int .i64 ((64 * k : Nat) : Int))] ∧ n' = nM + 64 - 64 * k ∧ (64 * k ≤ nM ∧ wr.grownBy wa (some gh) ∧ Row wa w.heap.size 38 (some ⟨gh, 0, none⟩) 8 ch ((Sha.blocks Sha.IV M k).list.map (iv .u64)))) _ _ ⟨0, rfl, rfl, by omega, World.grownBy.refl _ _, V5⟩ Ls ?_
   rintro _ n' L wa ⟨k, rfl, rfl, hk, G, Vr⟩ V6
   refine aU ?_
   refine al rfl (fun Wa => ?_) (fun Wa => ?_)
   ·have hMm : nM % 64 = 0 := by rw [← hMl, hM, List.length_append, hxl]; exact Sha.iP n
    have HMa : Bs wa (some ⟨gM, 0, none⟩) nM M := HM.grown G (by intro b o e; injection e with e; injection e; omega)
    have HKa : Ns .u64 wa (some ⟨gK, oK, none⟩) 64 Sha.K := (VN.ext Ew).Ay G (by intro o e; injection e with e; injection e; omega)
    obtain ⟨bl, hbl⟩ : ∃ l, l = (M.drop (64 * k)).take 64 := ⟨_, rfl⟩
    obtain ⟨S, hS⟩ : ∃ s, s = Sha.blocks Sha.IV M k := ⟨_, rfl⟩
    have hSok : S.ok := by rw [hS]; exact Sha.jK Sha.rE _ _
    rw [← hS] at Vr
    have hgha := (Row.lt Vr).2
    refine aU ?_
    refine aF (fun n' L wb => ∃ (t Vs : Nat) (Vw : Oa), L = [(2, .slice (some ⟨gK, oK, none⟩) 64 c2), (7, .slice (some ⟨gh, 0, none⟩) 8 ch), (8, .slice (some ⟨gM, 0, none⟩) nM c6), (13, .int .i64 ((64 * k : Nat) : Int)), (14, .slice Vw t Vs), (15, .int .i64 (t : Int))] ∧ n' = 64 - t ∧ (t ≤ 64 ∧ Ext wa wb ∧ Row wb wa.heap.size 38 Vw t Vs ((Sha.wt bl t).map (iv .u64)))) _ _ ⟨0, 0, none, rfl, rfl, by omega, Ext.refl _, Row.empty _ _ _⟩ Ls ?_
    rintro _ n' L wb ⟨t, Vs, Vw, rfl, rfl, ht, F, R⟩ VP
    refine aU ?_
    refine al rfl (fun Wb => ?_) (fun Wb => ?_)
    ·refine aU ?_
     refine al rfl (fun Wc => ?_) (fun Wc => ?_)
     ·refine aU ?_
      refine aF (fun n' L wc => ∃ i : Nat, L = [(2, .slice (some ⟨gK, oK, none⟩) 64 c2), (7, .slice (some ⟨gh, 0, none⟩) 8 ch), (8, .slice (some ⟨gM, 0, none⟩) nM c6), (13, .int .i64 ((64 * k : Nat) : Int)), (14, .slice Vw t Vs), (15, .int .i64 (t : Int)), (16, .int .u64 ((Sha.pre bl t i : Nat) : Int)), (17, .int .i64 (i : Int))] ∧ n' = 4 - i ∧ (i ≤ 4 ∧ wc = wb)) _ _ ⟨0, rfl, rfl, by omega, rfl⟩ Ls ?_
      rintro _ n' L wc ⟨i, rfl, rfl, hi, hwc⟩ We
      refine aU ?_
      refine al rfl (fun Wf => ?_) (fun Wf => ?_)
      ·subst hwc
       have hpl := Sha.sI bl t i
       have hpp : 256 ^ i ≤ 16777216 := Nat.pow_le_pow_right (n := 256) Om (show i ≤ 3 by omega)
       have hbyte := (bl.getD (4 * t + i) 0).toNat_lt
       refine au 6 ?_
       refine ak (cz rfl rfl (aE (n := 256 * Sha.pre bl t i) Om Om)) ?_
       refine au 3 ?_
       refine ak (cz rfl rfl (bk (n := 4 * t) Om Om)) ?_
       refine ak (aN rfl rfl (bk (n := 64 * k + 4 * t) Om Om)) ?_
       refine au 1 ?_
       refine ak (aN rfl rfl (bk (n := 64 * k + 4 * t + i) Om Om)) ?_
       refine ak (aD rfl rfl Tn.u Kr (j := 64 * k + 4 * t + i) rfl Om) ?_
       refine ak (ah rfl Tn.u rfl (show _ = some (.int .u8 ((bl.getD (4 * t + i) 0).toNat : Int)) from by rw [hbl, ← sY _ _ _ _ Om Om]; exact (HMa.wk F).cellAt Om)) ?_
       refine ak (bg rfl Tn.u Tn.u (aE rfl Om)) ?_
       refine ak (aN rfl rfl (aE (n := 256 * Sha.pre bl t i + (bl.getD (4 * t + i) 0).toNat) Om Om)) ?_
       refine au 9 ?_
       refine ae ?_
       refine We _ _ ⟨i + 1, rfl, rfl, by omega, rfl⟩ Om Ls
      ·obtain rfl : i = 4 := by omega
       subst hwc
       have hwt : Sha.wt bl t ++ [Sha.pre bl t 4] = Sha.wt bl (t + 1) := by rw [Sha.By]; exact (Sha.Lc Om).symm
       refine aU ?_
       refine af (aB (z := .int .u64 0) Tn.u Kr rfl rfl rfl rfl rfl) rfl ?_
       rintro _ w5 ⟨g5, rfl, B5, Vu, ex⟩
       have R5 := R.ext ex; have F5 := F.ext ex; have VB := F5.size
       refine af (aQ rfl rfl BZ R5 (At.fT (vs := [Sha.pre bl t 4].map (iv .u64)) (B5.congr rfl)) rfl kO Om Om VB) rfl ?_
       rintro _ w6 ⟨A6, c7, rfl, R6, be, gr, hl⟩
       have F6 := F5.trans be; have R7 := R6.N8; rw [hwt] at R7
       refine au 12 ?_
       refine ae ?_
       refine VP _ _ ⟨t + 1, c7, A6, rfl, rfl, by omega, F6, R7⟩ Om Ls
     ·refine au 3 ?_
      obtain ⟨VC, _, rfl, _, _, _, _, _⟩ := R.get (i := 0) Om
      have Hw := Ns.kD R
      have hlt : ∀ j, (Sha.wt bl t).getD j 0 < 4294967296 := Sha.fB (Sha.Ce bl t)
      obtain ⟨Vm, Vv⟩ : ∃ v, v = (Sha.wt bl t).getD (t - 15) 0 := ⟨_, rfl⟩
      obtain ⟨v2, e2⟩ : ∃ v, v = (Sha.wt bl t).getD (t - 2) 0 := ⟨_, rfl⟩
      obtain ⟨v7, e7⟩ : ∃ v, v = (Sha.wt bl t).getD (t - 7) 0 := ⟨_, rfl⟩
      obtain ⟨VQ, VD⟩ : ∃ v, v = (Sha.wt bl t).getD (t - 16) 0 := ⟨_, rfl⟩
      have Vn := hlt (t - 15); have l2 := hlt (t - 2); have l7 := hlt (t - 7); have Wg := hlt (t - 16)
      rw [← Vv] at Vn; rw [← e2] at l2; rw [← e7] at l7; rw [← VD] at Wg
      have d15 : Vm / 2 ^ 3 < 4294967296 := Nat.lt_of_le_of_lt (Nat.div_le_self _ _) Vn
      have d2 : v2 / 2 ^ 10 < 4294967296 := Nat.lt_of_le_of_lt (Nat.div_le_self _ _) l2
      have q0 := xB (Sha.ba Vn (show 7 ≤ 32 by omega)) (Sha.ba Vn (show 18 ≤ 32 by omega)) d15
      have q1 := xB (Sha.ba l2 (show 17 ≤ 32 by omega)) (Sha.ba l2 (show 19 ≤ 32 by omega)) d2
      obtain ⟨Z, hZ⟩ : ∃ Z, Z = ((Sha.cv v2 17 ^^^ Sha.cv v2 19) ^^^ (v2 / 2 ^ 10)) + v7 + ((Sha.cv Vm 7 ^^^ Sha.cv Vm 18) ^^^ (Vm / 2 ^ 3)) + VQ := ⟨_, rfl⟩
      have hZn : Z % 4294967296 = Sha.gF (Sha.wt bl t) (t - 16) := by
       unfold Sha.gF
       rw [show t - 16 + 14 = t - 2 from by omega, show t - 16 + 9 = t - 7 from by omega, show t - 16 + 1 = t - 15 from by omega, ← e2, ← e7, ← Vv, ← VD, hZ]
       rfl
      refine aA Kr 21 rfl ?_; intro Wh ex Wi
      obtain ⟨F,R,Hw⟩ := bC ex F R Hw
      refine zm [0, 1, 2] ?_
      refine my 3 rfl (aD rfl rfl Tn.u Kr (j := t - 15) Om Om) ?_
      refine my 4 rfl (ah rfl Tn.u rfl (show _ = some (.int .u64 ((Vm : Nat) : Int)) from by rw [Vv]; exact Hw.cellAt Om)) ?_
      refine zm [6, 7, 8] ?_
      refine my 9 rfl (aD rfl rfl Tn.u Kr (j := t - 15) Om Om) ?_
      refine my 10 rfl (ah rfl Tn.u rfl (show _ = some (.int .u64 ((Vm : Nat) : Int)) from by rw [Vv]; exact Hw.cellAt Om)) ?_
      refine zm [13, 14, 15] ?_
      refine my 16 rfl (aD rfl rfl Tn.u Kr (j := t - 15) Om Om) ?_
      refine my 17 rfl (ah rfl Tn.u rfl (show _ = some (.int .u64 ((Vm : Nat) : Int)) from by rw [Vv]; exact Hw.cellAt Om)) ?_
      refine bm 5 rfl func187 rfl (dE Vm 7 _ Vn Om) ?_
      rintro e w9 ⟨rfl, ex⟩
      refine aU ?_
      obtain ⟨F,R,Hw⟩ := bC ex F R Hw
      refine bm 11 rfl func187 rfl (dE Vm 18 _ Vn Om) ?_
      rintro e w9 ⟨rfl, ex⟩
      refine aU ?_
      obtain ⟨F,R,Hw⟩ := bC ex F R Hw
      refine my 12 rfl (bJ rfl rfl rfl) ?_
      refine bm 18 rfl func188 rfl (oV Vm 3 _ Vn Om) ?_
      rintro e w9 ⟨rfl, ex⟩
      refine aU ?_
      obtain ⟨F,R,Hw⟩ := bC ex F R Hw
      refine my 19 rfl (bJ rfl rfl (xV _ _ _ (Sha.ba Vn Om) (Sha.ba Vn Om) d15)) ?_
      refine zm [20] ?_
      refine aA Kr 21 rfl ?_; intro Wj ex Wk
      obtain ⟨F,R,Hw⟩ := bC ex F R Hw
      refine zm [0, 1, 2] ?_
      refine my 3 rfl (aD rfl rfl Tn.u Kr (j := t - 2) Om Om) ?_
      refine my 4 rfl (ah rfl Tn.u rfl (show _ = some (.int .u64 ((v2 : Nat) : Int)) from by rw [e2]; exact Hw.cellAt Om)) ?_
      refine zm [6, 7, 8] ?_
      refine my 9 rfl (aD rfl rfl Tn.u Kr (j := t - 2) Om Om) ?_
      refine my 10 rfl (ah rfl Tn.u rfl (show _ = some (.int .u64 ((v2 : Nat) : Int)) from by rw [e2]; exact Hw.cellAt Om)) ?_
      refine zm [13, 14, 15] ?_
      refine my 16 rfl (aD rfl rfl Tn.u Kr (j := t - 2) Om Om) ?_
      refine my 17 rfl (ah rfl Tn.u rfl (show _ = some (.int .u64 ((v2 : Nat) : Int)) from by rw [e2]; exact Hw.cellAt Om)) ?_
      refine bm 5 rfl func187 rfl (dE v2 17 _ l2 Om) ?_
      rintro e w9 ⟨rfl, ex⟩
      refine aU ?_
      obtain ⟨F,R,Hw⟩ := bC ex F R Hw
      refine bm 11 rfl func187 rfl (dE v2 19 _ l2 Om) ?_
      rintro e w9 ⟨rfl, ex⟩
      refine aU ?_
      obtain ⟨F,R,Hw⟩ := bC ex F R Hw
      refine my 12 rfl (bJ rfl rfl rfl) ?_
      refine bm 18 rfl func188 rfl (oV v2 10 _ l2 Om) ?_
      rintro e w9 ⟨rfl, ex⟩
      refine aU ?_
      obtain ⟨F,R,Hw⟩ := bC ex F R Hw
      refine my 19 rfl (bJ rfl rfl (xV _ _ _ (Sha.ba l2 Om) (Sha.ba l2 Om) d2)) ?_
      refine zm [20] ?_
      refine aA Kr 20 rfl ?_; intro Wl ex Wm
      obtain ⟨F,R,Hw⟩ := bC ex F R Hw
      refine zm [0, 1, 2, 3, 4] ?_
      refine cU 5 rfl (fun _ => aD rfl rfl Tn.u Kr (j := t - 7) Om Om) ?_
      refine my 6 rfl (ah rfl Tn.u rfl (show _ = some (.int .u64 ((v7 : Nat) : Int)) from by rw [e7]; exact Hw.cellAt Om)) ?_
      refine cU 7 rfl (fun _ => aN rfl rfl rfl) ?_
      refine zm [8] ?_
      refine cU 9 rfl (fun _ => aN rfl rfl rfl) ?_
      refine zm [10, 11, 12] ?_
      refine cU 13 rfl (fun _ => aD rfl rfl Tn.u Kr (j := t - 16) Om Om) ?_
      refine my 14 rfl (ah rfl Tn.u rfl (show _ = some (.int .u64 ((VQ : Nat) : Int)) from by rw [VD]; exact Hw.cellAt Om)) ?_
      refine cU 15 rfl (fun _ => Y.as (aN rfl rfl rfl) (congrArg (Value.int .u64) (show _ = ((Z : Nat) : Int) from by rw [ig, ig, ig, hZ]; omega))) ?_
      refine cU 16 rfl (fun _ => cy rfl rfl Om (show ((Z : Int).tmod 4294967296) = ((Sha.gF (Sha.wt bl t) (t - 16) : Nat) : Int) from by rw [← hZn]; rfl)) ?_
      have hwt : Sha.wt bl t ++ [Sha.gF (Sha.wt bl t) (t - 16)] = Sha.wt bl (t + 1) := (Sha.rV Om).symm
      refine aM 17 Kr ?_; refine aO rfl (aB (z := .int .u64 0) Tn.u Kr rfl rfl rfl rfl rfl) rfl ?_
      rintro _ w5 ⟨g5, rfl, B5, Vu, ex⟩
      refine ⟨.inr ex, ?_⟩
      have R5 := R.ext ex; have F5 := F.ext ex; have VB := F5.size
      refine aM 18 Kr ?_; refine aO rfl (aQ rfl rfl BZ R5 (At.fT (vs := [Sha.gF (Sha.wt bl t) (t - 16)].map (iv .u64)) (B5.congr rfl)) rfl kO Om Om VB) rfl ?_
      rintro _ w6 ⟨A6, c7, rfl, R6, be, gr, hl⟩
      refine ⟨.inl rfl, ?_⟩
      have F6 := F5.trans be; have R7 := R6.N8; rw [hwt] at R7
      refine Cc [19] ?_
      refine au 11 ?_
      refine ae ?_
      refine VP _ _ ⟨t + 1, c7, A6, rfl, rfl, by omega, F6, R7⟩ Om Ls
    ·obtain rfl : t = 64 := by omega
     rw [Sha.oF] at R
     obtain ⟨VC, _, rfl, _, _, _, _, _⟩ := R.get (i := 0) Om
     have Hw := Ns.kD R
     have Hh := (Ns.kD Vr).ext F
     refine aU ?_
     refine af (aB (z := .int .u64 0) Tn.u Kr rfl rfl rfl rfl rfl) rfl ?_
     rintro _ w5 ⟨g5, rfl, B5, Vu, ex⟩
     have x5 := ex; have R5 : Row w5 wb.heap.size 38 (some ⟨g5, 0, none⟩) 0 0 (([] : List Nat).map (iv .u64)) := Row.new B5 Vu rfl (by unfold maxLen; omega)
     refine aU ?_
     refine af (iY rfl rfl BZ R5 (Hh.ext x5).2 (by rw [List.length_map, oh]) kO Om Om x5.size) rfl ?_
     rintro _ w6 ⟨Vo, Vt, rfl, VR, be, gr, hl⟩
     have x6 : Ext wb w6 := x5.trans be
     refine aU ?_
     have WT := F.size
     refine aF (fun n' L wd => ∃ (t Vt : Nat) (Vo : Oa), L = [(2, .slice (some ⟨gK, oK, none⟩) 64 c2), (7, .slice (some ⟨gh, 0, none⟩) 8 ch), (8, .slice (some ⟨gM, 0, none⟩) nM c6), (13, .int .i64 ((64 * k : Nat) : Int)), (14, .slice (some ⟨VC, 0, none⟩) 64 Vs), (20, .slice Vo 8 Vt), (21, .int .i64 (t : Int))] ∧ n' = 64 - t ∧ (t ≤ 64 ∧ Ext wb wd ∧ Ns .u64 wd Vo 8 (Sha.rounds (Sha.words bl) S t).list ∧ (∀ o, Vo ≠ some ⟨gh, o, none⟩))) _ _ ⟨0, Vt, Vo, rfl, rfl, by omega, x6, Ns.kD VR, (fun o e => by have := I0 VR gh o e; omega)⟩ Ls ?_
     rintro _ n' L wd ⟨t, Vt, Vo, rfl, rfl, ht, X, HV, hfar⟩ Wn
     refine aU ?_
     refine al rfl (fun Wo => ?_) (fun Wo => ?_)
     ·obtain ⟨VE, VF, _, rfl, _⟩ := HV.cell (i := 0) Om
      obtain ⟨Q, hQ⟩ : ∃ Q, Q = Sha.rounds (Sha.words bl) S t := ⟨_, rfl⟩
      have hok : Q.ok := by rw [hQ]; exact Sha.fZ _ hSok _
      rw [← hQ] at HV
      obtain ⟨a, b, cc, d, e, f, gg, hh⟩ := Q
      obtain ⟨la, lb, lc, ld, le, lf, lg, lh⟩ := hok
      obtain ⟨C, hC⟩ : ∃ C, C = Sha.ch e f gg := ⟨_, rfl⟩
      obtain ⟨J, hJ⟩ : ∃ C, C = Sha.zP a b cc := ⟨_, rfl⟩
      have hCl : C < 4294967296 := by rw [hC]; exact Sha.L9 le
      have hJl : J < 4294967296 := by rw [hJ]; exact Sha.Kf la lb
      refine aU ?_
      refine aF (fun n' L we => ∃ (i u : Nat), L = [(2, .slice (some ⟨gK, oK, none⟩) 64 c2), (7, .slice (some ⟨gh, 0, none⟩) 8 ch), (8, .slice (some ⟨gM, 0, none⟩) nM c6), (13, .int .i64 ((64 * k : Nat) : Int)), (14, .slice (some ⟨VC, 0, none⟩) 64 Vs), (20, .slice (some ⟨VE, VF, none⟩) 8 Vt), (21, .int .i64 (t : Int)), (22, .int .u64 ((C % u : Nat) : Int)), (23, .int .u64 ((J % u : Nat) : Int)), (24, .int .u64 (u : Int)), (25, .int .i64 (i : Int))] ∧ n' = 32 - i ∧ (i ≤ 32 ∧ u = 2 ^ i ∧ Ext wb we ∧ Ns .u64 we (some ⟨VE, VF, none⟩) 8 [a, b, cc, d, e, f, gg, hh])) _ _ ⟨0, 1, rfl, rfl, by omega, rfl, X, HV⟩ Ls ?_
      rintro _ n' L we ⟨i, u, rfl, rfl, hi, hu, X, HV⟩ Vx
      refine aU ?_
      refine al rfl (fun Wq => ?_) (fun Wq => ?_)
      ·have hul : u ≤ 2147483648 := by rw [hu]; exact Nat.le_trans (Nat.pow_le_pow_right Om (show i ≤ 31 by omega)) (Nat.le_refl _)
       have VA : 0 < u := by rw [hu]; exact Nat.two_pow_pos i
       have hun : 2 * u = 2 ^ (i + 1) := by rw [Nat.pow_succ, ← hu, Nat.mul_comm]
       have hCm := Nat.mod_lt C VA
       have hJm := Nat.mod_lt J VA
       have hfu := xH (f / u) u
       have hgu := xH (gg / u) u
       refine au 8 ?_
       refine ak (aD rfl rfl Tn.u Kr (j := 4) rfl Om) ?_
       refine ak (ah rfl Tn.u rfl (HV.cellAt (i := 4) Om)) ?_
       refine au 1 ?_
       refine ak (cY rfl rfl Om (show IntKind.u64.wrap ((e : Int).tdiv u) = ((e / u : Nat) : Int) from aE rfl (Nat.lt_of_le_of_lt (Nat.div_le_self _ _) (Nat.lt_trans le Om)))) ?_
       refine ak (cy rfl rfl Om (show (((e / u : Nat) : Int).tmod 2) = ((e / u % 2 : Nat) : Int) from rfl)) ?_
       refine aU ?_
       refine al rfl (fun Vp => ?_) (fun Vp => ?_)
       ·refine au 3 ?_
        refine ak (aD rfl rfl Tn.u Kr (j := 5) rfl Om) ?_
        refine ak (ah rfl Tn.u rfl (HV.cellAt (i := 5) Om)) ?_
        refine au 1 ?_
        refine ak (cY rfl rfl Om (show IntKind.u64.wrap ((f : Int).tdiv u) = ((f / u : Nat) : Int) from aE rfl (Nat.lt_of_le_of_lt (Nat.div_le_self _ _) (Nat.lt_trans lf Om)))) ?_
        refine ak (cy rfl rfl Om (show (((f / u : Nat) : Int).tmod 2) = ((f / u % 2 : Nat) : Int) from rfl)) ?_
        refine au 1 ?_
        refine ak (cz rfl rfl (aE (n := f / u % 2 * u) (Int.natCast_mul _ _).symm Om)) ?_
        refine ak (aN rfl rfl (aE (n := C % u + f / u % 2 * u) Om Om)) ?_
        refine au 5 ?_
        have VG : e / u % 2 = 1 := by exact_mod_cast Vp
        have hCn : C % u + f / u % 2 * u = C % (2 * u) := by
         rw [hun, hC, Sha.Bt le Om (by rw [← hu]; exact VG), hu]
        refine aA Kr 21 rfl ?_; intro VH ex VI
        obtain ⟨X,HV⟩ := aY ex X HV
        refine zm [0] ?_
        refine my 1 rfl (aD rfl rfl Tn.u Kr (j := 0) rfl Om) ?_
        refine my 2 rfl (ah rfl Tn.u rfl (HV.cellAt (i := 0) Om)) ?_
        refine zm [3] ?_
        refine my 4 rfl (cY rfl rfl Om (show IntKind.u64.wrap ((a : Int).tdiv u) = ((a / u : Nat) : Int) from aE rfl (Nat.lt_of_le_of_lt (Nat.div_le_self _ _) (Nat.lt_trans la Om)))) ?_
        refine my 5 rfl (cy rfl rfl Om (show (((a / u : Nat) : Int).tmod 2) = ((a / u % 2 : Nat) : Int) from rfl)) ?_
        refine zm [6] ?_
        refine my 7 rfl (aD rfl rfl Tn.u Kr (j := 1) rfl Om) ?_
        refine my 8 rfl (ah rfl Tn.u rfl (HV.cellAt (i := 1) Om)) ?_
        refine zm [9] ?_
        refine my 10 rfl (cY rfl rfl Om (show IntKind.u64.wrap ((b : Int).tdiv u) = ((b / u : Nat) : Int) from aE rfl (Nat.lt_of_le_of_lt (Nat.div_le_self _ _) (Nat.lt_trans lb Om)))) ?_
        refine my 11 rfl (cy rfl rfl Om (show (((b / u : Nat) : Int).tmod 2) = ((b / u % 2 : Nat) : Int) from rfl)) ?_
        refine my 12 rfl (aN rfl rfl (aE (n := a / u % 2 + b / u % 2) Om Om)) ?_
        refine zm [13] ?_
        refine my 14 rfl (aD rfl rfl Tn.u Kr (j := 2) rfl Om) ?_
        refine my 15 rfl (ah rfl Tn.u rfl (HV.cellAt (i := 2) Om)) ?_
        refine zm [16] ?_
        refine my 17 rfl (cY rfl rfl Om (show IntKind.u64.wrap ((cc : Int).tdiv u) = ((cc / u : Nat) : Int) from aE rfl (Nat.lt_of_le_of_lt (Nat.div_le_self _ _) (Nat.lt_trans lc Om)))) ?_
        refine my 18 rfl (cy rfl rfl Om (show (((cc / u : Nat) : Int).tmod 2) = ((cc / u % 2 : Nat) : Int) from rfl)) ?_
        refine my 19 rfl (aN rfl rfl (aE (n := a / u % 2 + b / u % 2 + cc / u % 2) Om Om)) ?_
        refine zm [20] ?_
        refine al rfl (fun Vl => ?_) (fun Vl => ?_)
        ·refine au 3 ?_
         refine ak (aN rfl rfl (aE (n := J % u + u) Om Om)) ?_
         have Vq : 2 ≤ a / u % 2 + b / u % 2 + cc / u % 2 := by exact_mod_cast Vl
         have hJn : J % u + u = J % (2 * u) := by
          rw [hun, hJ, Sha.qP (by rw [← hu]; exact Vq), hu]
         refine au 5 ?_
         refine ak (cz rfl rfl (aE (n := 2 * u) Om Om)) ?_
         refine au 9 ?_
         refine ae ?_
         refine Vx _ _ ⟨i + 1, 2 * u, rfl, rfl, by omega, hun, X, HV⟩ Om Ls
        ·have Vq : ¬ 2 ≤ a / u % 2 + b / u % 2 + cc / u % 2 := fun h => Vl (by exact_mod_cast h)
         have hJn : J % u = J % (2 * u) := by
          rw [hun, hJ, Sha.rD (by rw [← hu]; exact Vq), hu]
         refine au 4 ?_
         refine ak (cz rfl rfl (aE (n := 2 * u) Om Om)) ?_
         refine au 9 ?_
         refine ae ?_
         refine Vx _ _ ⟨i + 1, 2 * u, rfl, rfl, by omega, hun, X, HV⟩ Om Ls
       ·refine au 3 ?_
        refine ak (aD rfl rfl Tn.u Kr (j := 6) rfl Om) ?_
        refine ak (ah rfl Tn.u rfl (HV.cellAt (i := 6) Om)) ?_
        refine au 1 ?_
        refine ak (cY rfl rfl Om (show IntKind.u64.wrap ((gg : Int).tdiv u) = ((gg / u : Nat) : Int) from aE rfl (Nat.lt_of_le_of_lt (Nat.div_le_self _ _) (Nat.lt_trans lg Om)))) ?_
        refine ak (cy rfl rfl Om (show (((gg / u : Nat) : Int).tmod 2) = ((gg / u % 2 : Nat) : Int) from rfl)) ?_
        refine au 1 ?_
        refine ak (cz rfl rfl (aE (n := gg / u % 2 * u) (Int.natCast_mul _ _).symm Om)) ?_
        refine ak (aN rfl rfl (aE (n := C % u + gg / u % 2 * u) Om Om)) ?_
        refine au 5 ?_
        have VG : ¬ e / u % 2 = 1 := fun h => Vp (by exact_mod_cast h)
        have hCn : C % u + gg / u % 2 * u = C % (2 * u) := by
         rw [hun, hC, Sha.AQ le Om (by rw [← hu]; exact VG), hu]
        refine aA Kr 21 rfl ?_; intro VH ex VI
        obtain ⟨X,HV⟩ := aY ex X HV
        refine zm [0] ?_
        refine my 1 rfl (aD rfl rfl Tn.u Kr (j := 0) rfl Om) ?_
        refine my 2 rfl (ah rfl Tn.u rfl (HV.cellAt (i := 0) Om)) ?_
        refine zm [3] ?_
        refine my 4 rfl (cY rfl rfl Om (show IntKind.u64.wrap ((a : Int).tdiv u) = ((a / u : Nat) : Int) from aE rfl (Nat.lt_of_le_of_lt (Nat.div_le_self _ _) (Nat.lt_trans la Om)))) ?_
        refine my 5 rfl (cy rfl rfl Om (show (((a / u : Nat) : Int).tmod 2) = ((a / u % 2 : Nat) : Int) from rfl)) ?_
        refine zm [6] ?_
        refine my 7 rfl (aD rfl rfl Tn.u Kr (j := 1) rfl Om) ?_
        refine my 8 rfl (ah rfl Tn.u rfl (HV.cellAt (i := 1) Om)) ?_
        refine zm [9] ?_
        refine my 10 rfl (cY rfl rfl Om (show IntKind.u64.wrap ((b : Int).tdiv u) = ((b / u : Nat) : Int) from aE rfl (Nat.lt_of_le_of_lt (Nat.div_le_self _ _) (Nat.lt_trans lb Om)))) ?_
        refine my 11 rfl (cy rfl rfl Om (show (((b / u : Nat) : Int).tmod 2) = ((b / u % 2 : Nat) : Int) from rfl)) ?_
        refine my 12 rfl (aN rfl rfl (aE (n := a / u % 2 + b / u % 2) Om Om)) ?_
        refine zm [13] ?_
        refine my 14 rfl (aD rfl rfl Tn.u Kr (j := 2) rfl Om) ?_
        refine my 15 rfl (ah rfl Tn.u rfl (HV.cellAt (i := 2) Om)) ?_
        refine zm [16] ?_
        refine my 17 rfl (cY rfl rfl Om (show IntKind.u64.wrap ((cc : Int).tdiv u) = ((cc / u : Nat) : Int) from aE rfl (Nat.lt_of_le_of_lt (Nat.div_le_self _ _) (Nat.lt_trans lc Om)))) ?_
        refine my 18 rfl (cy rfl rfl Om (show (((cc / u : Nat) : Int).tmod 2) = ((cc / u % 2 : Nat) : Int) from rfl)) ?_
        refine my 19 rfl (aN rfl rfl (aE (n := a / u % 2 + b / u % 2 + cc / u % 2) Om Om)) ?_
        refine zm [20] ?_
        refine al rfl (fun Vl => ?_) (fun Vl => ?_)
        ·refine au 3 ?_
         refine ak (aN rfl rfl (aE (n := J % u + u) Om Om)) ?_
         have Vq : 2 ≤ a / u % 2 + b / u % 2 + cc / u % 2 := by exact_mod_cast Vl
         have hJn : J % u + u = J % (2 * u) := by
          rw [hun, hJ, Sha.qP (by rw [← hu]; exact Vq), hu]
         refine au 5 ?_
         refine ak (cz rfl rfl (aE (n := 2 * u) Om Om)) ?_
         refine au 9 ?_
         refine ae ?_
         refine Vx _ _ ⟨i + 1, 2 * u, rfl, rfl, by omega, hun, X, HV⟩ Om Ls
        ·have Vq : ¬ 2 ≤ a / u % 2 + b / u % 2 + cc / u % 2 := fun h => Vl (by exact_mod_cast h)
         have hJn : J % u = J % (2 * u) := by
          rw [hun, hJ, Sha.rD (by rw [← hu]; exact Vq), hu]
         refine au 4 ?_
         refine ak (cz rfl rfl (aE (n := 2 * u) Om Om)) ?_
         refine au 9 ?_
         refine ae ?_
         refine Vx _ _ ⟨i + 1, 2 * u, rfl, rfl, by omega, hun, X, HV⟩ Om Ls
      ·refine au 6 ?_
       obtain rfl : i = 32 := by omega
       obtain rfl : u = 4294967296 := by rw [hu]
       rw [Nat.mod_eq_of_lt hCl, Nat.mod_eq_of_lt hJl]
       obtain ⟨kt, hkt⟩ : ∃ q, q = Sha.K.getD t 0 := ⟨_, rfl⟩
       obtain ⟨wt, hwt⟩ : ∃ q, q = (Sha.words bl).getD t 0 := ⟨_, rfl⟩
       obtain ⟨T, hT⟩ : ∃ T, T = Sha.T1 ⟨a, b, cc, d, e, f, gg, hh⟩ kt wt := ⟨_, rfl⟩
       obtain ⟨U, hU⟩ : ∃ T, T = Sha.T2 ⟨a, b, cc, d, e, f, gg, hh⟩ := ⟨_, rfl⟩
       have Wr : T = hh + ((Sha.cv e 6 ^^^ Sha.cv e 11) ^^^ Sha.cv e 25) + C + kt + wt := by rw [hT, hC]; rfl
       have Ws : U = ((Sha.cv a 2 ^^^ Sha.cv a 13) ^^^ Sha.cv a 22) + J := by rw [hU, hJ]; rfl
       have WU : kt < 4294967296 := by rw [hkt]; exact Sha.fB Sha.MH _
       have WV : wt < 4294967296 := by rw [hwt]; exact Sha.fB (Sha.CP bl) _
       have WW : (Sha.cv e 6 ^^^ Sha.cv e 11) ^^^ Sha.cv e 25 < 4294967296 := Sha.Mi le
       have WX : (Sha.cv a 2 ^^^ Sha.cv a 13) ^^^ Sha.cv a 22 < 4294967296 := Sha.Ln la
       refine aA Kr 31 rfl ?_; intro Wv ex Ww
       obtain ⟨X,HV⟩ := aY ex X HV
       refine zm [0] ?_
       refine my 1 rfl (aD rfl rfl Tn.u Kr (j := 7) rfl Om) ?_
       refine my 2 rfl (ah rfl Tn.u rfl (HV.cellAt (i := 7) Om)) ?_
       refine zm [3] ?_
       refine my 4 rfl (aD rfl rfl Tn.u Kr (j := 4) rfl Om) ?_
       refine my 5 rfl (ah rfl Tn.u rfl (HV.cellAt (i := 4) Om)) ?_
       refine zm [7] ?_
       refine my 8 rfl (aD rfl rfl Tn.u Kr (j := 4) rfl Om) ?_
       refine my 9 rfl (ah rfl Tn.u rfl (HV.cellAt (i := 4) Om)) ?_
       refine zm [12] ?_
       refine my 13 rfl (aD rfl rfl Tn.u Kr (j := 4) rfl Om) ?_
       refine my 14 rfl (ah rfl Tn.u rfl (HV.cellAt (i := 4) Om)) ?_
       refine zm [18, 20, 21, 22] ?_
       refine my 23 rfl (ah rfl Tn.u rfl (show _ = some (.int .u64 ((kt : Nat) : Int)) from by rw [hkt]; exact (HKa.wk (F.tr X)).cellAt Om)) ?_
       refine zm [25, 26, 27] ?_
       refine my 28 rfl (ah rfl Tn.u rfl (show _ = some (.int .u64 ((wt : Nat) : Int)) from by rw [hwt]; exact (Hw.wk X).cellAt Om)) ?_
       refine bm 6 rfl func187 rfl (dE e 6 _ le Om) ?_
       rintro e w9 ⟨rfl, ex⟩
       obtain ⟨X,HV⟩ := aY ex X HV
       refine aU ?_
       refine bm 10 rfl func187 rfl (dE e 11 _ le Om) ?_
       rintro e w9 ⟨rfl, ex⟩
       obtain ⟨X,HV⟩ := aY ex X HV
       refine aU ?_
       refine my 11 rfl (bJ rfl rfl rfl) ?_
       refine bm 15 rfl func187 rfl (dE e 25 _ le Om) ?_
       rintro e w9 ⟨rfl, ex⟩
       obtain ⟨X,HV⟩ := aY ex X HV
       refine aU ?_
       refine my 16 rfl (bJ rfl rfl (xV _ _ _ (Sha.ba le Om) (Sha.ba le Om) (Sha.ba le Om))) ?_
       refine my 17 rfl (aN rfl rfl rfl) ?_
       refine my 19 rfl (aN rfl rfl rfl) ?_
       refine my 24 rfl (aN rfl rfl rfl) ?_
       refine my 29 rfl (Y.as (aN rfl rfl rfl) (congrArg (Value.int .u64) (show _ = ((T : Nat) : Int) from by rw [ig, ig, ig, ig, Wr, show ([a, b, cc, d, e, f, gg, hh].getD 7 0) = hh from rfl]; have : hh < 4294967296 := lh; omega))) ?_
       refine zm [30] ?_
       refine aA Kr 17 rfl ?_; intro Wx ex Wy
       obtain ⟨X,HV⟩ := aY ex X HV
       refine zm [0] ?_
       refine my 1 rfl (aD rfl rfl Tn.u Kr (j := 0) rfl Om) ?_
       refine my 2 rfl (ah rfl Tn.u rfl (HV.cellAt (i := 0) Om)) ?_
       refine zm [4] ?_
       refine my 5 rfl (aD rfl rfl Tn.u Kr (j := 0) rfl Om) ?_
       refine my 6 rfl (ah rfl Tn.u rfl (HV.cellAt (i := 0) Om)) ?_
       refine zm [9] ?_
       refine my 10 rfl (aD rfl rfl Tn.u Kr (j := 0) rfl Om) ?_
       refine my 11 rfl (ah rfl Tn.u rfl (HV.cellAt (i := 0) Om)) ?_
       refine zm [14] ?_
       refine bm 3 rfl func187 rfl (dE a 2 _ la Om) ?_
       rintro e w9 ⟨rfl, ex⟩
       obtain ⟨X,HV⟩ := aY ex X HV
       refine aU ?_
       refine bm 7 rfl func187 rfl (dE a 13 _ la Om) ?_
       rintro e w9 ⟨rfl, ex⟩
       obtain ⟨X,HV⟩ := aY ex X HV
       refine aU ?_
       refine my 8 rfl (bJ rfl rfl rfl) ?_
       refine bm 12 rfl func187 rfl (dE a 22 _ la Om) ?_
       rintro e w9 ⟨rfl, ex⟩
       obtain ⟨X,HV⟩ := aY ex X HV
       refine aU ?_
       refine my 13 rfl (bJ rfl rfl (xV _ _ _ (Sha.ba la Om) (Sha.ba la Om) (Sha.ba la Om))) ?_
       refine my 15 rfl (Y.as (aN rfl rfl rfl) (congrArg (Value.int .u64) (show _ = ((U : Nat) : Int) from by rw [ig, Ws]; omega))) ?_
       refine zm [16] ?_
       refine aA Kr 30 rfl ?_; intro Wz ex WA
       obtain ⟨X,HV⟩ := aY ex X HV
       refine zm [0, 1] ?_
       refine my 2 rfl (aN rfl rfl (aE (n := T + U) Om (by have : hh < 4294967296 := lh; omega))) ?_
       refine my 3 rfl (cy rfl rfl Om (show (((T + U : Nat) : Int).tmod 4294967296) = (((T + U) % 4294967296 : Nat) : Int) from rfl)) ?_
       refine zm [4] ?_
       refine my 5 rfl (aD rfl rfl Tn.u Kr (j := 0) rfl Om) ?_
       refine my 6 rfl (ah rfl Tn.u rfl (HV.cellAt (i := 0) Om)) ?_
       refine zm [7] ?_
       refine my 8 rfl (aD rfl rfl Tn.u Kr (j := 1) rfl Om) ?_
       refine my 9 rfl (ah rfl Tn.u rfl (HV.cellAt (i := 1) Om)) ?_
       refine zm [10] ?_
       refine my 11 rfl (aD rfl rfl Tn.u Kr (j := 2) rfl Om) ?_
       refine my 12 rfl (ah rfl Tn.u rfl (HV.cellAt (i := 2) Om)) ?_
       refine zm [13] ?_
       refine my 14 rfl (aD rfl rfl Tn.u Kr (j := 3) rfl Om) ?_
       refine my 15 rfl (ah rfl Tn.u rfl (HV.cellAt (i := 3) Om)) ?_
       refine zm [16] ?_
       refine my 17 rfl (Y.as (aN rfl rfl rfl) (congrArg (Value.int .u64) (show _ = ((d + T : Nat) : Int) from by rw [ig]; show ((d : Int) + _) % _ = _; have : hh < 4294967296 := lh; have : d < 4294967296 := ld; omega))) ?_
       refine my 18 rfl (cy rfl rfl Om (show (((d + T : Nat) : Int).tmod 4294967296) = (((d + T) % 4294967296 : Nat) : Int) from rfl)) ?_
       refine zm [19] ?_
       refine my 20 rfl (aD rfl rfl Tn.u Kr (j := 4) rfl Om) ?_
       refine my 21 rfl (ah rfl Tn.u rfl (HV.cellAt (i := 4) Om)) ?_
       refine zm [22] ?_
       refine my 23 rfl (aD rfl rfl Tn.u Kr (j := 5) rfl Om) ?_
       refine my 24 rfl (ah rfl Tn.u rfl (HV.cellAt (i := 5) Om)) ?_
       refine zm [25] ?_
       refine my 26 rfl (aD rfl rfl Tn.u Kr (j := 6) rfl Om) ?_
       refine my 27 rfl (ah rfl Tn.u rfl (HV.cellAt (i := 6) Om)) ?_
       have hzX := X.size
       refine aM 28 Kr ?_; refine aO rfl (aB (z := .int .u64 0) Tn.u Kr rfl rfl rfl rfl rfl) rfl ?_
       rintro _ w7 ⟨g7, rfl, B7, VO, ex⟩
       refine ⟨.inr ex, ?_⟩
       replace X := X.ext ex
       have e2 : (Sha.rounds (Sha.words bl) S (t + 1)).list = [(T + U) % 4294967296, a, b, cc, (d + T) % 4294967296, e, f, gg] := by
        show (Sha.vp (Sha.rounds (Sha.words bl) S t) (Sha.K.getD t 0) ((Sha.words bl).getD t 0)).list = _
        rw [← hQ, ← hkt, ← hwt, hT, hU]; rfl
       refine Cc [29] ?_
       refine au 11 ?_
       refine ae ?_
       refine Wn _ _ ⟨t + 1, 8, some ⟨g7, 0, none⟩, rfl, rfl, by omega, X, (by rw [e2]; exact Ns.fT (B7.congr rfl) rfl), (fun o h => by injection h with h; injection h; omega)⟩ Om Ls
     ·obtain rfl : t = 64 := by omega
      obtain ⟨m, hm⟩ : ∃ m, m = (Sha.rounds (Sha.words bl) S 64).list := ⟨_, rfl⟩
      rw [← hm] at HV
      have VJ : S.list.length = m.length := by rw [hm, oh, oh]
      have WB := oh S
      have vl : ∀ i, m.getD i 0 < 4294967296 := by rw [hm]; exact vP (Sha.fZ _ hSok _)
      have okl := vP hSok
      have hfin : (Sha.blocks Sha.IV M (k + 1)).list = Sha.eB S.list m 8 := by rw [hm, ← Sha.po, hS, hbl]; rfl
      have G9 : wr.grownBy wd (some gh) := j7.tr G (j7.Ax (F.tr X) gh)
      have VS := Vr.ext (F.tr X)
      obtain ⟨l, hl⟩ : ∃ l, l = S.list := ⟨_, rfl⟩
      rw [← hl] at VS okl WB VJ hfin
      refine aU ?_
      refine aF (fun n' L wg => ∃ i : Nat, L = [(2, .slice (some ⟨gK, oK, none⟩) 64 c2), (7, .slice (some ⟨gh, 0, none⟩) 8 ch), (8, .slice (some ⟨gM, 0, none⟩) nM c6), (13, .int .i64 ((64 * k : Nat) : Int)), (20, .slice Vo 8 Vt), (28, .int .i64 (i : Int))] ∧ n' = 8 - i ∧ (i ≤ 8 ∧ wd.grownBy wg (some gh) ∧ Row wg w.heap.size 38 (some ⟨gh, 0, none⟩) 8 ch ((Sha.eB l m i).map (iv .u64)))) _ _ ⟨0, rfl, rfl, by omega, World.grownBy.refl _ _, (by rw [Sha.jJ]; exact VS)⟩ Ls ?_
      rintro _ n' L wg ⟨i, rfl, rfl, hi, CG, Rg⟩ WD
      refine aU ?_
      refine al rfl (fun VK => ?_) (fun VK => ?_)
      ·refine aU ?_
       obtain ⟨VE, VF, _, rfl, _⟩ := HV.cell (i := 0) Om
       have HVg := HV.Ay CG hfar
       obtain ⟨p, hp⟩ : ∃ p, p = l.getD i 0 := ⟨_, rfl⟩
       obtain ⟨q, hq⟩ : ∃ q, q = m.getD i 0 := ⟨_, rfl⟩
       have lp : p < 4294967296 := by rw [hp]; exact okl _
       have lq : q < 4294967296 := by rw [hq]; exact vl _
       have hgp : (Sha.eB l m i).getD i 0 = p := by rw [Sha.lQ VJ Om, hp]
       refine aA Kr 14 rfl ?_; intro WE ex WH
       replace HVg := HVg.ext ex; replace Rg := Rg.ext ex; replace CG := j7.tr CG (j7.Ax ex gh)
       refine zm [0, 1, 2, 3, 4] ?_
       refine my 5 rfl (ah rfl Tn.u rfl (show _ = some (.int .u64 ((p : Nat) : Int)) from by rw [← hgp]; exact (Ns.kD Rg).cellAt Om)) ?_
       refine zm [6, 7, 8] ?_
       refine my 9 rfl (ah rfl Tn.u rfl (show _ = some (.int .u64 ((q : Nat) : Int)) from by rw [hq]; exact HVg.cellAt Om)) ?_
       refine cU 10 rfl (fun _ => aN rfl rfl (aE (n := p + q) Om Om)) ?_
       refine cU 11 rfl (fun _ => cy rfl rfl Om (show (((p + q : Nat) : Int).tmod 4294967296) = (((p + q) % 4294967296 : Nat) : Int) from rfl)) ?_
       refine zm [12] ?_
       refine aM 13 Kr ?_; refine aO rfl (jR rfl rfl rfl Kr Rg Om) rfl ?_
       rintro _ _ ⟨rfl, VT, cg⟩
       refine ⟨.inl rfl, ?_⟩
       have WI := j7.tr CG cg; have hset : ((Sha.eB l m i).map (iv .u64)).set i (.int .u64 (((p + q) % 4294967296 : Nat) : Int)) = (Sha.eB l m (i + 1)).map (iv .u64) := by rw [← Sha.mo VJ Om, ← hp, ← hq, List.map_set]; rfl
       rw [hset] at VT
       refine au 9 ?_
       refine ae ?_
       refine WD _ _ ⟨i + 1, rfl, rfl, by omega, WI, VT⟩ Om Ls
      ·obtain rfl : i = 8 := by omega
       refine au 8 ?_
       refine ak (aN rfl rfl (bk (n := 64 * (k + 1)) Om Om)) ?_
       refine au 2 ?_
       refine ae ?_
       refine V6 _ _ ⟨k + 1, rfl, rfl, by omega, j7.tr G9 CG, (by rw [hfin]; exact Rg)⟩ Om Ls
   ·have hkM : nM = 64 * k := by omega
    obtain ⟨S, hS⟩ : ∃ s, s = Sha.blocks Sha.IV M k := ⟨_, rfl⟩
    rw [← hS] at Vr
    have hsum : Sha.sum xs = S.bytes := by unfold Sha.sum; rw [hxl, ← hM, hMl, hkM, Nat.mul_div_cancel_left _ Om, hS]
    have hSl := Sha.jb S
    have hSok : S.ok := by rw [hS]; exact Sha.jK Sha.rE _ _
    have Ea : Ext w wa := Ew.aw G Om
    have Hh := Ns.kD Vr
    refine aU ?_
    refine aF (fun n' L wo => ∃ (i Vy : Nat) (Vz : Oa), L = [(7, .slice (some ⟨gh, 0, none⟩) 8 ch), (29, .slice Vz (4 * i) Vy), (30, .int .i64 (i : Int))] ∧ n' = 8 - i ∧ (i ≤ 8 ∧ Ext wa wo ∧ Row wo wa.heap.size 5 Vz (4 * i) Vy ((S.bytes.take (4 * i)).map bv))) _ _ ⟨0, 0, none, rfl, rfl, by omega, Ext.refl _, Row.empty _ _ _⟩ Ls ?_
    rintro _ n' L wo ⟨i, Vy, Vz, rfl, rfl, hi, F, R⟩ VL
    refine aU ?_
    refine al rfl (fun VM => ?_) (fun VM => ?_)
    ·refine aU ?_
     obtain ⟨x, hx⟩ : ∃ x, x = S.list.getD i 0 := ⟨_, rfl⟩
     have hxw : x < 4294967296 := by rw [hx]; exact vP hSok _
     have Hx := Hh.wk F
     refine aA Kr 30 rfl ?_; intro WO ex WS
     obtain ⟨F,R,Hx⟩ := bC ex F R Hx
     refine zm [0, 1, 2, 3] ?_
     refine my 4 rfl (ah rfl Tn.u rfl (show _ = some (.int .u64 ((x : Nat) : Int)) from by rw [hx]; exact Hx.cellAt Om)) ?_
     refine cU 5 rfl (fun _ => cY rfl rfl Om (show IntKind.u64.wrap ((x : Int).tdiv 16777216) = ((x / 16777216 : Nat) : Int) from aE rfl Om)) ?_
     refine my 6 rfl (bg rfl Tn.u Tn.u (OH _)) ?_
     refine zm [7, 8, 9] ?_
     refine my 10 rfl (ah rfl Tn.u rfl (show _ = some (.int .u64 ((x : Nat) : Int)) from by rw [hx]; exact Hx.cellAt Om)) ?_
     refine cU 11 rfl (fun _ => cY rfl rfl Om (show IntKind.u64.wrap ((x : Int).tdiv 65536) = ((x / 65536 : Nat) : Int) from aE rfl Om)) ?_
     refine cU 12 rfl (fun _ => cy rfl rfl Om (show (((x / 65536 : Nat) : Int).tmod 256) = ((x / 65536 % 256 : Nat) : Int) from rfl)) ?_
     refine my 13 rfl (bg rfl Tn.u Tn.u (Mt _)) ?_
     refine zm [14, 15, 16] ?_
     refine my 17 rfl (ah rfl Tn.u rfl (show _ = some (.int .u64 ((x : Nat) : Int)) from by rw [hx]; exact Hx.cellAt Om)) ?_
     refine cU 18 rfl (fun _ => cY rfl rfl Om (show IntKind.u64.wrap ((x : Int).tdiv 256) = ((x / 256 : Nat) : Int) from aE rfl Om)) ?_
     refine cU 19 rfl (fun _ => cy rfl rfl Om (show (((x / 256 : Nat) : Int).tmod 256) = ((x / 256 % 256 : Nat) : Int) from rfl)) ?_
     refine my 20 rfl (bg rfl Tn.u Tn.u (Mt _)) ?_
     refine zm [21, 22, 23] ?_
     refine my 24 rfl (ah rfl Tn.u rfl (show _ = some (.int .u64 ((x : Nat) : Int)) from by rw [hx]; exact Hx.cellAt Om)) ?_
     refine cU 25 rfl (fun _ => cy rfl rfl Om (show ((x : Int).tmod 256) = ((x % 256 : Nat) : Int) from rfl)) ?_
     refine my 26 rfl (bg rfl Tn.u Tn.u (Mt _)) ?_
     refine aM 27 Kr ?_; refine aO rfl (aB (z := .int .u8 0) Tn.u Kr rfl rfl rfl rfl rfl) rfl ?_
     rintro _ w5 ⟨g5, rfl, B5, Vu, ex⟩
     refine ⟨.inr ex, ?_⟩
     have F5 := F.ext ex; have R5 := R.ext ex
     refine aM 28 Kr ?_; refine aO rfl (aQ rfl rfl bF R5 (At.fT (vs := (Sha.pZ x).map bv) (B5.congr rfl)) rfl aH Om Om F5.size) rfl ?_
     rintro _ w6 ⟨A7, c7, rfl, R6, be, gr, hl⟩
     refine ⟨.inl rfl, ?_⟩
     have F6 := F5.trans be; replace R6 := R6.cat; rw [hx, LZ _ _ Om] at R6
     refine Cc [29] ?_
     refine au 11 ?_
     refine ae ?_
     refine VL _ _ ⟨i + 1, c7, A7, rfl, rfl, by omega, F6, R6⟩ Om Ls
    ·refine aU ?_
     refine hret rfl ?_
     obtain rfl : i = 8 := by omega
     exact ⟨Vz, Vy, rfl, by rw [hsum]; rw [List.take_of_length_le Om] at R; exact Row.lower R Ea.size, Ea.tr F⟩
end Go.Proofs.YtgfafidlkldeaaaGreat
