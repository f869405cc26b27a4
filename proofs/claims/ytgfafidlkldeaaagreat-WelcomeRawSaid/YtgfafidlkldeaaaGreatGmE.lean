/- gcm.masked. No conditions: contracts of functions. -/
import Derived.Test.YtgfafidlkldeaaaGreatGmB
import Derived.Test.YtgfafidlkldeaaaGreatAu
import Derived.Test.YtgfafidlkldeaaaGreatChunkA
import Derived.Test.YtgfafidlkldeaaaGreatHkA
set_option linter.unusedVariables false
set_option linter.unusedSimpArgs false
set_option maxHeartbeats 4000000
set_option maxRecDepth 4000
namespace Go.Proofs.YtgfafidlkldeaaaGreat
section
open Go.RowKit Tryz
attribute [local irreducible] Y Ef WL WC WK WQ WM cE WN WF dc WJ gJ
open Ae Gm
namespace Gm
def pb (a b : Nat) : Nat → List UInt8
 | 0 => List.replicate 16 0
 | i + 1 => ((pb a b i).set i (UInt8.ofNat (a / 2 ^ (56 - 8 * i)))).set (8 + i) (UInt8.ofNat (b / 2 ^ (56 - 8 * i)))
theorem kU (a b : Nat) : ∀ i, (pb a b i).length = 16
 | 0 => by rw [pb, List.length_replicate]
 | i + 1 => by rw [pb, List.length_set, List.length_set, kU a b i]
theorem rW (x : Nat) : IntKind.u8.wrap ((x : Nat) : Int) = ((UInt8.ofNat x).toNat : Int) := by rw [IntKind.wrap_u8', UInt8.toNat_ofNat']; omega
end Gm
theorem yM (a b : Nat) (w : World) :
  Ct 180 #[.agg (pv a b)] w fun e w' => ∃ g, e = .returned (.slice (some ⟨g, 0, none⟩) 16 16) ∧ w.heap.size ≤ g ∧ ao w' g 5 (cT (pb a b 8)) ∧ Ext w w' := by
 have F := aA.refl [] w
 refine ai 32 func180 rfl rfl rfl rfl ?_
 intro _ hret
 refine aU ?_
 intro _ Vw B1 _ ex
 have Vz := B1.lt
 replace F := F.ext ex
 refine aU ?_
 refine ag (du (n := 16) (z := .int .u8 0) (bytes := 1) rfl rfl Tn.u Kr rfl rfl rfl rfl Om Om) rfl ?_
 rintro _ w1 ⟨g3, rfl, D3, _, ex⟩
 obtain ⟨F,B1⟩ := ba ex F B1
 have FF : aA [g3] w w1 := F.mono (by simp); have BT := D3.congr (cs' := cT (List.replicate 16 0)) Kr
 refine aU ?_
 refine az (fun n' L wr => ∃ (i : Nat), L = [(1, .pointer (some ⟨Vw, 0, none⟩)), (3, .slice (some ⟨g3, 0, none⟩) 16 16), (6, .int .i64 (i : Int))] ∧ n' = 8 - i ∧ (i ≤ 8 ∧ aA [g3] w wr ∧ ao wr Vw 220 (pv a b) ∧ ao wr g3 5 (cT (pb a b i)))) _ _ ⟨0, rfl, rfl, Nat.zero_le _, FF, B1, BT⟩ Ls ?_
 rintro _ n' L wr ⟨i, rfl, rfl, _, F, B1, BT⟩ Vx
 refine aU ?_
 refine al rfl (fun Vy => ?_) (fun Vy => ?_)
 ·refine aU ?_
  have hbl := kU a b i
  refine bS [(20, [g3]), (22, [g3])] Kr 23 rfl ?_; intro VA ex VB
  obtain ⟨F,B1,BT⟩ := bC ex F B1 BT
  refine fO [(0, []), (1, []), (2, [20]), (3, [20]), (4, [20]), (5, []), (6, []), (7, []), (8, []), (9, [])] ?_
  refine aU ?_
  refine iz 10 [] rfl (fun wr (cr : aA ([]) _ wr) => bZ rfl rfl Om (Jk a (56 - 8 * i) Om Om)) ?_
  refine iz 11 [] rfl (fun wr (cr : aA ([]) _ wr) => bg rfl Tn.u Tn.u (rW _)) ?_
  refine fO [(12, [20]), (13, [20]), (14, [20]), (15, [20]), (16, [20])] ?_
  refine aU ?_
  refine iz 17 [20] rfl (fun wr (cr : aA ([g3]) _ wr) => bZ rfl rfl Om (Jk b (56 - 8 * i) Om Om)) ?_
  refine iz 18 [20] rfl (fun wr (cr : aA ([g3]) _ wr) => bg rfl Tn.u Tn.u (rW _)) ?_
  refine iz 19 [] rfl (fun wr (cr : aA ([]) _ wr) => aw rfl rfl Tn.u Kr (j := i) Om Om) ?_
  refine cy 20 Kr ?_; refine cZ rfl (av rfl rfl rfl Kr BT (by simp only [aW, List.length_set]; omega)) rfl ?_
  rintro _ _ ⟨rfl, DA, cg⟩
  have ex := aA.one cg
  refine ⟨ex, ?_⟩
  clear cg; rw [fI, Nat.zero_add] at DA
  obtain ⟨F,B1⟩ := gA ex F B1
  have BT := DA
  refine iz 21 [] rfl (fun wr (cr : aA ([]) _ wr) => aw rfl rfl Tn.u Kr (j := 8 + i) Om Om) ?_
  refine cy 22 Kr ?_; refine cZ rfl (av rfl rfl rfl Kr BT (by simp only [aW, List.length_set]; omega)) rfl ?_
  rintro _ _ ⟨rfl, DB, cg⟩
  have ex := aA.one cg
  refine ⟨ex, ?_⟩
  clear cg; rw [fI, Nat.zero_add] at DB
  obtain ⟨F,B1⟩ := gA ex F B1
  have BT := DB
  refine cF Kr ?_
  refine au 7 ?_
  refine ae ?_
  refine Vx _ _ ⟨i + 1, rfl, rfl, by omega, F, B1, (by rw [pb]; first | exact BT | (rw [List.set_comm _ _ Om]; exact BT))⟩ Om Ls
 ·refine aU ?_
  refine hret rfl ?_
  obtain rfl : i = 8 := by omega
  exact ⟨g3, rfl, by omega, BT, F.drop Om |>.aD (by simp)⟩
namespace Gm
def Qu (nn : Lb) (n : Nat) : List UInt8 := nn ++ [UInt8.ofNat (n / 16777216), UInt8.ofNat (n / 65536), UInt8.ofNat (n / 256), UInt8.ofNat n]
def CI (key nn : Lb) (n : Nat) : List UInt8 := enc key (Qu nn n)
theorem QO (n : Nat) : ((n : Nat) : Int) / 2 ^ min (24 : Int).toNat IntKind.u32.bits = ((n / 16777216 : Nat) : Int) := by
 show ((n : Int) / 2 ^ 24 : Int) = _
 omega
theorem QE (n : Nat) : ((n : Nat) : Int) / 2 ^ min (16 : Int).toNat IntKind.u32.bits = ((n / 65536 : Nat) : Int) := by
 show ((n : Int) / 2 ^ 16 : Int) = _
 omega
theorem Pm (n : Nat) : ((n : Nat) : Int) / 2 ^ min (8 : Int).toNat IntKind.u32.bits = ((n / 256 : Nat) : Int) := by
 show ((n : Int) / 2 ^ 8 : Int) = _
 omega
end Gm
theorem tj {A B : Oa} {c d n : Nat} {key nn : Lb} (w : World) (HA : Bs w A 16 key) (HB : Bs w B 12 nn) :
  Ct 179 #[.slice A 16 c, .slice B 12 d, .int .u32 (n : Int)] w fun e w' => ∃ A' c', e = .returned (.slice A' 16 c') ∧ Row w' w.heap.size 5 A' 16 c' ((CI key nn n).map bv) ∧ Ext w w' := by
 have E := Ext.refl w
 have Vw := HA
 refine ai 30 func179 rfl rfl rfl rfl ?_
 intro _ hret
 refine aU ?_
 refine aB func181 rfl (jd B 12 d nn _ HB Om) ?_
 rintro e w1 ⟨A1, c1, rfl, O1, ex⟩
 replace E := E.ext ex
 have R1 : Row w1 w.heap.size 5 A1 12 c1 (nn.map bv) := O1
 refine au 2 ?_
 refine ak (bZ rfl rfl Om (QO n)) ?_
 refine ak (bg rfl Tn.u Tn.u (rW _)) ?_
 refine au 1 ?_
 refine ak (bZ rfl rfl Om (QE n)) ?_
 refine ak (bg rfl Tn.u Tn.u (rW _)) ?_
 refine au 1 ?_
 refine ak (bZ rfl rfl Om (Pm n)) ?_
 refine ak (bg rfl Tn.u Tn.u (rW _)) ?_
 refine au 1 ?_
 refine ak (bg rfl Tn.u Tn.u (rW _)) ?_
 refine ag (aK (z := .int .u8 0) Tn.u Kr rfl rfl rfl rfl rfl) rfl ?_
 rintro _ _ ⟨_, rfl, D2, _, ex⟩
 obtain ⟨E,R1⟩ := ba ex E R1
 have Vx := E.size
 refine ag (bd rfl rfl cB R1 (At.gX (vs := [UInt8.ofNat (n / 16777216), UInt8.ofNat (n / 65536), UInt8.ofNat (n / 256), UInt8.ofNat n].map bv) (D2.congr (by rfl))) rfl aM Om Om Vx) rfl ?_
 rintro _ w3 ⟨A3, _, rfl, R3, be, _, _⟩
 have E3 := E.trans be; have R4 := R3.cat; have H4 : Bs w3 A3 16 (Qu nn n) := R4.bs; have Vy := Vw.wk E3
 refine aB func174 rfl (rq _ Vy H4) ?_
 rintro e _ ⟨A5, c5, rfl, R5, ex⟩
 have E4 := E3.ext ex
 refine aU ?_
 refine hret rfl ?_
 exact ⟨A5, c5, rfl, R5.lower E3.size, E4⟩
end
section
open Go.RowKit Tryz
attribute [local irreducible] Y Ef WL WC WK WQ WM cE WN WF dc
def iN (g off K T j : Nat) : Value := .slice (some ⟨g, off + K * j, none⟩) (min K (T - K * j)) (min K (T - K * j))
theorem ya (n l g off c K T m b1 b2 : Nat) (A : Oa) (J Jx : List (Fin m) → World → Prop) (w : World) (hK : 1 ≤ K) (hA : 0 < T → A = some ⟨g, off, none⟩) (hc : T ≤ c) (hm : K * m ≤ 70368744177664) (hT : T ≤ K * m) (hj : ∀ j, j < m → K * j < T) (hab : AbidesFrom w.heap.size J)
  (C1 : ao w b1 23 #[.slice A T c]) (C2 : ao w b2 3 #[.int .i64 (K : Int)])
  (hY : ∀ pre x W1, J pre W1 → pre.length < m → YieldAt Fence.wide (n - 1) Tryz.prog l #[iN g off K T x.val] W1 fun e W' => (e = .returned (.bool true) ∧ J (pre ++ [x]) W' ∧ tB b1 b2 W1 W') ∨ (e = .returned (.bool false) ∧ Jx (pre ++ [x]) W'))
  (h0 : J [] w) :
  Ct 228 #[.func (.yield l) #[] #[], .pointer (some ⟨b1, 0, none⟩), .pointer (some ⟨b2, 0, none⟩)] w fun e W' => (∃ v, e = .returned v) ∧ ((∃ xs, xs = List.finRange m ∧ J xs W') ∨ (∃ pre : List (Fin m), True ∧ Jx pre W')) := by
 refine fp 31 func228 rfl rfl rfl rfl ?_
 intro _ hret
 refine aU ?_
 refine az (fun n' L wr => ∃ i : Nat, L = [(0, .func (.yield l) #[] #[]), (1, .pointer (some ⟨b1, 0, none⟩)), (2, .pointer (some ⟨b2, 0, none⟩)), (4, .int .i64 ((K * i : Nat) : Int))] ∧ n' = m - i ∧ (i ≤ m ∧ J ((List.finRange m).take i) wr ∧ ao wr b1 23 #[.slice A T c] ∧ ao wr b2 3 #[.int .i64 (K : Int)])) _ _ ⟨0, rfl, rfl, by omega, h0, C1, C2⟩ Ls ?_
 rintro _ n' L wr ⟨i, rfl, rfl, _, hJ, D1, D2⟩ Vx
 refine aU ?_
 refine al rfl (fun Vy => ?_) (fun Vy => ?_)
 ·have hlt : i < m := by
   rcases Nat.lt_or_ge i m with h | h
   ·exact h
   ·obtain rfl : i = m := by omega
    omega
  have hge : K * i + K ≤ K * m := by rw [← Nat.mul_succ]; exact Nat.mul_le_mul_left _ hlt
  obtain rfl := hA Om
  obtain ⟨e, he⟩ : ∃ e, e = min K (T - K * i) := ⟨_, rfl⟩
  have VA : 1 ≤ e := by omega
  have VB : K * i + e ≤ T := by omega
  refine aU ?_
  refine aC Kr 7 rfl ?_; intro VC ex VD
  obtain ⟨D1,D2⟩ := ba ex D1 D2
  replace hJ := hab _ _ _ none hJ (sK ex) (fun r e => by cases e)
  refine zm [0, 1, 2] ?_
  refine my 3 rfl (nO (s := 1) rfl rfl Tn.u Kr (j := K * i) rfl Om) ?_
  refine zm [4] ?_
  refine my 5 rfl (Y.as (Bj rfl rfl) (congrArg (Value.int .i64) (show _ = ((e : Nat) : Int) by split <;> omega))) ?_
  refine C8 [6] ?_
  refine au 6 ?_
  refine qM (n) ?_
  refine eM (aQ rfl) rfl ?_
  refine eM (af rfl underlying23 rfl (D1.get (i := 0) rfl)) rfl ?_
  refine eM (aQ rfl) rfl ?_
  refine eM (aQ rfl) rfl ?_
  refine eM (aQ rfl) rfl ?_
  refine eM (aO rfl rfl (bc Om Om)) rfl ?_
  refine eM (aQ rfl) rfl ?_
  refine eM (aQ rfl) rfl ?_
  refine eM (aO rfl rfl (bc Om Om)) rfl ?_
  refine eM (Y.as (vF (s := 1) rfl rfl rfl rfl underlying23 Kr (j := K * i) (h := K * i + e) (m := K * i + e) rfl Om Om Om Om Om Om) (show _ = iN g off K T i from by unfold iN; rw [Nat.mul_one, Nat.add_sub_cancel_left, he])) rfl ?_
  refine sc rfl rfl ((qU (hY ((List.finRange m).take i) ⟨i, hlt⟩ _ hJ (by rw [List.length_take, List.length_finRange]; omega)))) rfl ?_
  rintro e _ ⟨_, rfl, hbt, hbf⟩
  refine aU ?_
  refine eM (lW rfl) rfl ?_
  refine AQ ?_
  refine aU ?_
  refine bA rfl (fun Vw => ?_) (fun Vw => ?_)
  ·refine aU ?_
   refine hret (.inl rfl) ?_
   exact ⟨⟨_, rfl⟩, .inr ⟨_, trivial, hbf (by simpa using Vw)⟩⟩
  ·obtain ⟨Vz, hk⟩ := hbt (by simpa using Vw)
   replace D1 := hk.Ot D1
   replace D2 := hk.OC D2
   refine au 9 ?_
   refine ae ?_
   refine Vx _ _ ⟨i + 1, rfl, rfl, by omega, by rw [List.take_succ_eq_append_getElem (by rw [List.length_finRange]; omega)]; simpa using Vz, D1, D2⟩ Om Ls
 ·refine aU ?_
  refine hret (.inr rfl) ?_
  have hfin : m ≤ i := by
   rcases Nat.lt_or_ge i m with h | h
   ·have := hj i h; omega
   ·exact h
  exact ⟨⟨_, rfl⟩, .inl ⟨_, rfl, by rw [List.take_of_length_le (by rw [List.length_finRange]; exact hfin)] at hJ; exact hJ⟩⟩
theorem jR (n g off c K T m b1 b2 : Nat) (A : Oa) (w : World) (hK : 1 ≤ K) (hA : 0 < T → A = some ⟨g, off, none⟩) (hc : T ≤ c) (hm : K * m ≤ 70368744177664) (hT : T ≤ K * m) (hj : ∀ j, j < m → K * j < T)
  (C1 : ao w b1 23 #[.slice A T c]) (C2 : ao w b2 3 #[.int .i64 (K : Int)]) :
  SeqStopsK Fence.wide n Tryz.prog 228 #[.pointer (some ⟨b1, 0, none⟩), .pointer (some ⟨b2, 0, none⟩)] (fun x : Fin m => #[iN g off K T x.val]) (tB b1 b2) (fun xs => xs = List.finRange m) (fun _ => True) m w :=
 fun l J Jx W hW hJ _ hY h0 => callsIn_wide.2 (ya n l g off c K T m b1 b2 A J Jx W hK hA hc hm hT hj hJ (C1.ext hW) (C2.ext hW) hY h0)
theorem mD (K T c : Nat) (A : Oa) (w : World) (hK : 1 ≤ K) :
  Ct 176 #[.slice A T c, .int .i64 (K : Int)] w fun e w' => ∃ b1 b2, e = .returned (.func (.func 228) #[] #[.pointer (some ⟨b1, 0, none⟩), .pointer (some ⟨b2, 0, none⟩)]) ∧ w.heap.size ≤ b1 ∧ w.heap.size ≤ b2 ∧
   ao w' b1 23 #[.slice A T c] ∧ ao w' b2 3 #[.int .i64 (K : Int)] ∧ Ext w w' := by
 have E := Ext.refl w
 refine ai 9 func176 rfl rfl rfl rfl ?_
 intro _ hret
 refine aU ?_
 intro _ g1 B1 Vw ex
 replace E := E.ext ex
 have Vx := E.size
 refine aU ?_
 intro _ g2 B2 _ ex
 obtain ⟨E,B1⟩ := ba ex E B1
 refine au 15 ?_
 refine ak (jJ rfl) ?_
 refine aU ?_
 refine hret rfl ?_
 exact ⟨g1, g2, rfl, Vw, by omega, B1, B2, E⟩
end
section
open Go.RowKit
attribute [local irreducible] Y Ef WL WC WK WQ WM cE WN WF dc WJ gJ WR xF
open Ae Gm
namespace Gm
def De (m : Lb) (j : Nat) (out : Lb) : Nat → List UInt8
 | 0 => out
 | i + 1 => (De m j out i).set (16 * j + i) (UInt8.ofNat (cell (De m j out i) (16 * j + i) ^^^ cell m i))
def OL (key nn : Lb) (n : Nat) (s : List UInt8 × Nat) (j : Nat) : List UInt8 × Nat := (De (CI key nn (s.2 + 1)) j s.1 (min 16 (n - 16 * j)), s.2 + 1)
def JT (key nn : Lb) (n : Nat) (s : List UInt8 × Nat) (js : List Nat) : List UInt8 × Nat := js.foldl (OL key nn n) s
def NB (key nn t : Lb) : List UInt8 := (JT key nn t.length (t, 1) (List.range ((t.length + 15) / 16))).1
theorem mj (m : Lb) (j : Nat) (out : Lb) : ∀ i, (De m j out i).length = out.length
 | 0 => rfl
 | i + 1 => by rw [De, List.length_set, mj]
theorem FJ (key nn : Lb) (n : Nat) (s : List UInt8 × Nat) (js : List Nat) (j : Nat) : JT key nn n s (js ++ [j]) = OL key nn n (JT key nn n s js) j := by
 unfold JT; rw [List.foldl_append]; rfl
theorem pL (key nn : Lb) (n : Nat) : ∀ (js : List Nat) (s : List UInt8 × Nat), (JT key nn n s js).1.length = s.1.length ∧ (JT key nn n s js).2 = s.2 + js.length
  | [], s => ⟨rfl, rfl⟩
  | j :: js, s => by
    have h := pL key nn n js (OL key nn n s j)
    refine ⟨h.1.trans (mj _ _ _ _), h.2.trans ?_⟩
    show s.2 + 1 + js.length = s.2 + (js.length + 1)
    omega
theorem pR (key nn t : Lb) : (NB key nn t).length = t.length := (pL key nn _ _ _).1
theorem Gy {a b : Lb} (hl : a.length = b.length) (h : ∀ k, k < b.length → cell a k = cell b k) : a = b := by
 refine List.ext_getElem hl fun k h1 h2 => ?_
 have := h k h2
 unfold cell at this
 rw [List.getD_eq_getElem?_getD, List.getD_eq_getElem?_getD, List.getElem?_eq_getElem h1, List.getElem?_eq_getElem h2] at this
 exact UInt8.toNat_inj.1 (by simpa using this)
end Gm
theorem KR {β : Type} {B base n c : Nat} {e : TypeId} {A : Oa} {f : β → List Value} : OwnFrom B (fun s W => Row W base e A n c (f s)) := fun s W W' row hs hg hr => by
 refine World.ownsRow.kept (row := row) hs hg ?_
 rcases hs.2 with ⟨hv, _⟩ | ⟨g, cap, cur, hv, _, hB, _⟩
 ·injection hv with hA _ _; subst hA; exact .inl rfl
 ·injection hv with hA _ _
  subst hA
  refine .inr fun h => ?_
  have h' : row = some g := h.symm
  obtain ⟨_, o, ho, hc⟩ := hr g h'
  rw [show W.heap[g]? = _ from hB] at ho
  injection ho with ho
  subst ho
  cases hc
end
section
open Go.RowKit Tryz
attribute [local irreducible] Y Ef WL WC WK WQ WM cE WN WF dc WJ gJ WR xF
open Ae Gm
theorem xu {A B C : Oa} {n c d e : Nat} {key nn t : Lb} (w : World) (HA : Bs w A 16 key) (HB : Bs w B 12 nn) (HC : Bs w C n t) (hn : n ≤ 100000) :
  Ct 105 #[.slice A 16 c, .slice B 12 d, .slice C n e] w fun e w' => ∃ A' c', e = .returned (.slice A' n c') ∧ Row w' w.heap.size 5 A' n c' ((NB key nn t).map bv) ∧ Ext w w' := by
 have E := Ext.refl w
 have htl := HC.1
 refine xM (3) 40 func105 rfl rfl rfl rfl ?_
 intro _ _ hretD
 refine aU ?_
 intro _ VF B3 _ ex
 have VZ := B3.lt
 replace E := E.ext ex
 refine aU ?_
 intro Vw VG B4 _ ex
 have V0 := B4.lt; have V4 := ex.size
 obtain ⟨E,B3⟩ := ba ex E B3
 refine aU ?_
 refine aB func181 rfl (jd C n e t _ (HC.wk E) Om) ?_
 rintro e w2 ⟨A7, c7, rfl, O7, ex⟩
 obtain ⟨E,B3,B4⟩ := bC ex E B3 B4
 have R7 : Row w2 Vw.heap.size 5 A7 n c7 (t.map bv) := O7; have V5 := E.size
 refine aU ?_
 intro _ Vy D8 Vx exA
 refine aU ?_
 intro _ B8 cg
 have ex := exA.aE cg Vx; clear cg exA D8
 have V6 := B8.lt
 obtain ⟨E,B3,B4,R7⟩ := bO ex E B3 B4 R7
 refine au 6 ?_
 obtain ⟨g7, VC, VH⟩ : ∃ g7, (0 < n → A7 = some ⟨g7, 0, none⟩) ∧ (0 < n → Vw.heap.size ≤ g7 ∧ g7 < Vy) := by
  rcases Nat.eq_zero_or_pos n with h | h
  ·exact ⟨0, fun h' => by omega, fun h' => by omega⟩
  ·obtain ⟨g, v, h1, _⟩ := R7.get (i := 0) h
   refine ⟨g, fun _ => h1, fun _ => ?_⟩
   subst h1
   exact ⟨R7.lt.1, Nat.lt_of_lt_of_le (Row.lt O7).2 Vx⟩
 refine aB func176 rfl (mD 16 n c7 A7 _ Om) ?_
 rintro e w6 ⟨b1, b2, rfl, _, _, C1, C2, ex⟩
 obtain ⟨E,B3,B4,R7,B8⟩ := er ex E B3 B4 R7 B8
 obtain ⟨M, hM⟩ : ∃ M, M = (n + 15) / 16 := ⟨_, rfl⟩; have V7 := C1.lt; have V8 := C2.lt
 refine aU ?_
 refine oA (n := 3) (S := fun xs => xs = List.finRange M) Om rfl (enters func228 rfl rfl) (jR 2 g7 0 c7 16 n M b1 b2 A7 _ Om VC R7.cap Om Om (by intro j hj; omega) C1 C2) tB.trans (fun W l o o' hl ho _ _ => pJ W l o o' Om Om ho) (fun pre W => Row W Vw.heap.size 5 A7 n c7 ((JT key nn n (t, 1) (pre.map (·.val))).1.map bv) ∧ ao W Vy 227 #[.int .u32 ((1 + pre.length : Nat) : Int)] ∧ ao W VF 23 #[.slice A 16 c] ∧ ao W VG 23 #[.slice B 12 d] ∧ Below w.heap.size w W ∧ w6.heap.size ≤ W.heap.size) (OwnFrom.and KR (OwnFrom.and eU (OwnFrom.and eU (OwnFrom.and eU (OwnFrom.and (ownFrom_below (Nat.le_refl _) Om) nk))))) ⟨R7, B8, B3, B4, E, Nat.le_refl _⟩ rfl rfl ?_ ?_
 ·intro _ _ pre v W2 ⟨R, B8, B3, B4, E, _⟩ hl hout
  have hv := v.isLt
  obtain ⟨j, hj⟩ : ∃ j, j = v.val := ⟨_, rfl⟩
  obtain ⟨e1, VD⟩ : ∃ e1, e1 = min 16 (n - 16 * j) := ⟨_, rfl⟩
  have hjn : 16 * j < n := by omega
  obtain ⟨VI, VJ⟩ := VH Om
  obtain rfl := VC Om
  obtain ⟨V, hV⟩ : ∃ V, V = (JT key nn n (t, 1) (pre.map (·.val))).1 := ⟨_, rfl⟩
  have hVl : V.length = n := by rw [hV, (pL _ _ _ _ _).1]; exact htl
  have VK : (JT key nn n (t, 1) (pre.map (·.val))).2 = 1 + pre.length := by rw [(pL _ _ _ _ _).2, List.length_map]
  rw [← hV] at R
  have hpw : iN g7 0 16 n v.val = .slice (some ⟨g7, 0 + 16 * j, none⟩) e1 e1 := by unfold iN; rw [VD, hj]
  rw [hpw]
  have Cw := aA.refl [g7, Vy] W2
  refine ie ?_; intro K6 VL
  refine dW ?_
  refine au 1 ?_
  refine ak (aO rfl rfl (IntWalk.u32_in _ ⟨by omega, by omega⟩)) ?_
  refine aU ?_
  intro _ D8 cg
  replace R := R.aE cg (by intro b off e; injection e with e; injection e; omega); replace B3 := B3.aE cg Om; replace B4 := B4.aE cg Om; replace E := E.aE cg Om; replace B8 := D8.congr (cs' := #[.int .u32 ((2 + pre.length : Nat) : Int)]) (by show #[Value.int .u32 (((1 + pre.length : Nat) : Int) + 1)] = #[Value.int .u32 ((2 + pre.length : Nat) : Int)]; rw [show (((1 + pre.length : Nat) : Int) + 1) = ((2 + pre.length : Nat) : Int) by omega]); replace Cw := Cw.bo (aA.one cg); have V9 := cg.size
  refine au 1 ?_
  refine ae (VL ?_)
  refine ie ?_; intro K7 VM
  refine dW ?_
  refine aU ?_
  refine aB func179 rfl (tj _ (HA.wk E) (HB.wk E)) ?_
  rintro e w8 ⟨_, c10, rfl, VE, ex⟩
  obtain ⟨R,B3,B4,E,B8⟩ := er ex R B3 B4 E B8
  obtain ⟨VN, _, rfl, _⟩ := VE.get (i := 0) Om; replace Cw := Cw.ext ex
  refine au 3 ?_
  refine ae (VM ?_)
  refine ie ?_; intro K8 VO
  refine dW ?_
  refine au 4 ?_
  refine ae (VO ?_)
  refine vf ?_
  refine KP (fun n' L wr => ∃ (i : Nat), L = [(9, .slice (some ⟨g7, 0 + 16 * j, none⟩) e1 e1), (10, .slice (some ⟨VN, 0, none⟩) 16 c10), (24, .int .i64 (e1 : Int)), (25, .int .i64 (i : Int))] ∧ n' = e1 - i ∧ (i ≤ e1 ∧ aA [g7] w8 wr ∧ Row wr Vw.heap.size 5 (some ⟨g7, 0, none⟩) n c7 ((De (CI key nn (2 + pre.length)) j V i).map bv))) _ _ ⟨0, rfl, rfl, Nat.zero_le _, aA.refl _ _, R⟩ Ls ?_
  rintro _ n' L wr ⟨i, rfl, rfl, _, X, R⟩ VP
  refine ie ?_; intro K9 VQ
  refine dW ?_
  refine au 2 ?_
  refine ae (VQ ?_)
  refine ie ?_; intro Wa Vz
  refine Nh rfl (fun VR => ?_) (fun VR => ?_)
  ·skip
   refine Ka ?_
   refine ae (Vz ?_)
   refine ie ?_; intro Wb VA
   refine vf ?_
   refine ie ?_; intro Wc VB
   refine dW ?_
   refine au 3 ?_
   refine ae (VB ?_)
   obtain ⟨U, hU⟩ : ∃ U, U = De (CI key nn (2 + pre.length)) j V i := ⟨_, rfl⟩
   have hUl : U.length = n := by rw [hU, mj]; exact hVl
   rw [← hU] at R
   have HU := R.bs
   have HM := (VE.bo X So).bs
   refine tD Kr 11 rfl ?_; intro VS ex VT
   obtain ⟨X,R,HU,HM⟩ := bO ex X R HU HM
   refine zm [0, 1] ?_
   refine dk 2 rfl (fun _ => aw rfl rfl Tn.u Kr (j := i) Om Om) ?_
   refine my 3 rfl (af rfl Tn.u rfl (show _ = some (.int .u8 ((cell U (16 * j + i) : Nat) : Int)) from by rw [show 0 + 16 * j + i = 0 + (16 * j + i) by omega]; exact jW HU (k := 16 * j + i) Om)) ?_
   refine zm [4, 5] ?_
   refine dk 6 rfl (fun _ => aw rfl rfl Tn.u Kr (j := i) Om Om) ?_
   refine my 7 rfl (af rfl Tn.u rfl (jW HM (k := i) Om)) ?_
   refine dk 8 rfl (fun _ => bI rfl rfl ((bE (Ae.c8 _ _) (Ae.c8 _ _)).2.2)) ?_
   refine dk 9 rfl (fun _ => aw rfl rfl Tn.u Kr (j := i) Om Om) ?_
   refine bk 10 Kr ?_; refine bH rfl (lC (i := 16 * j + i) (congrArg (fun z => some (Value.pointer (some ⟨g7, z, none⟩))) (show 0 + 16 * j + i = 0 + (16 * j + i) from Nat.add_assoc _ _ _)) rfl rfl Kr R Om) rfl ?_
   rintro _ VU ⟨rfl, VV, cg⟩
   refine ⟨.inl rfl, ?_⟩
   have VW := X.bo (aA.one cg); have VX : Row VU Vw.heap.size 5 (some ⟨g7, 0, none⟩) n c7 ((U.set (16 * j + i) (UInt8.ofNat (cell U (16 * j + i) ^^^ cell (CI key nn (2 + pre.length)) i))).map bv) := (by rw [List.map_set, bv, fH (x8 (Ae.c8 _ _) (Ae.c8 _ _))]; exact VV)
   refine au 3 ?_
   refine ae (VA ?_)
   refine dW ?_
   refine au 3 ?_
   refine ae ?_
   refine VP _ _ ⟨i + 1, rfl, rfl, by omega, VW, (by rw [De, ← hU]; exact VX)⟩ Om Ls
  ·skip
   refine Is ?_
   refine aU ?_
   obtain rfl : i = e1 := by omega
   have Cz := Cw.bo X
   have We := Cz.size
   refine hout (oC Cz So) (ua Cz Om Om So So) ⟨?_, ?_, B3.bo X So, B4.bo X So, E.KJ X So, by omega⟩
   ·rw [List.map_append, List.map_singleton, FJ]
    unfold OL
    rw [← hV, VK, ← hj, ← VD, show 1 + pre.length + 1 = 2 + pre.length by omega]
    exact R
   ·exact (B8.bo X So).congr (by rw [List.length_append, List.length_singleton, show 1 + (pre.length + 1) = 2 + pre.length by omega])
 ·intro D _ W2 _ VY ⟨I1, _, _, _, I5, _⟩ hKD
  obtain rfl := VY
  have hfin : ((List.finRange M).map (·.val)) = List.range M := List.ext_getElem (by simp) (fun i h1 h2 => by simp)
  rw [hfin, hM, ← htl] at I1
  have HD : vl W2 D := hKD
  have hDw : w.heap.size ≤ D := by omega
  refine aU ?_
  refine hretD rfl HD ?_
  exact ⟨A7, c7, rfl, by unfold NB; rw [htl] at I1 ⊢; exact Row.lower (ownsRow_putObj I1 _ HD rfl) Om, I5.trans (belowK_b (w := w) (Nat.le_refl _) W2 D _ _ hDw HD rfl rfl)⟩
end
end Go.Proofs.YtgfafidlkldeaaaGreat
