/- gcm.tag. No conditions: contracts of functions. -/
import Derived.Test.YtgfafidlkldeaaaGreatGmB
import Derived.Test.YtgfafidlkldeaaaGreatAu
import Derived.Test.YtgfafidlkldeaaaGreatChunkA
import Derived.Test.YtgfafidlkldeaaaGreatDhB
set_option linter.unusedVariables false
set_option linter.unusedSimpArgs false
set_option maxHeartbeats 4000000
set_option maxRecDepth 4000
namespace Go.Proofs.YtgfafidlkldeaaaGreat
section
open Go.RowKit Tryz
attribute [local irreducible] Y Ef WL WC WK WQ WM cx WN WF cT WJ gZ
open Ae Gm
namespace Gm
def pb (a b : Nat) : Nat → List UInt8
 | 0 => List.replicate 16 0
 | i + 1 => ((pb a b i).set i (UInt8.ofNat (a / 2 ^ (56 - 8 * i)))).set (8 + i) (UInt8.ofNat (b / 2 ^ (56 - 8 * i)))
theorem jS (a b : Nat) : ∀ i, (pb a b i).length = 16
 | 0 => by rw [pb, List.length_replicate]
 | i + 1 => by rw [pb, List.length_set, List.length_set, jS a b i]
theorem qR (x : Nat) : IntKind.u8.wrap ((x : Nat) : Int) = ((UInt8.ofNat x).toNat : Int) := by rw [IntKind.wrap_u8', UInt8.toNat_ofNat']; omega
end Gm
theorem xe (a b : Nat) (w : World) :
  Ct 180 #[.agg (pv a b)] w fun e w' => ∃ g, e = .returned (.slice (some ⟨g, 0, none⟩) 16 16) ∧ w.heap.size ≤ g ∧ ao w' g 5 (cJ (pb a b 8)) ∧ Ext w w' := by
 have F := aX.refl [] w
 refine aj 32 func180 rfl rfl rfl rfl ?_
 intro _ hret
 refine aU ?_
 intro _ Vl B1 _ ex
 have Vo := B1.lt
 replace F := F.ext ex
 refine aU ?_
 refine af (dn (n := 16) (z := .int .u8 0) (bytes := 1) rfl rfl Tn.u Kr rfl rfl rfl rfl Om Om) rfl ?_
 rintro _ w1 ⟨g3, rfl, D3, _, ex⟩
 obtain ⟨F,B1⟩ := aY ex F B1
 have FF : aX [g3] w w1 := F.mono (by simp); have BT := D3.congr (cs' := cJ (List.replicate 16 0)) Kr
 refine aU ?_
 refine aF (fun n' L wr => ∃ (i : Nat), L = [(1, .pointer (some ⟨Vl, 0, none⟩)), (3, .slice (some ⟨g3, 0, none⟩) 16 16), (6, .int .i64 (i : Int))] ∧ n' = 8 - i ∧ (i ≤ 8 ∧ aX [g3] w wr ∧ ao wr Vl 220 (pv a b) ∧ ao wr g3 5 (cJ (pb a b i)))) _ _ ⟨0, rfl, rfl, Nat.zero_le _, FF, B1, BT⟩ Ls ?_
 rintro _ n' L wr ⟨i, rfl, rfl, _, F, B1, BT⟩ Vm
 refine aU ?_
 refine al rfl (fun Vn => ?_) (fun Vn => ?_)
 ·refine aU ?_
  have hbl := jS a b i
  refine iy [(20, [g3]), (22, [g3])] Kr 23 rfl ?_; intro Vp ex Vq
  obtain ⟨F,B1,BT⟩ := bC ex F B1 BT
  refine vF [(0, []), (1, []), (2, [20]), (3, [20]), (4, [20]), (5, []), (6, []), (7, []), (8, []), (9, [])] ?_
  refine aU ?_
  refine pV 10 [] rfl (fun wr (cr : aX ([]) _ wr) => bY rfl rfl Om (GF a (56 - 8 * i) Om Om)) ?_
  refine pV 11 [] rfl (fun wr (cr : aX ([]) _ wr) => bg rfl Tn.u Tn.u (qR _)) ?_
  refine vF [(12, [20]), (13, [20]), (14, [20]), (15, [20]), (16, [20])] ?_
  refine aU ?_
  refine pV 17 [20] rfl (fun wr (cr : aX ([g3]) _ wr) => bY rfl rfl Om (GF b (56 - 8 * i) Om Om)) ?_
  refine pV 18 [20] rfl (fun wr (cr : aX ([g3]) _ wr) => bg rfl Tn.u Tn.u (qR _)) ?_
  refine pV 19 [] rfl (fun wr (cr : aX ([]) _ wr) => aD rfl rfl Tn.u Kr (j := i) Om Om) ?_
  refine eO 20 Kr ?_; refine gv rfl (az rfl rfl rfl Kr BT (by simp only [aW, List.length_set]; omega)) rfl ?_
  rintro _ _ ⟨rfl, DA, cg⟩
  have ex := aX.one cg
  refine ⟨ex, ?_⟩
  clear cg; rw [eR, Nat.zero_add] at DA
  obtain ⟨F,B1⟩ := rL ex F B1
  have BT := DA
  refine pV 21 [] rfl (fun wr (cr : aX ([]) _ wr) => aD rfl rfl Tn.u Kr (j := 8 + i) Om Om) ?_
  refine eO 22 Kr ?_; refine gv rfl (az rfl rfl rfl Kr BT (by simp only [aW, List.length_set]; omega)) rfl ?_
  rintro _ _ ⟨rfl, DB, cg⟩
  have ex := aX.one cg
  refine ⟨ex, ?_⟩
  clear cg; rw [eR, Nat.zero_add] at DB
  obtain ⟨F,B1⟩ := rL ex F B1
  have BT := DB
  refine iG Kr ?_
  refine au 7 ?_
  refine ae ?_
  refine Vm _ _ ⟨i + 1, rfl, rfl, by omega, F, B1, (by rw [pb]; first | exact BT | (rw [List.set_comm _ _ Om]; exact BT))⟩ Om Ls
 ·refine aU ?_
  refine hret rfl ?_
  obtain rfl : i = 8 := by omega
  exact ⟨g3, rfl, by omega, BT, F.drop Om |>.cM (by simp)⟩
namespace Gm
def Oc (nn : Lb) (n : Nat) : List UInt8 := nn ++ [UInt8.ofNat (n / 16777216), UInt8.ofNat (n / 65536), UInt8.ofNat (n / 256), UInt8.ofNat n]
def zW (key nn : Lb) (n : Nat) : List UInt8 := enc key (Oc nn n)
theorem OK (n : Nat) : ((n : Nat) : Int) / 2 ^ min (24 : Int).toNat IntKind.u32.bits = ((n / 16777216 : Nat) : Int) := by
 show ((n : Int) / 2 ^ 24 : Int) = _
 omega
theorem Oq (n : Nat) : ((n : Nat) : Int) / 2 ^ min (16 : Int).toNat IntKind.u32.bits = ((n / 65536 : Nat) : Int) := by
 show ((n : Int) / 2 ^ 16 : Int) = _
 omega
theorem MR (n : Nat) : ((n : Nat) : Int) / 2 ^ min (8 : Int).toNat IntKind.u32.bits = ((n / 256 : Nat) : Int) := by
 show ((n : Int) / 2 ^ 8 : Int) = _
 omega
end Gm
theorem qL {A B : Oa} {c d n : Nat} {key nn : Lb} (w : World) (HA : Bs w A 16 key) (HB : Bs w B 12 nn) :
  Ct 179 #[.slice A 16 c, .slice B 12 d, .int .u32 (n : Int)] w fun e w' => ∃ A' c', e = .returned (.slice A' 16 c') ∧ Row w' w.heap.size 5 A' 16 c' ((zW key nn n).map bv) ∧ Ext w w' := by
 have E := Ext.refl w
 have Vl := HA
 refine aj 30 func179 rfl rfl rfl rfl ?_
 intro _ hret
 refine aU ?_
 refine aL func181 rfl (iD B 12 d nn _ HB Om) ?_
 rintro e w1 ⟨A1, c1, rfl, O1, ex⟩
 replace E := E.ext ex
 have R1 : Row w1 w.heap.size 5 A1 12 c1 (nn.map bv) := O1
 refine au 2 ?_
 refine ak (bY rfl rfl Om (OK n)) ?_
 refine ak (bg rfl Tn.u Tn.u (qR _)) ?_
 refine au 1 ?_
 refine ak (bY rfl rfl Om (Oq n)) ?_
 refine ak (bg rfl Tn.u Tn.u (qR _)) ?_
 refine au 1 ?_
 refine ak (bY rfl rfl Om (MR n)) ?_
 refine ak (bg rfl Tn.u Tn.u (qR _)) ?_
 refine au 1 ?_
 refine ak (bg rfl Tn.u Tn.u (qR _)) ?_
 refine af (aB (z := .int .u8 0) Tn.u Kr rfl rfl rfl rfl rfl) rfl ?_
 rintro _ _ ⟨_, rfl, D2, _, ex⟩
 obtain ⟨E,R1⟩ := aY ex E R1
 have Vm := E.size
 refine af (aQ rfl rfl bF R1 (At.fT (vs := [UInt8.ofNat (n / 16777216), UInt8.ofNat (n / 65536), UInt8.ofNat (n / 256), UInt8.ofNat n].map bv) (D2.congr (by rfl))) rfl aH Om Om Vm) rfl ?_
 rintro _ w3 ⟨A3, _, rfl, R3, be, _, _⟩
 have E3 := E.trans be; have R4 := R3.cat; have H4 : Bs w3 A3 16 (Oc nn n) := R4.bs; have Vn := Vl.wk E3
 refine aL func174 rfl (oG _ Vn H4) ?_
 rintro e _ ⟨A5, c5, rfl, R5, ex⟩
 have E4 := E3.ext ex
 refine aU ?_
 refine hret rfl ?_
 exact ⟨A5, c5, rfl, R5.lower E3.size, E4⟩
end
section
open Go.RowKit Tryz
attribute [local irreducible] Y Ef WL WC WK WQ WM cx WN WF cT
def gX (g off K T j : Nat) : Value := .slice (some ⟨g, off + K * j, none⟩) (min K (T - K * j)) (min K (T - K * j))
theorem wR (n l g off c K T m b1 b2 : Nat) (A : Oa) (J Jx : List (Fin m) → World → Prop) (w : World) (hK : 1 ≤ K) (hA : 0 < T → A = some ⟨g, off, none⟩) (hc : T ≤ c) (hm : K * m ≤ 70368744177664) (hT : T ≤ K * m) (hj : ∀ j, j < m → K * j < T) (hab : AbidesFrom w.heap.size J)
  (C1 : ao w b1 23 #[.slice A T c]) (C2 : ao w b2 3 #[.int .i64 (K : Int)])
  (hY : ∀ pre x W1, J pre W1 → pre.length < m → YieldAt Fence.wide (n - 1) Tryz.prog l #[gX g off K T x.val] W1 fun e W' => (e = .returned (.bool true) ∧ J (pre ++ [x]) W' ∧ rO b1 b2 W1 W') ∨ (e = .returned (.bool false) ∧ Jx (pre ++ [x]) W'))
  (h0 : J [] w) :
  Ct 228 #[.func (.yield l) #[] #[], .pointer (some ⟨b1, 0, none⟩), .pointer (some ⟨b2, 0, none⟩)] w fun e W' => (∃ v, e = .returned v) ∧ ((∃ xs, xs = List.finRange m ∧ J xs W') ∨ (∃ pre : List (Fin m), True ∧ Jx pre W')) := by
 refine jG 31 func228 rfl rfl rfl rfl ?_
 intro _ hret
 refine aU ?_
 refine aF (fun n' L wr => ∃ i : Nat, L = [(0, .func (.yield l) #[] #[]), (1, .pointer (some ⟨b1, 0, none⟩)), (2, .pointer (some ⟨b2, 0, none⟩)), (4, .int .i64 ((K * i : Nat) : Int))] ∧ n' = m - i ∧ (i ≤ m ∧ J ((List.finRange m).take i) wr ∧ ao wr b1 23 #[.slice A T c] ∧ ao wr b2 3 #[.int .i64 (K : Int)])) _ _ ⟨0, rfl, rfl, by omega, h0, C1, C2⟩ Ls ?_
 rintro _ n' L wr ⟨i, rfl, rfl, _, hJ, D1, D2⟩ Vm
 refine aU ?_
 refine al rfl (fun Vn => ?_) (fun Vn => ?_)
 ·have hlt : i < m := by
   rcases Nat.lt_or_ge i m with h | h
   ·exact h
   ·obtain rfl : i = m := by omega
    omega
  have hge : K * i + K ≤ K * m := by rw [← Nat.mul_succ]; exact Nat.mul_le_mul_left _ hlt
  obtain rfl := hA Om
  obtain ⟨e, he⟩ : ∃ e, e = min K (T - K * i) := ⟨_, rfl⟩
  have Vp : 1 ≤ e := by omega
  have Vq : K * i + e ≤ T := by omega
  refine aU ?_
  refine aA Kr 7 rfl ?_; intro Vr ex Vs
  obtain ⟨D1,D2⟩ := aY ex D1 D2
  replace hJ := hab _ _ _ none hJ (fo ex) (fun r e => by cases e)
  refine zm [0, 1, 2] ?_
  refine my 3 rfl (ph (s := 1) rfl rfl Tn.u Kr (j := K * i) rfl Om) ?_
  refine zm [4] ?_
  refine my 5 rfl (Y.as (xY rfl rfl) (congrArg (Value.int .i64) (show _ = ((e : Nat) : Int) by split <;> omega))) ?_
  refine Cc [6] ?_
  refine au 6 ?_
  refine kT (n) ?_
  refine db (bj rfl) rfl ?_
  refine db (ah rfl underlying23 rfl (D1.get (i := 0) rfl)) rfl ?_
  refine db (bj rfl) rfl ?_
  refine db (bj rfl) rfl ?_
  refine db (bj rfl) rfl ?_
  refine db (aN rfl rfl (br Om Om)) rfl ?_
  refine db (bj rfl) rfl ?_
  refine db (bj rfl) rfl ?_
  refine db (aN rfl rfl (br Om Om)) rfl ?_
  refine db (Y.as (tK (s := 1) rfl rfl rfl rfl underlying23 Kr (j := K * i) (h := K * i + e) (m := K * i + e) rfl Om Om Om Om Om Om) (show _ = gX g off K T i from by unfold gX; rw [Nat.mul_one, Nat.add_sub_cancel_left, he])) rfl ?_
  refine qU rfl rfl ((kF (hY ((List.finRange m).take i) ⟨i, hlt⟩ _ hJ (by rw [List.length_take, List.length_finRange]; omega)))) rfl ?_
  rintro e _ ⟨_, rfl, hbt, hbf⟩
  refine aU ?_
  refine db (kz rfl) rfl ?_
  refine sc ?_
  refine aU ?_
  refine bW rfl (fun Vl => ?_) (fun Vl => ?_)
  ·refine aU ?_
   refine hret (.inl rfl) ?_
   exact ⟨⟨_, rfl⟩, .inr ⟨_, trivial, hbf (by simpa using Vl)⟩⟩
  ·obtain ⟨Vo, hk⟩ := hbt (by simpa using Vl)
   replace D1 := hk.Lk D1
   replace D2 := hk.Lr D2
   refine au 9 ?_
   refine ae ?_
   refine Vm _ _ ⟨i + 1, rfl, rfl, by omega, by rw [List.take_succ_eq_append_getElem (by rw [List.length_finRange]; omega)]; simpa using Vo, D1, D2⟩ Om Ls
 ·refine aU ?_
  refine hret (.inr rfl) ?_
  have hfin : m ≤ i := by
   rcases Nat.lt_or_ge i m with h | h
   ·have := hj i h; omega
   ·exact h
  exact ⟨⟨_, rfl⟩, .inl ⟨_, rfl, by rw [List.take_of_length_le (by rw [List.length_finRange]; exact hfin)] at hJ; exact hJ⟩⟩
theorem iW (n g off c K T m b1 b2 : Nat) (A : Oa) (w : World) (hK : 1 ≤ K) (hA : 0 < T → A = some ⟨g, off, none⟩) (hc : T ≤ c) (hm : K * m ≤ 70368744177664) (hT : T ≤ K * m) (hj : ∀ j, j < m → K * j < T)
  (C1 : ao w b1 23 #[.slice A T c]) (C2 : ao w b2 3 #[.int .i64 (K : Int)]) :
  SeqStopsK Fence.wide n Tryz.prog 228 #[.pointer (some ⟨b1, 0, none⟩), .pointer (some ⟨b2, 0, none⟩)] (fun x : Fin m => #[gX g off K T x.val]) (rO b1 b2) (fun xs => xs = List.finRange m) (fun _ => True) m w :=
 fun l J Jx W hW hJ _ hY h0 => callsIn_wide.2 (wR n l g off c K T m b1 b2 A J Jx W hK hA hc hm hT hj hJ (C1.ext hW) (C2.ext hW) hY h0)
theorem kP (K T c : Nat) (A : Oa) (w : World) (hK : 1 ≤ K) :
  Ct 176 #[.slice A T c, .int .i64 (K : Int)] w fun e w' => ∃ b1 b2, e = .returned (.func (.func 228) #[] #[.pointer (some ⟨b1, 0, none⟩), .pointer (some ⟨b2, 0, none⟩)]) ∧ w.heap.size ≤ b1 ∧ w.heap.size ≤ b2 ∧
   ao w' b1 23 #[.slice A T c] ∧ ao w' b2 3 #[.int .i64 (K : Int)] ∧ Ext w w' := by
 have E := Ext.refl w
 refine aj 9 func176 rfl rfl rfl rfl ?_
 intro _ hret
 refine aU ?_
 intro _ g1 B1 Vl ex
 replace E := E.ext ex
 have Vm := E.size
 refine aU ?_
 intro _ g2 B2 _ ex
 obtain ⟨E,B1⟩ := aY ex E B1
 refine au 15 ?_
 refine ak (jc rfl) ?_
 refine aU ?_
 refine hret rfl ?_
 exact ⟨g1, g2, rfl, Vl, by omega, B1, B2, E⟩
end
section
open Go.RowKit
attribute [local irreducible] Y Ef WL WC WK WQ WM cx WN WF cT WJ gZ WR qo
open Ae Gm
namespace Gm
def nF (m : Lb) (j : Nat) (out : Lb) : Nat → List UInt8
 | 0 => out
 | i + 1 => (nF m j out i).set (16 * j + i) (UInt8.ofNat (cell (nF m j out i) (16 * j + i) ^^^ cell m i))
def MA (key nn : Lb) (n : Nat) (s : List UInt8 × Nat) (j : Nat) : List UInt8 × Nat := (nF (zW key nn (s.2 + 1)) j s.1 (min 16 (n - 16 * j)), s.2 + 1)
def FN (key nn : Lb) (n : Nat) (s : List UInt8 × Nat) (js : List Nat) : List UInt8 × Nat := js.foldl (MA key nn n) s
def Li (key nn t : Lb) : List UInt8 := (FN key nn t.length (t, 1) (List.range ((t.length + 15) / 16))).1
theorem kY (m : Lb) (j : Nat) (out : Lb) : ∀ i, (nF m j out i).length = out.length
 | 0 => rfl
 | i + 1 => by rw [nF, List.length_set, kY]
theorem Bk (key nn : Lb) (n : Nat) (s : List UInt8 × Nat) (js : List Nat) (j : Nat) : FN key nn n s (js ++ [j]) = MA key nn n (FN key nn n s js) j := by
 unfold FN; rw [List.foldl_append]; rfl
theorem n7 (key nn : Lb) (n : Nat) : ∀ (js : List Nat) (s : List UInt8 × Nat), (FN key nn n s js).1.length = s.1.length ∧ (FN key nn n s js).2 = s.2 + js.length
  | [], s => ⟨rfl, rfl⟩
  | j :: js, s => by
    have h := n7 key nn n js (MA key nn n s j)
    refine ⟨h.1.trans (kY _ _ _ _), h.2.trans ?_⟩
    show s.2 + 1 + js.length = s.2 + (js.length + 1)
    omega
theorem wL (key nn t : Lb) : (Li key nn t).length = t.length := (n7 key nn _ _ _).1
end Gm
theorem Fw {β : Type} {B base n c : Nat} {e : TypeId} {A : Oa} {f : β → List Value} : OwnFrom B (fun s W => Row W base e A n c (f s)) := fun s W W' row hs hg hr => by
 refine World.ownsRow.kept (row := row) hs hg ?_
 rcases hs.2 with ⟨hv, _⟩ | ⟨g, cap, cur, hv, _, hB, _⟩
 ·injection hv with hA _ _; subst hA; exact .inl rfl
 ·injection hv with hA _ _
  subst hA
  refine .inr fun h => ?_
  have h' : row = some g := h.symm
  obtain ⟨_, o, ho, hc⟩ := hr g h'
  rw [show W.heap[g]? = _ from hB] at ho
  injection ho with ho
  subst ho
  cases hc
end
section
open Go.RowKit Tryz
attribute [local irreducible] Y Ef WL WC WK WQ WM cx WN WF cT WJ gZ WR qo
open Ae Gm
theorem tf {A B C : Oa} {n c d e : Nat} {key nn t : Lb} (w : World) (HA : Bs w A 16 key) (HB : Bs w B 12 nn) (HC : Bs w C n t) (hn : n ≤ 100000) :
  Ct 105 #[.slice A 16 c, .slice B 12 d, .slice C n e] w fun e w' => ∃ A' c', e = .returned (.slice A' n c') ∧ Row w' w.heap.size 5 A' n c' ((Li key nn t).map bv) ∧ Ext w w' := by
 have E := Ext.refl w
 have htl := HC.1
 refine vI (3) 40 func105 rfl rfl rfl rfl ?_
 intro _ _ hretD
 refine aU ?_
 intro _ Vu B3 _ ex
 have VP := B3.lt
 replace E := E.ext ex
 refine aU ?_
 intro Vl Vv B4 _ ex
 have VQ := B4.lt; have VR := ex.size
 obtain ⟨E,B3⟩ := aY ex E B3
 refine aU ?_
 refine aL func181 rfl (iD C n e t _ (HC.wk E) Om) ?_
 rintro e w2 ⟨A7, c7, rfl, O7, ex⟩
 obtain ⟨E,B3,B4⟩ := bC ex E B3 B4
 have R7 : Row w2 Vl.heap.size 5 A7 n c7 (t.map bv) := O7; have VS := E.size
 refine aU ?_
 intro _ Vn D8 Vm exA
 refine aU ?_
 intro _ B8 cg
 have ex := exA.aw cg Vm; clear cg exA D8
 have VT := B8.lt
 obtain ⟨E,B3,B4,R7⟩ := bU ex E B3 B4 R7
 refine au 6 ?_
 obtain ⟨g7, Vr, Vw⟩ : ∃ g7, (0 < n → A7 = some ⟨g7, 0, none⟩) ∧ (0 < n → Vl.heap.size ≤ g7 ∧ g7 < Vn) := by
  rcases Nat.eq_zero_or_pos n with h | h
  ·exact ⟨0, fun h' => by omega, fun h' => by omega⟩
  ·obtain ⟨g, v, h1, _⟩ := R7.get (i := 0) h
   refine ⟨g, fun _ => h1, fun _ => ?_⟩
   subst h1
   exact ⟨R7.lt.1, Nat.lt_of_lt_of_le (Row.lt O7).2 Vm⟩
 refine aL func176 rfl (kP 16 n c7 A7 _ Om) ?_
 rintro e w6 ⟨b1, b2, rfl, _, _, C1, C2, ex⟩
 obtain ⟨E,B3,B4,R7,B8⟩ := gQ ex E B3 B4 R7 B8
 obtain ⟨M, hM⟩ : ∃ M, M = (n + 15) / 16 := ⟨_, rfl⟩; have VU := C1.lt; have VV := C2.lt
 refine aU ?_
 refine mH (n := 3) (S := fun xs => xs = List.finRange M) Om rfl (enters func228 rfl rfl) (iW 2 g7 0 c7 16 n M b1 b2 A7 _ Om Vr R7.cap Om Om (by intro j hj; omega) C1 C2) rO.trans (fun W l o o' hl ho _ _ => oo W l o o' Om Om ho) (fun pre W => Row W Vl.heap.size 5 A7 n c7 ((FN key nn n (t, 1) (pre.map (·.val))).1.map bv) ∧ ao W Vn 227 #[.int .u32 ((1 + pre.length : Nat) : Int)] ∧ ao W Vu 23 #[.slice A 16 c] ∧ ao W Vv 23 #[.slice B 12 d] ∧ Below w.heap.size w W ∧ w6.heap.size ≤ W.heap.size) (OwnFrom.and Fw (OwnFrom.and cX (OwnFrom.and cX (OwnFrom.and cX (OwnFrom.and (ownFrom_below (Nat.le_refl _) Om) ly))))) ⟨R7, B8, B3, B4, E, Nat.le_refl _⟩ rfl rfl ?_ ?_
 ·intro _ _ pre v W2 ⟨R, B8, B3, B4, E, _⟩ hl hout
  have hv := v.isLt
  obtain ⟨j, hj⟩ : ∃ j, j = v.val := ⟨_, rfl⟩
  obtain ⟨e1, Vs⟩ : ∃ e1, e1 = min 16 (n - 16 * j) := ⟨_, rfl⟩
  have hjn : 16 * j < n := by omega
  obtain ⟨Vx, Vy⟩ := Vw Om
  obtain rfl := Vr Om
  obtain ⟨V, hV⟩ : ∃ V, V = (FN key nn n (t, 1) (pre.map (·.val))).1 := ⟨_, rfl⟩
  have hVl : V.length = n := by rw [hV, (n7 _ _ _ _ _).1]; exact htl
  have Vz : (FN key nn n (t, 1) (pre.map (·.val))).2 = 1 + pre.length := by rw [(n7 _ _ _ _ _).2, List.length_map]
  rw [← hV] at R
  have hpw : gX g7 0 16 n v.val = .slice (some ⟨g7, 0 + 16 * j, none⟩) e1 e1 := by unfold gX; rw [Vs, hj]
  rw [hpw]
  have Cw := aX.refl [g7, Vn] W2
  refine eA ?_; intro K6 VA
  refine cI ?_
  refine au 1 ?_
  refine ak (aN rfl rfl (IntWalk.u32_in _ ⟨by omega, by omega⟩)) ?_
  refine aU ?_
  intro _ D8 cg
  replace R := R.aw cg (by intro b off e; injection e with e; injection e; omega); replace B3 := B3.aw cg Om; replace B4 := B4.aw cg Om; replace E := E.aw cg Om; replace B8 := D8.congr (cs' := #[.int .u32 ((2 + pre.length : Nat) : Int)]) (by show #[Value.int .u32 (((1 + pre.length : Nat) : Int) + 1)] = #[Value.int .u32 ((2 + pre.length : Nat) : Int)]; rw [show (((1 + pre.length : Nat) : Int) + 1) = ((2 + pre.length : Nat) : Int) by omega]); replace Cw := Cw.bT (aX.one cg); have VW := cg.size
  refine au 1 ?_
  refine ae (VA ?_)
  refine eA ?_; intro K7 VB
  refine cI ?_
  refine aU ?_
  refine aL func179 rfl (qL _ (HA.wk E) (HB.wk E)) ?_
  rintro e w8 ⟨_, VC, rfl, Vt, ex⟩
  obtain ⟨R,B3,B4,E,B8⟩ := gQ ex R B3 B4 E B8
  obtain ⟨VD, _, rfl, _⟩ := Vt.get (i := 0) Om; replace Cw := Cw.ext ex
  refine au 3 ?_
  refine ae (VB ?_)
  refine eA ?_; intro K8 VE
  refine cI ?_
  refine au 4 ?_
  refine ae (VE ?_)
  refine pF ?_
  refine FJ (fun n' L wr => ∃ (i : Nat), L = [(9, .slice (some ⟨g7, 0 + 16 * j, none⟩) e1 e1), (10, .slice (some ⟨VD, 0, none⟩) 16 VC), (24, .int .i64 (e1 : Int)), (25, .int .i64 (i : Int))] ∧ n' = e1 - i ∧ (i ≤ e1 ∧ aX [g7] w8 wr ∧ Row wr Vl.heap.size 5 (some ⟨g7, 0, none⟩) n c7 ((nF (zW key nn (2 + pre.length)) j V i).map bv))) _ _ ⟨0, rfl, rfl, Nat.zero_le _, aX.refl _ _, R⟩ Ls ?_
  rintro _ n' L wr ⟨i, rfl, rfl, _, X, R⟩ VF
  refine eA ?_; intro K9 VG
  refine cI ?_
  refine au 2 ?_
  refine ae (VG ?_)
  refine eA ?_; intro VX Vo
  refine CJ rfl (fun VH => ?_) (fun VH => ?_)
  ·skip
   refine yj ?_
   refine ae (Vo ?_)
   refine eA ?_; intro VY Vp
   refine pF ?_
   refine eA ?_; intro VZ Vq
   refine cI ?_
   refine au 3 ?_
   refine ae (Vq ?_)
   obtain ⟨U, hU⟩ : ∃ U, U = nF (zW key nn (2 + pre.length)) j V i := ⟨_, rfl⟩
   have hUl : U.length = n := by rw [hU, kY]; exact hVl
   rw [← hU] at R
   have HU := R.bs
   have HM := (Vt.bT X So).bs
   refine rM Kr 11 rfl ?_; intro VI ex VJ
   obtain ⟨X,R,HU,HM⟩ := bU ex X R HU HM
   refine zm [0, 1] ?_
   refine cU 2 rfl (fun _ => aD rfl rfl Tn.u Kr (j := i) Om Om) ?_
   refine my 3 rfl (ah rfl Tn.u rfl (show _ = some (.int .u8 ((cell U (16 * j + i) : Nat) : Int)) from by rw [show 0 + 16 * j + i = 0 + (16 * j + i) by omega]; exact jt HU (k := 16 * j + i) Om)) ?_
   refine zm [4, 5] ?_
   refine cU 6 rfl (fun _ => aD rfl rfl Tn.u Kr (j := i) Om Om) ?_
   refine my 7 rfl (ah rfl Tn.u rfl (jt HM (k := i) Om)) ?_
   refine cU 8 rfl (fun _ => bJ rfl rfl ((bN (Ae.c8 _ _) (Ae.c8 _ _)).2.2)) ?_
   refine cU 9 rfl (fun _ => aD rfl rfl Tn.u Kr (j := i) Om Om) ?_
   refine aM 10 Kr ?_; refine aO rfl (jR (i := 16 * j + i) (congrArg (fun z => some (Value.pointer (some ⟨g7, z, none⟩))) (show 0 + 16 * j + i = 0 + (16 * j + i) from Nat.add_assoc _ _ _)) rfl rfl Kr R Om) rfl ?_
   rintro _ VK ⟨rfl, VL, cg⟩
   refine ⟨.inl rfl, ?_⟩
   have VM := X.bT (aX.one cg); have VN : Row VK Vl.heap.size 5 (some ⟨g7, 0, none⟩) n c7 ((U.set (16 * j + i) (UInt8.ofNat (cell U (16 * j + i) ^^^ cell (zW key nn (2 + pre.length)) i))).map bv) := (by rw [List.map_set, bv, eT (x8 (Ae.c8 _ _) (Ae.c8 _ _))]; exact VL)
   refine au 3 ?_
   refine ae (Vp ?_)
   refine cI ?_
   refine au 3 ?_
   refine ae ?_
   refine VF _ _ ⟨i + 1, rfl, rfl, by omega, VM, (by rw [nF, ← hU]; exact VN)⟩ Om Ls
  ·skip
   refine Fj ?_
   refine aU ?_
   obtain rfl : i = e1 := by omega
   have Cz := Cw.bT X
   have V0 := Cz.size
   refine hout (ia Cz So) (rW Cz Om Om So So) ⟨?_, ?_, B3.bT X So, B4.bT X So, E.ES X So, by omega⟩
   ·rw [List.map_append, List.map_singleton, Bk]
    unfold MA
    rw [← hV, Vz, ← hj, ← Vs, show 1 + pre.length + 1 = 2 + pre.length by omega]
    exact R
   ·exact (B8.bT X So).congr (by rw [List.length_append, List.length_singleton, show 1 + (pre.length + 1) = 2 + pre.length by omega])
 ·intro D _ W2 _ VO ⟨I1, _, _, _, I5, _⟩ hKD
  obtain rfl := VO
  have hfin : ((List.finRange M).map (·.val)) = List.range M := List.ext_getElem (by simp) (fun i h1 h2 => by simp)
  rw [hfin, hM, ← htl] at I1
  have HD : ri W2 D := hKD
  have hDw : w.heap.size ≤ D := by omega
  refine aU ?_
  refine hretD rfl HD ?_
  exact ⟨A7, c7, rfl, by unfold Li; rw [htl] at I1 ⊢; exact Row.lower (ownsRow_putObj I1 _ HD rfl) Om, I5.trans (belowK_b (w := w) (Nat.le_refl _) W2 D _ _ hDw HD rfl rfl)⟩
end
section
open Go.RowKit Tryz
attribute [local irreducible] Y Ef WL WC WK WQ WM cx WN WF cT WJ gZ WR qo
open Ae Gm
namespace Gm
def pad (p : Lb) : List UInt8 := p ++ List.replicate (16 - p.length) 0
def Bj (xs : Lb) (j : Nat) : List UInt8 := (xs.drop (16 * j)).take 16
def N1 (h : Nat × Nat) (xs : Lb) (y : Nat × Nat) (j : Nat) : Nat × Nat := mul (y.1 ^^^ pf (pad (Bj xs j)) 16) (y.2 ^^^ ps (pad (Bj xs j)) 16) h.1 h.2
def y7 (h : Nat × Nat) (xs : Lb) (y : Nat × Nat) (js : List Nat) : Nat × Nat := js.foldl (N1 h xs) y
def ab (h : Nat × Nat) (xs : Lb) (y : Nat × Nat) : Nat × Nat := y7 h xs y (List.range ((xs.length + 15) / 16))
def hk (key : Lb) : Nat × Nat := (pf (enc key (List.replicate 16 0)) 16, ps (enc key (List.replicate 16 0)) 16)
def BV (h : Nat × Nat) (y : Nat × Nat) (m n : Nat) : Nat × Nat := mul (y.1 ^^^ m * 8) (y.2 ^^^ n * 8) h.1 h.2
def tag (key nn ss ms : Lb) : List UInt8 :=
 pb ((BV (hk key) (ab (hk key) ss (ab (hk key) ms (0, 0))) ms.length ss.length).1 ^^^ pf (zW key nn 1) 16) ((BV (hk key) (ab (hk key) ss (ab (hk key) ms (0, 0))) ms.length ss.length).2 ^^^ ps (zW key nn 1) 16) 8
theorem dN (key nn ss ms : Lb) : (tag key nn ss ms).length = 16 := jS _ _ _
theorem cG {p : Lb} (h : p.length ≤ 16) : (pad p).length = 16 := by unfold pad; rw [List.length_append, List.length_replicate]; omega
def ok (y : Nat × Nat) : Prop := y.1 < 18446744073709551616 ∧ y.2 < 18446744073709551616
theorem Du (a b : Nat) {h : Nat × Nat} (hh : ok h) : ok (mul a b h.1 h.2) := Cg hh.1 hh.2 128
theorem oC {h : Nat × Nat} (hh : ok h) (xs : Lb) : ∀ (js : List Nat) {y : Nat × Nat}, ok y → ok (y7 h xs y js)
 | [], _, hy => hy
 | j :: js, y, _ => oC hh xs js (Du _ _ hh)
theorem uA (h : Nat × Nat) (xs : Lb) (y : Nat × Nat) (js : List Nat) (j : Nat) : y7 h xs y (js ++ [j]) = N1 h xs (y7 h xs y js) j := by
 unfold y7; rw [List.foldl_append]; rfl
theorem Mh (key : Lb) : ok (hk key) := ⟨oX _ _, pJ _ _⟩
end Gm
theorem GO {β : Type} {B D : Nat} (h : D < B) : OwnFrom B (fun (_ : β) W => ri W D) := fun s W W' row hs hg hr =>
 (hg.block D (ri.lt hs) (fun e => by have := (hr D e.symm).1; omega)).trans hs
theorem ri.bT {S : List Nat} {w w' : World} {D : Nat} (h : ri w D) (k : aX S w w') (hD : D ∉ S) : ri w' D := (k.block D h.lt hD).trans h
theorem qF {w : World} {g o n : Nat} {xs : Lb} (H : Bs w (some ⟨g, o, none⟩) n xs) (j e : Nat) (he : e = min 16 (n - 16 * j)) : Bs w (some ⟨g, o + 16 * j, none⟩) e (Bj xs j) := by
 have h := (H.wj (16 * j)).take (k := e) Om
 rwa [show ((xs.drop (16 * j)).take e) = Bj xs j from by unfold Bj; rw [List.take_eq_take_iff, List.length_drop, H.1]; omega] at h
theorem CK {β : Type} {B : Nat} : OwnFrom B (fun (_ : β) _ => True) := fun _ _ _ _ _ _ _ => trivial
theorem qJ (p : Lb) : ((cJ (List.replicate 16 0)).toList.take 0 ++ p.map bv ++ (cJ (List.replicate 16 0)).toList.drop (0 + (p.map bv).length)).toArray = cJ (pad p) := by
 unfold pad cJ
 rw [List.take_zero, List.nil_append, Nat.zero_add, List.length_map, List.map_append, List.map_replicate, List.map_replicate, List.drop_replicate]
theorem DN {A B C G : Oa} {n m c d e f : Nat} {key nn ss ms : Lb} (w : World) (HA : Bs w A 16 key) (HB : Bs w B 12 nn) (HC : Bs w C n ss) (hn : n ≤ 100000) (hne : n ≤ e) (HG : Bs w G m ms) (hm : m ≤ 100000) (hmf : m ≤ f) :
  Ct 104 #[.slice A 16 c, .slice B 12 d, .slice C n e, .slice G m f] w fun e w' => ∃ A' c', e = .returned (.slice A' 16 c') ∧ Row w' w.heap.size 5 A' 16 c' ((tag key nn ss ms).map bv) ∧ Ext w w' := by
 have E := Ext.refl w
 have Mu := HC.1
 have hml := HG.1
 have hhk := Mh key
 obtain ⟨H, hH⟩ : ∃ H, H = hk key := ⟨_, rfl⟩
 rw [← hH] at hhk
 refine uE (4) 67 func104 rfl rfl rfl rfl ?_
 intro _ hretDD
 refine aU ?_
 refine af (dn (n := 16) (z := .int .u8 0) (bytes := 1) rfl rfl Tn.u Kr rfl rfl rfl rfl Om Om) rfl ?_
 rintro _ _ ⟨_, rfl, D3, _, ex⟩
 replace E := E.ext ex
 have H3 := aZ (xs := List.replicate 16 0) (D3.congr Kr) rfl
 refine aL func174 rfl (oG _ (HA.wk E) H3) ?_
 rintro e _ ⟨_, _, rfl, R5, ex⟩
 replace E := E.ext ex
 have H5 := R5.bs
 refine aU ?_
 refine aL func175 rfl (iF _ H5) ?_
 rintro e _ ⟨rfl, ex⟩
 replace E := E.ext ex
 have Wg := E.size
 refine aU ?_
 intro _ Vv VU Vw exA
 refine aU ?_
 intro _ Vm cg
 have ex := exA.aw cg Vw; clear cg exA VU
 have VV := Vm.lt
 replace E := E.ext ex
 replace Vm := Vm.congr (cs' := pv H.1 H.2) (by rw [hH]; rfl)
 refine aU ?_
 intro _ Vq Vl _ ex
 obtain ⟨E,Vm⟩ := aY ex E Vm
 replace Vl := Vl.congr (cs' := pv 0 0) rfl; have VW := Vl.lt
 refine aU ?_
 refine af (aB (z := .slice none 0 0) Tn.u Kr rfl rfl rfl rfl rfl) rfl ?_
 rintro _ _ ⟨VM, rfl, Vn, _, ex⟩
 obtain ⟨E,Vm,Vl⟩ := bC ex E Vm Vl
 have Wh := E.size; have VX := Vn.lt
 refine aU ?_
 refine rz 3 ?_; refine lW ?_; intro VN Vt
 refine au 13 ?_
 refine ak (aD rfl rfl Tn.u Kr (j := 0) rfl Om) ?_
 refine au 7 ?_
 obtain ⟨ga, oa, hA⟩ : ∃ g o, 0 < m → G = some ⟨g, o, none⟩ := by
  rcases Nat.eq_zero_or_pos m with h | h
  ·exact ⟨0, 0, fun h' => by omega⟩
  ·obtain ⟨g, o, h1, _⟩ := HG.get (k := 0) h
   exact ⟨g, o, fun _ => h1⟩
 refine aL func176 rfl (kP 16 m f G _ Om) ?_
 rintro e w6 ⟨b1, b2, rfl, VY, VZ, C1, C2, ex⟩
 obtain ⟨E,Vm,Vl,Vn⟩ := bU ex E Vm Vl Vn
 obtain ⟨M, hM⟩ : ∃ M, M = (m + 15) / 16 := ⟨_, rfl⟩; have V0 := C1.lt; have V1 := C2.lt; have hy : ok (0, 0) := (show ok (0, 0) from ⟨by omega, by omega⟩)
 refine aU ?_
 refine mH (n := 4) (S := fun xs => xs = List.finRange M) Om rfl (enters func228 rfl rfl) (iW 3 ga oa f 16 m M b1 b2 G _ Om hA Om Om Om (by intro j hj; omega) C1 C2) rO.trans (fun W l o o' hl ho _ _ => oo W l o o' Om Om ho) (fun pre W => ao W Vq 220 (pv (y7 H ms (0, 0) (pre.map (·.val))).1 (y7 H ms (0, 0) (pre.map (·.val))).2) ∧ ao W Vv 220 (pv H.1 H.2) ∧ ao W VM 23 #[.slice G m f, .slice C n e] ∧ Below w.heap.size w W ∧ w6.heap.size ≤ W.heap.size ∧ True) (OwnFrom.and cX (OwnFrom.and cX (OwnFrom.and cX (OwnFrom.and (ownFrom_below (Nat.le_refl _) Om) (OwnFrom.and ly CK))))) ⟨Vl, Vm, Vn, E, Nat.le_refl _, trivial⟩ rfl rfl ?_ ?_
 ·intro kR Q2 pre v W2 ⟨Vl, Vm, Vn, E, hz, Vo⟩ hl hout
  have hv := v.isLt
  obtain ⟨j, hj⟩ : ∃ j, j = v.val := ⟨_, rfl⟩
  obtain ⟨e1, Vx⟩ : ∃ e1, e1 = min 16 (m - 16 * j) := ⟨_, rfl⟩
  have hjn : 16 * j < m := by omega
  obtain rfl := hA Om
  have hpw : gX ga oa 16 m v.val = .slice (some ⟨ga, oa + 16 * j, none⟩) e1 e1 := by unfold gX; rw [Vx, hj]
  rw [hpw]
  have HP := qF (HG.wk E) j e1 Vx
  have hpl := HP.1
  obtain ⟨y, hyy⟩ : ∃ y, y = y7 H ms (0, 0) (pre.map (·.val)) := ⟨_, rfl⟩
  have hyo : ok y := by rw [hyy]; exact oC hhk _ _ hy
  rw [← hyy] at Vl
  have XW := Ext.refl W2
  refine eA ?_; intro Wi VA
  refine cI ?_
  refine af (dn (n := 16) (z := .int .u8 0) (bytes := 1) rfl rfl Tn.u Kr rfl rfl rfl rfl Om Om) rfl ?_
  rintro _ w7 ⟨VB, rfl, Vr, Vs, ex⟩
  obtain ⟨Vl,Vm,Vn,E,HP,XW⟩ := gL ex Vl Vm Vn E HP XW
  replace Vr := Vr.congr (cs' := cJ (List.replicate 16 0)) Kr
  refine au 2 ?_
  refine ae (VA ?_)
  refine eA ?_; intro Wj VC
  refine cI ?_
  refine aU ?_
  refine af (fz (o := 0) rfl rfl Tn.u Kr Vr HP.2 (by rw [List.length_map, hpl]; exact (Nat.min_eq_left Om).symm) (by rw [List.length_map, hpl, aW, List.length_replicate]; omega) aH) rfl ?_
  rintro _ w8 ⟨rfl, D8, cg⟩
  replace Vl := Vl.aw cg Om; replace Vm := Vm.aw cg Om; replace Vn := Vn.aw cg Om; replace E := E.aw cg Om; replace XW := XW.aw cg Vs; rw [qJ] at D8; have HW := aZ D8 (cG Om)
  refine au 1 ?_
  refine ae (VC ?_)
  refine rM Kr 7 rfl ?_; intro VD ex VE
  obtain ⟨Vl,Vm,Vn,E,XW,HW⟩ := gL ex Vl Vm Vn E XW HW
  refine zm [0, 1, 4] ?_
  refine bm 2 rfl func175 rfl (iF _ HW) ?_
  rintro e w9 ⟨rfl, ex⟩
  obtain ⟨Vl,Vm,Vn,E,XW⟩ := gQ ex Vl Vm Vn E XW
  refine aU ?_
  refine bm 3 rfl func177 rfl (iA _ _ _ _ hyo.1 hyo.2 (oX _ _) (pJ _ _) _) ?_
  rintro e VO ⟨rfl, ex⟩
  obtain ⟨Vl,Vm,Vn,E,XW⟩ := gQ ex Vl Vm Vn E XW
  refine aU ?_
  refine bm 5 rfl func178 rfl (kB _ _ _ _ (EG hyo.1 (oX _ _)) (EG hyo.2 (pJ _ _)) hhk.1 hhk.2 _) ?_
  rintro e VP ⟨rfl, ex⟩
  obtain ⟨Vl,Vm,Vn,E,XW⟩ := gQ ex Vl Vm Vn E XW
  refine aU ?_
  refine aM 6 Kr ?_; refine aO rfl (bA (o := 0) rfl rfl Kr Vl Nb (bf rfl)) rfl ?_
  rintro _ VQ ⟨rfl, Vy, cg⟩
  refine ⟨.inl rfl, ?_⟩
  have Cz := (aX.of XW [Vq]).bT (aX.one cg)
  refine aU ?_
  have V2 := Cz.size
  have hcz := aX.one cg
  refine hout (ia Cz So) (rW Cz Om Om So So) ⟨?_, Vm.bT hcz So, Vn.bT hcz So, E.ES hcz So, by omega, trivial⟩
  rw [List.map_append, List.map_singleton, uA, ← hyy, ← hj]
  exact Vy.congr rfl
 ·intro D1 V4 W2 _ VF ⟨Vl, Vm, Vn, E, hz, VR⟩ hKD
  obtain rfl := VF
  have hfin : ((List.finRange M).map (·.val)) = List.range M := List.ext_getElem (by simp) (fun i h1 h2 => by simp)
  rw [hfin, hM, ← hml] at Vl
  obtain ⟨y0, VG⟩ : ∃ y0, y0 = ab H ms (0, 0) := ⟨_, rfl⟩
  have hyo : ok y0 := by rw [VG]; exact oC hhk _ _ (show ok (0, 0) from ⟨by omega, by omega⟩)
  rw [show y7 H ms (0, 0) (List.range ((ms.length + 15) / 16)) = y0 from VG.symm] at Vl
  have Vo : ri W2 D1 := hKD
  have Wk := Vo.lt
  have Wl : Vq < D1 := by omega
  refine au 7 ?_
  refine ae (Vt ?_)
  refine lW ?_; intro VS Vu
  refine au 13 ?_
  refine ak (aD rfl rfl Tn.u Kr (j := 1) rfl Om) ?_
  refine au 7 ?_
  obtain ⟨ga, oa, hA⟩ : ∃ g o, 0 < n → C = some ⟨g, o, none⟩ := by
   rcases Nat.eq_zero_or_pos n with h | h
   ·exact ⟨0, 0, fun h' => by omega⟩
   ·obtain ⟨g, o, h1, _⟩ := HC.get (k := 0) h
    exact ⟨g, o, fun _ => h1⟩
  refine aL func176 rfl (kP 16 n e C _ Om) ?_
  rintro e w6 ⟨b1, b2, rfl, VY, VZ, C1, C2, ex⟩
  obtain ⟨Vl,Vm,Vn,E,Vo⟩ := gQ ex Vl Vm Vn E Vo
  obtain ⟨M, hM⟩ : ∃ M, M = (n + 15) / 16 := ⟨_, rfl⟩; have V0 := C1.lt; have V1 := C2.lt; have hy : ok y0 := hyo
  refine aU ?_
  refine mH (n := 4) (S := fun xs => xs = List.finRange M) Om rfl (enters func228 rfl rfl) (iW 3 ga oa e 16 n M b1 b2 C _ Om hA Om Om Om (by intro j hj; omega) C1 C2) rO.trans (fun W l o o' hl ho _ _ => oo W l o o' Om Om ho) (fun pre W => ao W Vq 220 (pv (y7 H ss y0 (pre.map (·.val))).1 (y7 H ss y0 (pre.map (·.val))).2) ∧ ao W Vv 220 (pv H.1 H.2) ∧ ao W VM 23 #[.slice G m f, .slice C n e] ∧ Below w.heap.size w W ∧ w6.heap.size ≤ W.heap.size ∧ ri W D1) (OwnFrom.and cX (OwnFrom.and cX (OwnFrom.and cX (OwnFrom.and (ownFrom_below (Nat.le_refl _) Om) (OwnFrom.and ly (GO Om)))))) ⟨Vl, Vm, Vn, E, Nat.le_refl _, Vo⟩ rfl rfl ?_ ?_
  ·intro kR Q2 pre v W2 ⟨Vl, Vm, Vn, E, hz, Vo⟩ hl hout
   have hv := v.isLt
   obtain ⟨j, hj⟩ : ∃ j, j = v.val := ⟨_, rfl⟩
   obtain ⟨e1, Vx⟩ : ∃ e1, e1 = min 16 (n - 16 * j) := ⟨_, rfl⟩
   have hjn : 16 * j < n := by omega
   obtain rfl := hA Om
   have hpw : gX ga oa 16 n v.val = .slice (some ⟨ga, oa + 16 * j, none⟩) e1 e1 := by unfold gX; rw [Vx, hj]
   rw [hpw]
   have HP := qF (HC.wk E) j e1 Vx
   have hpl := HP.1
   obtain ⟨y, hyy⟩ : ∃ y, y = y7 H ss y0 (pre.map (·.val)) := ⟨_, rfl⟩
   have hyo : ok y := by rw [hyy]; exact oC hhk _ _ hy
   rw [← hyy] at Vl
   have XW := Ext.refl W2
   refine eA ?_; intro Wm VH
   refine cI ?_
   refine af (dn (n := 16) (z := .int .u8 0) (bytes := 1) rfl rfl Tn.u Kr rfl rfl rfl rfl Om Om) rfl ?_
   rintro _ w7 ⟨VB, rfl, Vr, Vs, ex⟩
   obtain ⟨Vl,Vm,Vn,E,HP,XW⟩ := gL ex Vl Vm Vn E HP XW
   replace Vr := Vr.congr (cs' := cJ (List.replicate 16 0)) Kr
   refine au 2 ?_
   refine ae (VH ?_)
   refine eA ?_; intro Wn VI
   refine cI ?_
   refine aU ?_
   refine af (fz (o := 0) rfl rfl Tn.u Kr Vr HP.2 (by rw [List.length_map, hpl]; exact (Nat.min_eq_left Om).symm) (by rw [List.length_map, hpl, aW, List.length_replicate]; omega) aH) rfl ?_
   rintro _ w8 ⟨rfl, D8, cg⟩
   replace Vl := Vl.aw cg Om; replace Vm := Vm.aw cg Om; replace Vn := Vn.aw cg Om; replace E := E.aw cg Om; replace XW := XW.aw cg Vs; rw [qJ] at D8; have HW := aZ D8 (cG Om)
   refine au 1 ?_
   refine ae (VI ?_)
   refine rM Kr 7 rfl ?_; intro VD ex VE
   obtain ⟨Vl,Vm,Vn,E,XW,HW⟩ := gL ex Vl Vm Vn E XW HW
   refine zm [0, 1, 4] ?_
   refine bm 2 rfl func175 rfl (iF _ HW) ?_
   rintro e w9 ⟨rfl, ex⟩
   obtain ⟨Vl,Vm,Vn,E,XW⟩ := gQ ex Vl Vm Vn E XW
   refine aU ?_
   refine bm 3 rfl func177 rfl (iA _ _ _ _ hyo.1 hyo.2 (oX _ _) (pJ _ _) _) ?_
   rintro e VO ⟨rfl, ex⟩
   obtain ⟨Vl,Vm,Vn,E,XW⟩ := gQ ex Vl Vm Vn E XW
   refine aU ?_
   refine bm 5 rfl func178 rfl (kB _ _ _ _ (EG hyo.1 (oX _ _)) (EG hyo.2 (pJ _ _)) hhk.1 hhk.2 _) ?_
   rintro e VP ⟨rfl, ex⟩
   obtain ⟨Vl,Vm,Vn,E,XW⟩ := gQ ex Vl Vm Vn E XW
   refine aU ?_
   refine aM 6 Kr ?_; refine aO rfl (bA (o := 0) rfl rfl Kr Vl Nb (bf rfl)) rfl ?_
   rintro _ VQ ⟨rfl, Vy, cg⟩
   refine ⟨.inl rfl, ?_⟩
   have Cz := (aX.of XW [Vq]).bT (aX.one cg)
   refine aU ?_
   have V2 := Cz.size
   have hcz := aX.one cg
   refine hout (ia Cz So) (rW Cz Om Om So So) ⟨?_, Vm.bT hcz So, Vn.bT hcz So, E.ES hcz So, by omega, Vo.bT Cz So⟩
   rw [List.map_append, List.map_singleton, uA, ← hyy, ← hj]
   exact Vy.congr rfl
  ·intro D2 V4 W2 _ VF ⟨Vl, Vm, Vn, E, hz, VR⟩ hKD
   obtain rfl := VF
   have hfin : ((List.finRange M).map (·.val)) = List.range M := List.ext_getElem (by simp) (fun i h1 h2 => by simp)
   rw [hfin, hM, ← Mu] at Vl
   rw [show y7 H ss y0 (List.range ((ss.length + 15) / 16)) = ab H ss y0 from rfl] at Vl
   have Vp : ri W2 D2 := hKD
   replace Vo : ri W2 D1 := VR
   have hne : D2 ≠ D1 := by omega
   refine au 7 ?_
   refine ae (Vu ?_)
   refine lW ?_; intro VT VJ
   refine aU ?_
   obtain ⟨y, hyy⟩ : ∃ y, y = ab H ss y0 := ⟨_, rfl⟩
   have hyo : ok y := by rw [hyy]; exact oC hhk _ _ hyo
   have hlo : ok (BV H y m n) := Du _ _ hhk
   rw [← hyy] at Vl
   refine aA Kr 14 rfl ?_; intro V5 ex V6
   obtain ⟨Vl,Vm,E,Vo,Vp⟩ := gQ ex Vl Vm E Vo Vp
   refine zm [0, 1, 2] ?_
   refine my 3 rfl (bg rfl Tn.u Tn.u (show _ = ((m : Nat) : Int) from IntWalk.u64_in _ ⟨by omega, by omega⟩)) ?_
   refine cU 4 rfl (fun _ => cz rfl rfl (show _ = ((m * 8 : Nat) : Int) from IntWalk.u64_in _ ⟨by omega, by omega⟩)) ?_
   refine zm [5, 6] ?_
   refine my 7 rfl (bg rfl Tn.u Tn.u (show _ = ((n : Nat) : Int) from IntWalk.u64_in _ ⟨by omega, by omega⟩)) ?_
   refine cU 8 rfl (fun _ => cz rfl rfl (show _ = ((n * 8 : Nat) : Int) from IntWalk.u64_in _ ⟨by omega, by omega⟩)) ?_
   refine cU 9 rfl (fun _ => aJ rfl (cells := pv (m * 8) (n * 8)) Kr) ?_
   refine zm [11] ?_
   refine bm 10 rfl func177 rfl (iA y.1 y.2 (m * 8) (n * 8) hyo.1 hyo.2 Om Om _) ?_
   rintro e VO ⟨rfl, ex⟩
   obtain ⟨Vl,E,Vo,Vp⟩ := bU ex Vl E Vo Vp
   refine aU ?_
   refine bm 12 rfl func178 rfl (kB (y.1 ^^^ m * 8) (y.2 ^^^ n * 8) H.1 H.2 (EG hyo.1 Om) (EG hyo.2 Om) hhk.1 hhk.2 _) ?_
   rintro e VP ⟨rfl, ex⟩
   obtain ⟨Vl,E,Vo,Vp⟩ := bU ex Vl E Vo Vp
   refine aU ?_
   refine aM 13 Kr ?_; refine aO rfl (bA (o := 0) rfl rfl Kr Vl Nb (bf rfl)) rfl ?_
   rintro _ VQ ⟨rfl, Vy, cg⟩
   refine ⟨.inl rfl, ?_⟩
   have hcz := aX.one cg; replace Vo := Vo.bT hcz So; replace Vp := Vp.bT hcz So; replace E := E.aw cg Om; replace Vl := Vy.congr (cs' := pv (BV H y m n).1 (BV H y m n).2) rfl
   refine aU ?_
   refine aA Kr 8 rfl ?_; intro Wa ex Wb
   obtain ⟨Vl,E,Vo,Vp⟩ := bU ex Vl E Vo Vp
   refine zm [0, 1, 2] ?_
   refine bm 3 rfl func179 rfl (qL (n := 1) _ (HA.wk E) (HB.wk E)) ?_
   rintro e _ ⟨_, _, rfl, Wc, ex⟩
   refine aU ?_
   obtain ⟨E,Vo,Vp⟩ := bC ex E Vo Vp
   have We := Wc.bs
   refine bm 4 rfl func175 rfl (iF _ We) ?_
   rintro e _ ⟨rfl, ex⟩
   obtain ⟨E,Vo,Vp⟩ := bC ex E Vo Vp
   refine aU ?_
   refine bm 5 rfl func177 rfl (iA _ _ _ _ hlo.1 hlo.2 (oX _ _) (pJ _ _) _) ?_
   rintro e _ ⟨rfl, ex⟩
   refine aU ?_
   obtain ⟨E,Vo,Vp⟩ := bC ex E Vo Vp
   have Wf := E.size
   refine bm 6 rfl func180 rfl (xe _ _ _) ?_
   rintro e gU ⟨VB, rfl, Vs, Vr, ex⟩
   obtain ⟨E,Vo,Vp⟩ := bC ex E Vo Vp
   refine zm [7] ?_
   refine hretDD rfl Vp Vo hne ?_
   have hT : tag key nn ss ms = pb ((BV H y m n).1 ^^^ pf (zW key nn 1) 16) ((BV H y m n).2 ^^^ ps (zW key nn 1) 16) 8 := by
    unfold tag; rw [← hH, ← VG, ← hyy, hml, Mu]
   rw [hT]
   have hPl := jS ((BV H y m n).1 ^^^ pf (zW key nn 1) 16) ((BV H y m n).2 ^^^ ps (zW key nn 1) 16) 8
   obtain ⟨P, hP⟩ : ∃ P, P = pb ((BV H y m n).1 ^^^ pf (zW key nn 1) 16) ((BV H y m n).2 ^^^ ps (zW key nn 1) 16) 8 := ⟨_, rfl⟩
   rw [← hP] at Vr hPl ⊢
   have RB : Row gU w.heap.size 5 (some ⟨VB, 0, none⟩) 16 16 (P.map bv) := Row.new Vr (base := w.heap.size) Om (by show (cJ P).size = 16; rw [aW, hPl]) (by unfold maxLen; omega)
   have VK : w.heap.size ≤ D1 := by omega
   have VL : w.heap.size ≤ D2 := by omega
   have Vz : ((gU.putObj D2 (.deferred none)).heap)[D1]? = some (.deferred (some [])) := (World.putObj_heap_other (Ne.symm hne)).trans Vo
   exact ⟨_, 16, rfl, ownsRow_putObj (ownsRow_putObj RB _ Vp rfl) _ Vz rfl, (E.trans (belowK_b (w := w) (Nat.le_refl _) gU D2 _ _ VL Vp rfl rfl)).trans (belowK_b (w := w) (Nat.le_refl _) _ D1 _ _ VK Vz rfl rfl)⟩
end
end Go.Proofs.YtgfafidlkldeaaaGreat
