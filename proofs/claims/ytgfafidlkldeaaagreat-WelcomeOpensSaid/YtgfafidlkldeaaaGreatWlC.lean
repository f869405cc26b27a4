/- welcome.Open and what the law's document says of it, plainly and in memory. No conditions: contracts of functions. -/
import Derived.Test.YtgfafidlkldeaaaGreatGmB
import Derived.Test.YtgfafidlkldeaaaGreatBigC
import Derived.Test.YtgfafidlkldeaaaGreatShaBits
import Derived.Test.YtgfafidlkldeaaaGreatSecE
import Derived.Test.YtgfafidlkldeaaaGreatMsZ
import Derived.Test.YtgfafidlkldeaaaGreatFieldB
set_option linter.unusedVariables false
set_option linter.unusedSimpArgs false
set_option maxHeartbeats 4000000
set_option maxRecDepth 4000
namespace Go.Proofs.YtgfafidlkldeaaaGreat
variable {args cs : Array Value} {kd q sz : Int} {b b0 j key ms nn y ys : Lb} {s : List (List UInt8)} {S : List Nat} {D a at_ base c c0 e g g2 g3 g5 k m n n' n0 : Nat} {A A0 C G : Oa} {t : TypeId} {w w' : World} {x : jq}
section
open Go.RowKit Tryz
attribute [local irreducible] Y Ef WL WC WK WQ WM cv WN WF cZ WJ gI
open Ae Gm
namespace Gm
def pb (a b : Nat) : Nat → List UInt8
 | 0 => List.replicate 16 0
 | i + 1 => ((pb a b i).set i (UInt8.ofNat (a / 2 ^ (56 - 8 * i)))).set (8 + i) (UInt8.ofNat (b / 2 ^ (56 - 8 * i)))
theorem mG (a b : Nat) : ∀ i, (pb a b i).length = 16
 | 0 => by rw [pb, List.length_replicate]
 | i + 1 => by rw [pb, List.length_set, List.length_set, mG a b i]
theorem uZ (x : Nat) : IntKind.u8.wrap ((x : Nat) : Int) = ((UInt8.ofNat x).toNat : Int) := by rw [IntKind.wrap_u8', UInt8.toNat_ofNat']; omega
end Gm
theorem Br (a b : Nat) (w : World) :
  Ct 180 #[.agg (pv a b)] w fun e w' => ∃ g, e = .returned (.slice (some ⟨g, 0, none⟩) 16 16) ∧ w.heap.size ≤ g ∧ ao w' g 5 (dd (pb a b 8)) ∧ Ext w w' := by
 have F := aE.refl [] w;refine ai 32 func180 rfl rfl rfl rfl ?_;intro _ hret;refine aU ?_;intro _ Vq B1 _ ex;have Vt := B1.lt;replace F := F.ext ex;refine aU ?_;refine ag (dD (n := 16) (z := .int .u8 0) (bytes := 1) rfl rfl Tn.u Kr rfl rfl rfl rfl Om Om) rfl ?_;rintro _ w1 ⟨g3, rfl, D3, _, ex⟩;obtain ⟨F,B1⟩ := aZ ex F B1;have FF : aE [g3] w w1 := F.mono (by simp); have BT := D3.congr (cs' := dd (List.replicate 16 0)) Kr;refine aU ?_;refine aD (fun n' L wr => ∃ (i : Nat), L = [(1, .pointer (some ⟨Vq, 0, none⟩)), (3, .slice (some ⟨g3, 0, none⟩) 16 16), (6, .int .i64 (i : Int))] ∧ n' = 8 - i ∧ (i ≤ 8 ∧ aE [g3] w wr ∧ ao wr Vq 220 (pv a b) ∧ ao wr g3 5 (dd (pb a b i)))) _ _ ⟨0, rfl, rfl, Nat.zero_le _, FF, B1, BT⟩ Ls ?_;rintro _ n' L wr ⟨i, rfl, rfl, _, F, B1, BT⟩ Vr;refine aU ?_;refine ak rfl (fun Vs => ?_) (fun Vs => ?_)
 ·refine aU ?_;have hbl := mG a b i;refine cu [(20, [g3]), (22, [g3])] Kr 23 rfl ?_; intro Vu ex Vv;obtain ⟨F,B1,BT⟩ := bF ex F B1 BT;refine gQ [(0, []), (1, []), (2, [20]), (3, [20]), (4, [20]), (5, []), (6, []), (7, []), (8, []), (9, [])] ?_;refine aU ?_;refine jw 10 [] rfl (fun wr (cr : aE ([]) _ wr) => cB rfl rfl Om (Nn a (56 - 8 * i) Om Om)) ?_;refine jw 11 [] rfl (fun wr (cr : aE ([]) _ wr) => bo rfl Tn.u Tn.u (uZ _)) ?_;refine gQ [(12, [20]), (13, [20]), (14, [20]), (15, [20]), (16, [20])] ?_;refine aU ?_;refine jw 17 [20] rfl (fun wr (cr : aE ([g3]) _ wr) => cB rfl rfl Om (Nn b (56 - 8 * i) Om Om)) ?_;refine jw 18 [20] rfl (fun wr (cr : aE ([g3]) _ wr) => bo rfl Tn.u Tn.u (uZ _)) ?_;refine jw 19 [] rfl (fun wr (cr : aE ([]) _ wr) => aB rfl rfl Tn.u Kr (j := i) Om Om) ?_;refine cJ 20 Kr ?_; refine dt rfl (aq rfl rfl rfl Kr BT (by simp only [ba, List.length_set]; omega)) rfl ?_;rintro _ _ ⟨rfl, DA, cg⟩;have ex := aE.one cg;refine ⟨ex, ?_⟩;clear cg; rw [gE, Nat.zero_add] at DA;obtain ⟨F,B1⟩ := iz ex F B1;have BT := DA;refine jw 21 [] rfl (fun wr (cr : aE ([]) _ wr) => aB rfl rfl Tn.u Kr (j := 8 + i) Om Om) ?_;refine cJ 22 Kr ?_; refine dt rfl (aq rfl rfl rfl Kr BT (by simp only [ba, List.length_set]; omega)) rfl ?_;rintro _ _ ⟨rfl, DB, cg⟩;have ex := aE.one cg;refine ⟨ex, ?_⟩;clear cg; rw [gE, Nat.zero_add] at DB;obtain ⟨F,B1⟩ := iz ex F B1;have BT := DB;refine cN Kr ?_;refine au 7 ?_;refine ae ?_;refine Vr _ _ ⟨i + 1, rfl, rfl, by omega, F, B1, (by rw [pb]; first | exact BT | (rw [List.set_comm _ _ Om]; exact BT))⟩ Om Ls
 refine aU ?_;refine hret rfl ?_;obtain rfl : i = 8 := by omega
 exact ⟨g3, rfl, by omega, BT, F.drop Om |>.aS (by simp)⟩
namespace Gm
def UL (nn : Lb) (n : Nat) : List UInt8 := nn ++ [UInt8.ofNat (n / 16777216), UInt8.ofNat (n / 65536), UInt8.ofNat (n / 256), UInt8.ofNat n]
def Ep (key nn : Lb) (n : Nat) : List UInt8 := enc key (UL nn n)
theorem Vi (n : Nat) : ((n : Nat) : Int) / 2 ^ min (24 : Int).toNat IntKind.u32.bits = ((n / 16777216 : Nat) : Int) := by show ((n : Int) / 2 ^ 24 : Int) = _;omega
theorem U0 (n : Nat) : ((n : Nat) : Int) / 2 ^ min (16 : Int).toNat IntKind.u32.bits = ((n / 65536 : Nat) : Int) := by show ((n : Int) / 2 ^ 16 : Int) = _;omega
theorem TX (n : Nat) : ((n : Nat) : Int) / 2 ^ min (8 : Int).toNat IntKind.u32.bits = ((n / 256 : Nat) : Int) := by show ((n : Int) / 2 ^ 8 : Int) = _;omega
end Gm
theorem uP {B : Oa} {d : Nat} (w : World) (HA : Bs w A 16 key) (HB : Bs w B 12 nn) :
  Ct 179 #[.slice A 16 c, .slice B 12 d, .int .u32 (n : Int)] w fun e w' => ∃ A' c', e = .returned (.slice A' 16 c') ∧ Row w' w.heap.size 5 A' 16 c' ((Ep key nn n).map bv) ∧ Ext w w' := by
 have E := Ext.refl w;have Vq := HA;refine ai 30 func179 rfl rfl rfl rfl ?_;intro _ hret;refine aU ?_;refine aC func181 rfl (jU B 12 d nn _ HB Om) ?_;rintro e w1 ⟨A1, c1, rfl, O1, ex⟩;replace E := E.ext ex;have R1 : Row w1 w.heap.size 5 A1 12 c1 (nn.map bv) := O1;refine au 2 ?_;refine al (cB rfl rfl Om (Vi n)) ?_;refine al (bo rfl Tn.u Tn.u (uZ _)) ?_;refine au 1 ?_;refine al (cB rfl rfl Om (U0 n)) ?_;refine al (bo rfl Tn.u Tn.u (uZ _)) ?_;refine au 1 ?_;refine al (cB rfl rfl Om (TX n)) ?_;refine al (bo rfl Tn.u Tn.u (uZ _)) ?_;refine au 1 ?_;refine al (bo rfl Tn.u Tn.u (uZ _)) ?_;refine ag (aF (z := .int .u8 0) Tn.u Kr rfl rfl rfl rfl rfl) rfl ?_;rintro _ _ ⟨_, rfl, D2, _, ex⟩;obtain ⟨E,R1⟩ := aZ ex E R1;have Vr := E.size;refine ag (aX rfl rfl bT R1 (At.jn (vs := [UInt8.ofNat (n / 16777216), UInt8.ofNat (n / 65536), UInt8.ofNat (n / 256), UInt8.ofNat n].map bv) (D2.congr (by rfl))) rfl aJ Om Om Vr) rfl ?_;rintro _ w3 ⟨A3, _, rfl, R3, be, _, _⟩;have E3 := E.trans be; have R4 := R3.cat; have H4 : Bs w3 A3 16 (UL nn n) := R4.bs; have Vs := Vq.wk E3;refine aC func174 rfl (tS _ Vs H4) ?_;rintro e _ ⟨A5, c5, rfl, R5, ex⟩;have E4 := E3.ext ex;refine aU ?_;refine hret rfl ?_;exact ⟨A5, c5, rfl, R5.lower E3.size, E4⟩
end
section
open Go.RowKit Tryz
attribute [local irreducible] Y Ef WL WC WK WQ WM cv WN WF cZ
def jM (g off K T j : Nat) : Value := .slice (some ⟨g, off + K * j, none⟩) (min K (T - K * j)) (min K (T - K * j))
theorem Bd (n l g off c K T m b1 b2 : Nat) (A : Oa) (J Jx : List (Fin m) → World → Prop) (w : World) (hK : 1 ≤ K) (hA : 0 < T → A = some ⟨g, off, none⟩) (hc : T ≤ c) (hm : K * m ≤ 70368744177664) (hT : T ≤ K * m) (hj : ∀ j, j < m → K * j < T) (hab : AbidesFrom w.heap.size J)
  (C1 : ao w b1 23 #[.slice A T c]) (C2 : ao w b2 3 #[.int .i64 (K : Int)])
  (hY : ∀ pre x W1, J pre W1 → pre.length < m → YieldAt Fence.wide (n - 1) Tryz.prog l #[jM g off K T x.val] W1 fun e W' => (e = .returned (.bool true) ∧ J (pre ++ [x]) W' ∧ wD b1 b2 W1 W') ∨ (e = .returned (.bool false) ∧ Jx (pre ++ [x]) W'))
  (h0 : J [] w) :
  Ct 228 #[.func (.yield l) #[] #[], .pointer (some ⟨b1, 0, none⟩), .pointer (some ⟨b2, 0, none⟩)] w fun e W' => (∃ v, e = .returned v) ∧ ((∃ xs, xs = List.finRange m ∧ J xs W') ∨ (∃ pre : List (Fin m), True ∧ Jx pre W')) := by
 refine gj 31 func228 rfl rfl rfl rfl ?_;intro _ hret;refine aU ?_;refine aD (fun n' L wr => ∃ i : Nat, L = [(0, .func (.yield l) #[] #[]), (1, .pointer (some ⟨b1, 0, none⟩)), (2, .pointer (some ⟨b2, 0, none⟩)), (4, .int .i64 ((K * i : Nat) : Int))] ∧ n' = m - i ∧ (i ≤ m ∧ J ((List.finRange m).take i) wr ∧ ao wr b1 23 #[.slice A T c] ∧ ao wr b2 3 #[.int .i64 (K : Int)])) _ _ ⟨0, rfl, rfl, by omega, h0, C1, C2⟩ Ls ?_;rintro _ n' L wr ⟨i, rfl, rfl, _, hJ, D1, D2⟩ Vr;refine aU ?_;refine ak rfl (fun Vs => ?_) (fun Vs => ?_)
 ·have hlt : i < m := by
   rcases Nat.lt_or_ge i m with h | h
   ·exact h
   obtain rfl : i = m := by omega
   omega
  have hge : K * i + K ≤ K * m := by rw [← Nat.mul_succ]; exact Nat.mul_le_mul_left _ hlt
  obtain rfl := hA Om
  obtain ⟨e, he⟩ : ∃ e, e = min K (T - K * i) := ⟨_, rfl⟩
  have Vu : 1 ≤ e := by omega
  have Vv : K * i + e ≤ T := by omega
  refine aU ?_;refine az Kr 7 rfl ?_; intro Vw ex Vx;obtain ⟨D1,D2⟩ := aZ ex D1 D2;replace hJ := hab _ _ _ none hJ (uF ex) (fun r e => by cases e);refine zm [0, 1, 2] ?_;refine my 3 rfl (pH (s := 1) rfl rfl Tn.u Kr (j := K * i) rfl Om) ?_;refine zm [4] ?_;refine my 5 rfl (Y.as (CU rfl rfl) (congrArg (Value.int .i64) (show _ = ((e : Nat) : Int) by split <;> omega))) ?_;refine Gh [6] ?_;refine au 6 ?_;refine sc (n) ?_;refine fB (aY rfl) rfl ?_;refine fB (af rfl underlying23 rfl (D1.get (i := 0) rfl)) rfl ?_;refine fB (aY rfl) rfl ?_;refine fB (aY rfl) rfl ?_;refine fB (aY rfl) rfl ?_;refine fB (aN rfl rfl (bj Om Om)) rfl ?_;refine fB (aY rfl) rfl ?_;refine fB (aY rfl) rfl ?_;refine fB (aN rfl rfl (bj Om Om)) rfl ?_;refine fB (Y.as (zY (s := 1) rfl rfl rfl rfl underlying23 Kr (j := K * i) (h := K * i + e) (m := K * i + e) rfl Om Om Om Om Om Om) (show _ = jM g off K T i from by unfold jM; rw [Nat.mul_one, Nat.add_sub_cancel_left, he])) rfl ?_;refine vh rfl rfl ((th (hY ((List.finRange m).take i) ⟨i, hlt⟩ _ hJ (by rw [List.length_take, List.length_finRange]; omega)))) rfl ?_;rintro e _ ⟨_, rfl, hbt, hbf⟩;refine aU ?_;refine fB (nr rfl) rfl ?_;refine Eh ?_;refine aU ?_;refine bB rfl (fun Vq => ?_) (fun Vq => ?_)
  ·refine aU ?_;refine hret (.inl rfl) ?_;exact ⟨⟨_, rfl⟩, .inr ⟨_, trivial, hbf (by simpa using Vq)⟩⟩
  obtain ⟨Vt, hk⟩ := hbt (by simpa using Vq);replace D1 := hk.S6 D1;replace D2 := hk.Sa D2;refine au 9 ?_;refine ae ?_;refine Vr _ _ ⟨i + 1, rfl, rfl, by omega, by rw [List.take_succ_eq_append_getElem (by rw [List.length_finRange]; omega)]; simpa using Vt, D1, D2⟩ Om Ls
 refine aU ?_;refine hret (.inr rfl) ?_
 have hfin : m ≤ i := by
  rcases Nat.lt_or_ge i m with h | h
  ·have := hj i h; omega
  exact h
 exact ⟨⟨_, rfl⟩, .inl ⟨_, rfl, by rw [List.take_of_length_le (by rw [List.length_finRange]; exact hfin)] at hJ; exact hJ⟩⟩
theorem ku (n g off c K T m b1 b2 : Nat) (A : Oa) (w : World) (hK : 1 ≤ K) (hA : 0 < T → A = some ⟨g, off, none⟩) (hc : T ≤ c) (hm : K * m ≤ 70368744177664) (hT : T ≤ K * m) (hj : ∀ j, j < m → K * j < T)
  (C1 : ao w b1 23 #[.slice A T c]) (C2 : ao w b2 3 #[.int .i64 (K : Int)]) :
  SeqStopsK Fence.wide n Tryz.prog 228 #[.pointer (some ⟨b1, 0, none⟩), .pointer (some ⟨b2, 0, none⟩)] (fun x : Fin m => #[jM g off K T x.val]) (wD b1 b2) (fun xs => xs = List.finRange m) (fun _ => True) m w :=
 fun l J Jx W hW hJ _ hY h0 => callsIn_wide.2 (Bd n l g off c K T m b1 b2 A J Jx W hK hA hc hm hT hj hJ (C1.ext hW) (C2.ext hW) hY h0)
theorem nU (K T c : Nat) (A : Oa) (w : World) (hK : 1 ≤ K) :
  Ct 176 #[.slice A T c, .int .i64 (K : Int)] w fun e w' => ∃ b1 b2, e = .returned (.func (.func 228) #[] #[.pointer (some ⟨b1, 0, none⟩), .pointer (some ⟨b2, 0, none⟩)]) ∧ w.heap.size ≤ b1 ∧ w.heap.size ≤ b2 ∧
   ao w' b1 23 #[.slice A T c] ∧ ao w' b2 3 #[.int .i64 (K : Int)] ∧ Ext w w' := by
 have E := Ext.refl w;refine ai 9 func176 rfl rfl rfl rfl ?_;intro _ hret;refine aU ?_;intro _ g1 B1 Vq ex;replace E := E.ext ex;have Vr := E.size;refine aU ?_;intro _ g2 B2 _ ex;obtain ⟨E,B1⟩ := aZ ex E B1;refine au 15 ?_;refine al (kr rfl) ?_;refine aU ?_;refine hret rfl ?_;exact ⟨g1, g2, rfl, Vq, by omega, B1, B2, E⟩
end
section
open Go.RowKit
attribute [local irreducible] Y Ef WL WC WK WQ WM cv WN WF cZ WJ gI WR qK
open Ae Gm
namespace Gm
def qW (m : Lb) (j : Nat) (out : Lb) : Nat → List UInt8
 | 0 => out
 | i + 1 => (qW m j out i).set (16 * j + i) (UInt8.ofNat (cell (qW m j out i) (16 * j + i) ^^^ cell m i))
def Tl (key nn : Lb) (n : Nat) (s : List UInt8 × Nat) (j : Nat) : List UInt8 × Nat := (qW (Ep key nn (s.2 + 1)) j s.1 (min 16 (n - 16 * j)), s.2 + 1)
def Mk (key nn : Lb) (n : Nat) (s : List UInt8 × Nat) (js : List Nat) : List UInt8 × Nat := js.foldl (Tl key nn n) s
def OX (key nn t : Lb) : List UInt8 := (Mk key nn t.length (t, 1) (List.range ((t.length + 15) / 16))).1
theorem nV (m : Lb) (j : Nat) (out : Lb) : ∀ i, (qW m j out i).length = out.length
 | 0 => rfl
 | i + 1 => by rw [qW, List.length_set, nV]
theorem IH (key nn : Lb) (n : Nat) (s : List UInt8 × Nat) (js : List Nat) (j : Nat) : Mk key nn n s (js ++ [j]) = Tl key nn n (Mk key nn n s js) j := by unfold Mk; rw [List.foldl_append]; rfl
theorem rD (key nn : Lb) (n : Nat) : ∀ (js : List Nat) (s : List UInt8 × Nat), (Mk key nn n s js).1.length = s.1.length ∧ (Mk key nn n s js).2 = s.2 + js.length
  | [], s => ⟨rfl, rfl⟩
  | j :: js, s => by
    have h := rD key nn n js (Tl key nn n s j);refine ⟨h.1.trans (nV _ _ _ _), h.2.trans ?_⟩
    show s.2 + 1 + js.length = s.2 + (js.length + 1)
    omega
theorem nH (key nn t : Lb) : (OX key nn t).length = t.length := (rD key nn _ _ _).1
theorem Ho {a : Lb} (hl : a.length = b.length) (h : ∀ k, k < b.length → cell a k = cell b k) : a = b := by refine List.ext_getElem hl fun k h1 h2 => ?_;have := h k h2;unfold cell at this;rw [List.getD_eq_getElem?_getD, List.getD_eq_getElem?_getD, List.getElem?_eq_getElem h1, List.getElem?_eq_getElem h2] at this;exact UInt8.toNat_inj.1 (by simpa using this)
end Gm
theorem M5 {β : Type} {B : Nat} {e : TypeId} {f : β → List Value} : OwnFrom B (fun s W => Row W base e A n c (f s)) := fun s W W' row hs hg hr => by
 refine World.ownsRow.kept (row := row) hs hg ?_
 rcases hs.2 with ⟨hv, _⟩ | ⟨g, cap, cur, hv, _, hB, _⟩
 ·injection hv with hA _ _; subst hA; exact .inl rfl
 injection hv with hA _ _
 subst hA;refine .inr fun h => ?_;have h' : row = some g := h.symm;obtain ⟨_, o, ho, hc⟩ := hr g h';rw [show W.heap[g]? = _ from hB] at ho;injection ho with ho
 subst ho;cases hc
end
section
open Go.RowKit Tryz
attribute [local irreducible] Y Ef WL WC WK WQ WM cv WN WF cZ WJ gI WR qK
open Ae Gm
theorem qI {B : Oa} {d : Nat} {t : Lb} (w : World) (HA : Bs w A 16 key) (HB : Bs w B 12 nn) (HC : Bs w C n t) (hn : n ≤ 100000) :
  Ct 105 #[.slice A 16 c, .slice B 12 d, .slice C n e] w fun e w' => ∃ A' c', e = .returned (.slice A' n c') ∧ Row w' w.heap.size 5 A' n c' ((OX key nn t).map bv) ∧ Ext w w' := by
 have E := Ext.refl w;have htl := HC.1;refine Cv (3) 40 func105 rfl rfl rfl rfl ?_;intro _ _ hretD;refine aU ?_;intro _ Vz B3 _ ex;have VT := B3.lt;replace E := E.ext ex;refine aU ?_;intro Vq VA B4 _ ex;have VU := B4.lt; have VV := ex.size;obtain ⟨E,B3⟩ := aZ ex E B3;refine aU ?_;refine aC func181 rfl (jU C n e t _ (HC.wk E) Om) ?_;rintro e w2 ⟨A7, c7, rfl, O7, ex⟩;obtain ⟨E,B3,B4⟩ := bF ex E B3 B4;have R7 : Row w2 Vq.heap.size 5 A7 n c7 (t.map bv) := O7; have VW := E.size;refine aU ?_;intro _ Vs D8 Vr exA;refine aU ?_;intro _ B8 cg;have ex := exA.aA cg Vr; clear cg exA D8;have VX := B8.lt;obtain ⟨E,B3,B4,R7⟩ := bU ex E B3 B4 R7;refine au 6 ?_
 obtain ⟨g7, Vw, VB⟩ : ∃ g7, (0 < n → A7 = some ⟨g7, 0, none⟩) ∧ (0 < n → Vq.heap.size ≤ g7 ∧ g7 < Vs) := by
  rcases Nat.eq_zero_or_pos n with h | h
  ·exact ⟨0, fun h' => by omega, fun h' => by omega⟩
  obtain ⟨g, v, h1, _⟩ := R7.get (i := 0) h;refine ⟨g, fun _ => h1, fun _ => ?_⟩;subst h1;exact ⟨R7.lt.1, Nat.lt_of_lt_of_le (Row.lt O7).2 Vr⟩
 refine aC func176 rfl (nU 16 n c7 A7 _ Om) ?_;rintro e w6 ⟨b1, b2, rfl, _, _, C1, C2, ex⟩;obtain ⟨E,B3,B4,R7,B8⟩ := eQ ex E B3 B4 R7 B8;obtain ⟨M, hM⟩ : ∃ M, M = (n + 15) / 16 := ⟨_, rfl⟩; have VY := C1.lt; have VZ := C2.lt;refine aU ?_;refine qt (n := 3) (S := fun xs => xs = List.finRange M) Om rfl (enters func228 rfl rfl) (ku 2 g7 0 c7 16 n M b1 b2 A7 _ Om Vw R7.cap Om Om (by intro j hj; omega) C1 C2) wD.trans (fun W l o o' hl ho _ _ => rE W l o o' Om Om ho) (fun pre W => Row W Vq.heap.size 5 A7 n c7 ((Mk key nn n (t, 1) (pre.map (·.val))).1.map bv) ∧ ao W Vs 227 #[.int .u32 ((1 + pre.length : Nat) : Int)] ∧ ao W Vz 23 #[.slice A 16 c] ∧ ao W VA 23 #[.slice B 12 d] ∧ Below w.heap.size w W ∧ w6.heap.size ≤ W.heap.size) (OwnFrom.and M5 (OwnFrom.and fO (OwnFrom.and fO (OwnFrom.and fO (OwnFrom.and (ownFrom_below (Nat.le_refl _) Om) nX))))) ⟨R7, B8, B3, B4, E, Nat.le_refl _⟩ rfl rfl ?_ ?_
 ·intro _ _ pre v W2 ⟨R, B8, B3, B4, E, _⟩ hl hout;have hv := v.isLt
  obtain ⟨j, hj⟩ : ∃ j, j = v.val := ⟨_, rfl⟩
  obtain ⟨e1, Vx⟩ : ∃ e1, e1 = min 16 (n - 16 * j) := ⟨_, rfl⟩
  have hjn : 16 * j < n := by omega
  obtain ⟨VC, VD⟩ := VB Om;obtain rfl := Vw Om
  obtain ⟨V, hV⟩ : ∃ V, V = (Mk key nn n (t, 1) (pre.map (·.val))).1 := ⟨_, rfl⟩
  have hVl : V.length = n := by rw [hV, (rD _ _ _ _ _).1]; exact htl
  have VE : (Mk key nn n (t, 1) (pre.map (·.val))).2 = 1 + pre.length := by rw [(rD _ _ _ _ _).2, List.length_map]
  rw [← hV] at R;have hpw : jM g7 0 16 n v.val = .slice (some ⟨g7, 0 + 16 * j, none⟩) e1 e1 := by unfold jM; rw [Vx, hj]
  rw [hpw];have Cw := aE.refl [g7, Vs] W2;refine ji ?_; intro K6 VF;refine eV ?_;refine au 1 ?_;refine al (aN rfl rfl (IntWalk.u32_in _ ⟨by omega, by omega⟩)) ?_;refine aU ?_;intro _ D8 cg;replace R := R.aA cg (by intro b off e; injection e with e; injection e; omega); replace B3 := B3.aA cg Om; replace B4 := B4.aA cg Om; replace E := E.aA cg Om; replace B8 := D8.congr (cs' := #[.int .u32 ((2 + pre.length : Nat) : Int)]) (by show #[Value.int .u32 (((1 + pre.length : Nat) : Int) + 1)] = #[Value.int .u32 ((2 + pre.length : Nat) : Int)]; rw [show (((1 + pre.length : Nat) : Int) + 1) = ((2 + pre.length : Nat) : Int) by omega]); replace Cw := Cw.bk (aE.one cg); have V0 := cg.size;refine au 1 ?_;refine ae (VF ?_);refine ji ?_; intro K7 VG;refine eV ?_;refine aU ?_;refine aC func179 rfl (uP _ (HA.wk E) (HB.wk E)) ?_;rintro e w8 ⟨_, c10, rfl, Vy, ex⟩;obtain ⟨R,B3,B4,E,B8⟩ := eQ ex R B3 B4 E B8;obtain ⟨VH, _, rfl, _⟩ := Vy.get (i := 0) Om; replace Cw := Cw.ext ex;refine au 3 ?_;refine ae (VG ?_);refine ji ?_; intro K8 VI;refine eV ?_;refine au 4 ?_;refine ae (VI ?_);refine yx ?_;refine MH (fun n' L wr => ∃ (i : Nat), L = [(9, .slice (some ⟨g7, 0 + 16 * j, none⟩) e1 e1), (10, .slice (some ⟨VH, 0, none⟩) 16 c10), (24, .int .i64 (e1 : Int)), (25, .int .i64 (i : Int))] ∧ n' = e1 - i ∧ (i ≤ e1 ∧ aE [g7] w8 wr ∧ Row wr Vq.heap.size 5 (some ⟨g7, 0, none⟩) n c7 ((qW (Ep key nn (2 + pre.length)) j V i).map bv))) _ _ ⟨0, rfl, rfl, Nat.zero_le _, aE.refl _ _, R⟩ Ls ?_;rintro _ n' L wr ⟨i, rfl, rfl, _, X, R⟩ VJ;refine ji ?_; intro K9 VK;refine eV ?_;refine au 2 ?_;refine ae (VK ?_);refine ji ?_; intro V4 Vt;refine QL rfl (fun VL => ?_) (fun VL => ?_)
  ·skip;refine Mm ?_;refine ae (Vt ?_);refine ji ?_; intro V5 Vu;refine yx ?_;refine ji ?_; intro V6 Vv;refine eV ?_;refine au 3 ?_;refine ae (Vv ?_)
   obtain ⟨U, hU⟩ : ∃ U, U = qW (Ep key nn (2 + pre.length)) j V i := ⟨_, rfl⟩
   have hUl : U.length = n := by rw [hU, nV]; exact hVl
   rw [← hU] at R;have HU := R.bs;have HM := (Vy.bk X So).bs;refine vK Kr 11 rfl ?_; intro VM ex VN;obtain ⟨X,R,HU,HM⟩ := bU ex X R HU HM;refine zm [0, 1] ?_;refine dg 2 rfl (fun _ => aB rfl rfl Tn.u Kr (j := i) Om Om) ?_;refine my 3 rfl (af rfl Tn.u rfl (show _ = some (.int .u8 ((cell U (16 * j + i) : Nat) : Int)) from by rw [show 0 + 16 * j + i = 0 + (16 * j + i) by omega]; exact lk HU (k := 16 * j + i) Om)) ?_;refine zm [4, 5] ?_;refine dg 6 rfl (fun _ => aB rfl rfl Tn.u Kr (j := i) Om Om) ?_;refine my 7 rfl (af rfl Tn.u rfl (lk HM (k := i) Om)) ?_;refine dg 8 rfl (fun _ => bP rfl rfl ((bH (Ae.c8 _ _) (Ae.c8 _ _)).2.2)) ?_;refine dg 9 rfl (fun _ => aB rfl rfl Tn.u Kr (j := i) Om Om) ?_;refine aL 10 Kr ?_; refine aQ rfl (mP (i := 16 * j + i) (congrArg (fun z => some (Value.pointer (some ⟨g7, z, none⟩))) (show 0 + 16 * j + i = 0 + (16 * j + i) from Nat.add_assoc _ _ _)) rfl rfl Kr R Om) rfl ?_;rintro _ VO ⟨rfl, VP, cg⟩;refine ⟨.inl rfl, ?_⟩
   have VQ := X.bk (aE.one cg); have VR : Row VO Vq.heap.size 5 (some ⟨g7, 0, none⟩) n c7 ((U.set (16 * j + i) (UInt8.ofNat (cell U (16 * j + i) ^^^ cell (Ep key nn (2 + pre.length)) i))).map bv) := (by rw [List.map_set, bv, gC (x8 (Ae.c8 _ _) (Ae.c8 _ _))]; exact VP)
   refine au 3 ?_;refine ae (Vu ?_);refine eV ?_;refine au 3 ?_;refine ae ?_;refine VJ _ _ ⟨i + 1, rfl, rfl, by omega, VQ, (by rw [qW, ← hU]; exact VR)⟩ Om Ls
  skip;refine NF ?_;refine aU ?_;obtain rfl : i = e1 := by omega
  have Cz := Cw.bk X;have V9 := Cz.size;refine hout (pA Cz So) (wL Cz Om Om So So) ⟨?_, ?_, B3.bk X So, B4.bk X So, E.N0 X So, by omega⟩
  ·rw [List.map_append, List.map_singleton, IH];unfold Tl;rw [← hV, VE, ← hj, ← Vx, show 1 + pre.length + 1 = 2 + pre.length by omega];exact R
  exact (B8.bk X So).congr (by rw [List.length_append, List.length_singleton, show 1 + (pre.length + 1) = 2 + pre.length by omega])
 intro D _ W2 _ VS ⟨I1, _, _, _, I5, _⟩ hKD;obtain rfl := VS;have hfin : ((List.finRange M).map (·.val)) = List.range M := List.ext_getElem (by simp) (fun i h1 h2 => by simp);rw [hfin, hM, ← htl] at I1;have HD : xQ W2 D := hKD;have hDw : w.heap.size ≤ D := by omega
 refine aU ?_;refine hretD rfl HD ?_;exact ⟨A7, c7, rfl, by unfold OX; rw [htl] at I1 ⊢; exact Row.lower (ownsRow_putObj I1 _ HD rfl) Om, I5.trans (belowK_b (w := w) (Nat.le_refl _) W2 D _ _ hDw HD rfl rfl)⟩
namespace Gm
def pad (p : Lb) : List UInt8 := p ++ List.replicate (16 - p.length) 0
def Gx (xs : Lb) (j : Nat) : List UInt8 := (xs.drop (16 * j)).take 16
def UJ (h : Nat × Nat) (xs : Lb) (y : Nat × Nat) (j : Nat) : Nat × Nat := mul (y.1 ^^^ pf (pad (Gx xs j)) 16) (y.2 ^^^ ps (pad (Gx xs j)) 16) h.1 h.2
def Ff (h : Nat × Nat) (xs : Lb) (y : Nat × Nat) (js : List Nat) : Nat × Nat := js.foldl (UJ h xs) y
def ab (h : Nat × Nat) (xs : Lb) (y : Nat × Nat) : Nat × Nat := Ff h xs y (List.range ((xs.length + 15) / 16))
def hk (key : Lb) : Nat × Nat := (pf (enc key (List.replicate 16 0)) 16, ps (enc key (List.replicate 16 0)) 16)
def IY (h : Nat × Nat) (y : Nat × Nat) (m n : Nat) : Nat × Nat := mul (y.1 ^^^ m * 8) (y.2 ^^^ n * 8) h.1 h.2
def tag (key nn ss ms : Lb) : List UInt8 :=
 pb ((IY (hk key) (ab (hk key) ss (ab (hk key) ms (0, 0))) ms.length ss.length).1 ^^^ pf (Ep key nn 1) 16) ((IY (hk key) (ab (hk key) ss (ab (hk key) ms (0, 0))) ms.length ss.length).2 ^^^ ps (Ep key nn 1) 16) 8
theorem dQ (key nn ss ms : Lb) : (tag key nn ss ms).length = 16 := mG _ _ _
theorem cP {p : Lb} (h : p.length ≤ 16) : (pad p).length = 16 := by unfold pad; rw [List.length_append, List.length_replicate]; omega
def ok (y : Nat × Nat) : Prop := y.1 < 18446744073709551616 ∧ y.2 < 18446744073709551616
theorem LN (a b : Nat) {h : Nat × Nat} (hh : ok h) : ok (mul a b h.1 h.2) := Iz hh.1 hh.2 128
theorem rR {h : Nat × Nat} (hh : ok h) (xs : Lb) : ∀ (js : List Nat) {y : Nat × Nat}, ok y → ok (Ff h xs y js)
 | [], _, hy => hy
 | j :: js, y, _ => rR hh xs js (LN _ _ hh)
theorem zx (h : Nat × Nat) (xs : Lb) (y : Nat × Nat) (js : List Nat) (j : Nat) : Ff h xs y (js ++ [j]) = UJ h xs (Ff h xs y js) j := by unfold Ff; rw [List.foldl_append]; rfl
theorem SG (key : Lb) : ok (hk key) := ⟨sL _ _, tL _ _⟩
end Gm
theorem Na {β : Type} {B : Nat} (h : D < B) : OwnFrom B (fun (_ : β) W => xQ W D) := fun s W W' row hs hg hr =>
 (hg.block D (xQ.lt hs) (fun e => by have := (hr D e.symm).1; omega)).trans hs
theorem xQ.bk (h : xQ w D) (k : aE S w w') (hD : D ∉ S) : xQ w' D := (k.block D h.lt hD).trans h
theorem vn {o : Nat} {xs : Lb} (H : Bs w (some ⟨g, o, none⟩) n xs) (j e : Nat) (he : e = min 16 (n - 16 * j)) : Bs w (some ⟨g, o + 16 * j, none⟩) e (Gx xs j) := by have h := (H.wT (16 * j)).take (k := e) Om;rwa [show ((xs.drop (16 * j)).take e) = Gx xs j from by unfold Gx; rw [List.take_eq_take_iff, List.length_drop, H.1]; omega] at h
theorem Ly {β : Type} {B : Nat} : OwnFrom B (fun (_ : β) _ => True) := fun _ _ _ _ _ _ _ => trivial
theorem uB (p : Lb) : ((dd (List.replicate 16 0)).toList.take 0 ++ p.map bv ++ (dd (List.replicate 16 0)).toList.drop (0 + (p.map bv).length)).toArray = dd (pad p) := by unfold pad dd;rw [List.take_zero, List.nil_append, Nat.zero_add, List.length_map, List.map_append, List.map_replicate, List.map_replicate, List.drop_replicate]
theorem yu {B : Oa} {d f : Nat} {ss : Lb} (w : World) (HA : Bs w A 16 key) (HB : Bs w B 12 nn) (HC : Bs w C n ss) (hn : n ≤ 100000) (hne : n ≤ e) (HG : Bs w G m ms) (hm : m ≤ 100000) (hmf : m ≤ f) :
  Ct 104 #[.slice A 16 c, .slice B 12 d, .slice C n e, .slice G m f] w fun e w' => ∃ A' c', e = .returned (.slice A' 16 c') ∧ Row w' w.heap.size 5 A' 16 c' ((tag key nn ss ms).map bv) ∧ Ext w w' := by
 have E := Ext.refl w;have O9 := HC.1;have hml := HG.1;have hhk := SG key
 obtain ⟨H, hH⟩ : ∃ H, H = hk key := ⟨_, rfl⟩
 rw [← hH] at hhk;refine xv (4) 67 func104 rfl rfl rfl rfl ?_;intro _ hretDD;refine aU ?_;refine ag (dD (n := 16) (z := .int .u8 0) (bytes := 1) rfl rfl Tn.u Kr rfl rfl rfl rfl Om Om) rfl ?_;rintro _ _ ⟨_, rfl, D3, _, ex⟩;replace E := E.ext ex;have H3 := bh (xs := List.replicate 16 0) (D3.congr Kr) rfl;refine aC func174 rfl (tS _ (HA.wk E) H3) ?_;rintro e _ ⟨_, _, rfl, R5, ex⟩;replace E := E.ext ex;have H5 := R5.bs;refine aU ?_;refine aC func175 rfl (kW _ H5) ?_;rintro e _ ⟨rfl, ex⟩;replace E := E.ext ex;have Wm := E.size;refine aU ?_;intro _ VA VZ VB exA;refine aU ?_;intro _ Vr cg;have ex := exA.aA cg VB; clear cg exA VZ;have V0 := Vr.lt;replace E := E.ext ex;replace Vr := Vr.congr (cs' := pv H.1 H.2) (by rw [hH]; rfl);refine aU ?_;intro _ Vv Vq _ ex;obtain ⟨E,Vr⟩ := aZ ex E Vr;replace Vq := Vq.congr (cs' := pv 0 0) rfl; have V4 := Vq.lt;refine aU ?_;refine ag (aF (z := .slice none 0 0) Tn.u Kr rfl rfl rfl rfl rfl) rfl ?_;rintro _ _ ⟨VR, rfl, Vs, _, ex⟩;obtain ⟨E,Vr,Vq⟩ := bF ex E Vr Vq;have Wn := E.size; have V5 := Vs.lt;refine aU ?_;refine EN 3 ?_; refine rU ?_; intro VS Vy;refine au 13 ?_;refine al (aB rfl rfl Tn.u Kr (j := 0) rfl Om) ?_;refine au 7 ?_
 obtain ⟨ga, oa, hA⟩ : ∃ g o, 0 < m → G = some ⟨g, o, none⟩ := by
  rcases Nat.eq_zero_or_pos m with h | h
  ·exact ⟨0, 0, fun h' => by omega⟩
  obtain ⟨g, o, h1, _⟩ := HG.get (k := 0) h;exact ⟨g, o, fun _ => h1⟩
 refine aC func176 rfl (nU 16 m f G _ Om) ?_;rintro e w6 ⟨b1, b2, rfl, V6, V9, C1, C2, ex⟩;obtain ⟨E,Vr,Vq,Vs⟩ := bU ex E Vr Vq Vs
 obtain ⟨M, hM⟩ : ∃ M, M = (m + 15) / 16 := ⟨_, rfl⟩; have Wa := C1.lt; have Wb := C2.lt; have hy : ok (0, 0) := (show ok (0, 0) from ⟨by omega, by omega⟩)
 refine aU ?_;refine qt (n := 4) (S := fun xs => xs = List.finRange M) Om rfl (enters func228 rfl rfl) (ku 3 ga oa f 16 m M b1 b2 G _ Om hA Om Om Om (by intro j hj; omega) C1 C2) wD.trans (fun W l o o' hl ho _ _ => rE W l o o' Om Om ho) (fun pre W => ao W Vv 220 (pv (Ff H ms (0, 0) (pre.map (·.val))).1 (Ff H ms (0, 0) (pre.map (·.val))).2) ∧ ao W VA 220 (pv H.1 H.2) ∧ ao W VR 23 #[.slice G m f, .slice C n e] ∧ Below w.heap.size w W ∧ w6.heap.size ≤ W.heap.size ∧ True) (OwnFrom.and fO (OwnFrom.and fO (OwnFrom.and fO (OwnFrom.and (ownFrom_below (Nat.le_refl _) Om) (OwnFrom.and nX Ly))))) ⟨Vq, Vr, Vs, E, Nat.le_refl _, trivial⟩ rfl rfl ?_ ?_
 ·intro kR Q2 pre v W2 ⟨Vq, Vr, Vs, E, hz, Vt⟩ hl hout;have hv := v.isLt
  obtain ⟨j, hj⟩ : ∃ j, j = v.val := ⟨_, rfl⟩
  obtain ⟨e1, VC⟩ : ∃ e1, e1 = min 16 (m - 16 * j) := ⟨_, rfl⟩
  have hjn : 16 * j < m := by omega
  obtain rfl := hA Om;have hpw : jM ga oa 16 m v.val = .slice (some ⟨ga, oa + 16 * j, none⟩) e1 e1 := by unfold jM; rw [VC, hj]
  rw [hpw];have HP := vn (HG.wk E) j e1 VC;have hpl := HP.1
  obtain ⟨y, hyy⟩ : ∃ y, y = Ff H ms (0, 0) (pre.map (·.val)) := ⟨_, rfl⟩
  have hyo : ok y := by rw [hyy]; exact rR hhk _ _ hy
  rw [← hyy] at Vq;have XW := Ext.refl W2;refine ji ?_; intro Wo VF;refine eV ?_;refine ag (dD (n := 16) (z := .int .u8 0) (bytes := 1) rfl rfl Tn.u Kr rfl rfl rfl rfl Om Om) rfl ?_;rintro _ w7 ⟨VG, rfl, Vw, Vx, ex⟩;obtain ⟨Vq,Vr,Vs,E,HP,XW⟩ := iJ ex Vq Vr Vs E HP XW;replace Vw := Vw.congr (cs' := dd (List.replicate 16 0)) Kr;refine au 2 ?_;refine ae (VF ?_);refine ji ?_; intro Wq VH;refine eV ?_;refine aU ?_;refine ag (gY (o := 0) rfl rfl Tn.u Kr Vw HP.2 (by rw [List.length_map, hpl]; exact (Nat.min_eq_left Om).symm) (by rw [List.length_map, hpl, ba, List.length_replicate]; omega) aJ) rfl ?_;rintro _ w8 ⟨rfl, D8, cg⟩;replace Vq := Vq.aA cg Om; replace Vr := Vr.aA cg Om; replace Vs := Vs.aA cg Om; replace E := E.aA cg Om; replace XW := XW.aA cg Vx; rw [uB] at D8; have HW := bh D8 (cP Om);refine au 1 ?_;refine ae (VH ?_);refine vK Kr 7 rfl ?_; intro VI ex VJ;obtain ⟨Vq,Vr,Vs,E,XW,HW⟩ := iJ ex Vq Vr Vs E XW HW;refine zm [0, 1, 4] ?_;refine bz 2 rfl func175 rfl (kW _ HW) ?_;rintro e w9 ⟨rfl, ex⟩;obtain ⟨Vq,Vr,Vs,E,XW⟩ := eQ ex Vq Vr Vs E XW;refine aU ?_;refine bz 3 rfl func177 rfl (ke _ _ _ _ hyo.1 hyo.2 (sL _ _) (tL _ _) _) ?_;rintro e VT ⟨rfl, ex⟩;obtain ⟨Vq,Vr,Vs,E,XW⟩ := eQ ex Vq Vr Vs E XW;refine aU ?_;refine bz 5 rfl func178 rfl (nN _ _ _ _ (NT hyo.1 (sL _ _)) (NT hyo.2 (tL _ _)) hhk.1 hhk.2 _) ?_;rintro e VU ⟨rfl, ex⟩;obtain ⟨Vq,Vr,Vs,E,XW⟩ := eQ ex Vq Vr Vs E XW;refine aU ?_;refine aL 6 Kr ?_; refine aQ rfl (aP (o := 0) rfl rfl Kr Vq Nb (aO rfl)) rfl ?_;rintro _ VV ⟨rfl, VD, cg⟩;refine ⟨.inl rfl, ?_⟩;have Cz := (aE.of XW [Vv]).bk (aE.one cg);refine aU ?_;have Wc := Cz.size;have hcz := aE.one cg;refine hout (pA Cz So) (wL Cz Om Om So So) ⟨?_, Vr.bk hcz So, Vs.bk hcz So, E.N0 hcz So, by omega, trivial⟩;rw [List.map_append, List.map_singleton, zx, ← hyy, ← hj];exact VD.congr rfl
 intro D1 We W2 _ VK ⟨Vq, Vr, Vs, E, hz, VW⟩ hKD;obtain rfl := VK;have hfin : ((List.finRange M).map (·.val)) = List.range M := List.ext_getElem (by simp) (fun i h1 h2 => by simp);rw [hfin, hM, ← hml] at Vq
 obtain ⟨y0, VL⟩ : ∃ y0, y0 = ab H ms (0, 0) := ⟨_, rfl⟩
 have hyo : ok y0 := by rw [VL]; exact rR hhk _ _ (show ok (0, 0) from ⟨by omega, by omega⟩)
 rw [show Ff H ms (0, 0) (List.range ((ms.length + 15) / 16)) = y0 from VL.symm] at Vq;have Vt : xQ W2 D1 := hKD;have Wr := Vt.lt;have Ws : Vv < D1 := by omega
 refine au 7 ?_;refine ae (Vy ?_);refine rU ?_; intro VX Vz;refine au 13 ?_;refine al (aB rfl rfl Tn.u Kr (j := 1) rfl Om) ?_;refine au 7 ?_
 obtain ⟨ga, oa, hA⟩ : ∃ g o, 0 < n → C = some ⟨g, o, none⟩ := by
  rcases Nat.eq_zero_or_pos n with h | h
  ·exact ⟨0, 0, fun h' => by omega⟩
  obtain ⟨g, o, h1, _⟩ := HC.get (k := 0) h;exact ⟨g, o, fun _ => h1⟩
 refine aC func176 rfl (nU 16 n e C _ Om) ?_;rintro e w6 ⟨b1, b2, rfl, V6, V9, C1, C2, ex⟩;obtain ⟨Vq,Vr,Vs,E,Vt⟩ := eQ ex Vq Vr Vs E Vt;obtain ⟨M, hM⟩ : ∃ M, M = (n + 15) / 16 := ⟨_, rfl⟩; have Wa := C1.lt; have Wb := C2.lt; have hy : ok y0 := hyo;refine aU ?_;refine qt (n := 4) (S := fun xs => xs = List.finRange M) Om rfl (enters func228 rfl rfl) (ku 3 ga oa e 16 n M b1 b2 C _ Om hA Om Om Om (by intro j hj; omega) C1 C2) wD.trans (fun W l o o' hl ho _ _ => rE W l o o' Om Om ho) (fun pre W => ao W Vv 220 (pv (Ff H ss y0 (pre.map (·.val))).1 (Ff H ss y0 (pre.map (·.val))).2) ∧ ao W VA 220 (pv H.1 H.2) ∧ ao W VR 23 #[.slice G m f, .slice C n e] ∧ Below w.heap.size w W ∧ w6.heap.size ≤ W.heap.size ∧ xQ W D1) (OwnFrom.and fO (OwnFrom.and fO (OwnFrom.and fO (OwnFrom.and (ownFrom_below (Nat.le_refl _) Om) (OwnFrom.and nX (Na Om)))))) ⟨Vq, Vr, Vs, E, Nat.le_refl _, Vt⟩ rfl rfl ?_ ?_
 ·intro kR Q2 pre v W2 ⟨Vq, Vr, Vs, E, hz, Vt⟩ hl hout;have hv := v.isLt
  obtain ⟨j, hj⟩ : ∃ j, j = v.val := ⟨_, rfl⟩
  obtain ⟨e1, VC⟩ : ∃ e1, e1 = min 16 (n - 16 * j) := ⟨_, rfl⟩
  have hjn : 16 * j < n := by omega
  obtain rfl := hA Om;have hpw : jM ga oa 16 n v.val = .slice (some ⟨ga, oa + 16 * j, none⟩) e1 e1 := by unfold jM; rw [VC, hj]
  rw [hpw];have HP := vn (HC.wk E) j e1 VC;have hpl := HP.1
  obtain ⟨y, hyy⟩ : ∃ y, y = Ff H ss y0 (pre.map (·.val)) := ⟨_, rfl⟩
  have hyo : ok y := by rw [hyy]; exact rR hhk _ _ hy
  rw [← hyy] at Vq;have XW := Ext.refl W2;refine ji ?_; intro Ww VM;refine eV ?_;refine ag (dD (n := 16) (z := .int .u8 0) (bytes := 1) rfl rfl Tn.u Kr rfl rfl rfl rfl Om Om) rfl ?_;rintro _ w7 ⟨VG, rfl, Vw, Vx, ex⟩;obtain ⟨Vq,Vr,Vs,E,HP,XW⟩ := iJ ex Vq Vr Vs E HP XW;replace Vw := Vw.congr (cs' := dd (List.replicate 16 0)) Kr;refine au 2 ?_;refine ae (VM ?_);refine ji ?_; intro Wx VN;refine eV ?_;refine aU ?_;refine ag (gY (o := 0) rfl rfl Tn.u Kr Vw HP.2 (by rw [List.length_map, hpl]; exact (Nat.min_eq_left Om).symm) (by rw [List.length_map, hpl, ba, List.length_replicate]; omega) aJ) rfl ?_;rintro _ w8 ⟨rfl, D8, cg⟩;replace Vq := Vq.aA cg Om; replace Vr := Vr.aA cg Om; replace Vs := Vs.aA cg Om; replace E := E.aA cg Om; replace XW := XW.aA cg Vx; rw [uB] at D8; have HW := bh D8 (cP Om);refine au 1 ?_;refine ae (VN ?_);refine vK Kr 7 rfl ?_; intro VI ex VJ;obtain ⟨Vq,Vr,Vs,E,XW,HW⟩ := iJ ex Vq Vr Vs E XW HW;refine zm [0, 1, 4] ?_;refine bz 2 rfl func175 rfl (kW _ HW) ?_;rintro e w9 ⟨rfl, ex⟩;obtain ⟨Vq,Vr,Vs,E,XW⟩ := eQ ex Vq Vr Vs E XW;refine aU ?_;refine bz 3 rfl func177 rfl (ke _ _ _ _ hyo.1 hyo.2 (sL _ _) (tL _ _) _) ?_;rintro e VT ⟨rfl, ex⟩;obtain ⟨Vq,Vr,Vs,E,XW⟩ := eQ ex Vq Vr Vs E XW;refine aU ?_;refine bz 5 rfl func178 rfl (nN _ _ _ _ (NT hyo.1 (sL _ _)) (NT hyo.2 (tL _ _)) hhk.1 hhk.2 _) ?_;rintro e VU ⟨rfl, ex⟩;obtain ⟨Vq,Vr,Vs,E,XW⟩ := eQ ex Vq Vr Vs E XW;refine aU ?_;refine aL 6 Kr ?_; refine aQ rfl (aP (o := 0) rfl rfl Kr Vq Nb (aO rfl)) rfl ?_;rintro _ VV ⟨rfl, VD, cg⟩;refine ⟨.inl rfl, ?_⟩;have Cz := (aE.of XW [Vv]).bk (aE.one cg);refine aU ?_;have Wc := Cz.size;have hcz := aE.one cg;refine hout (pA Cz So) (wL Cz Om Om So So) ⟨?_, Vr.bk hcz So, Vs.bk hcz So, E.N0 hcz So, by omega, Vt.bk Cz So⟩;rw [List.map_append, List.map_singleton, zx, ← hyy, ← hj];exact VD.congr rfl
 intro D2 We W2 _ VK ⟨Vq, Vr, Vs, E, hz, VW⟩ hKD;obtain rfl := VK;have hfin : ((List.finRange M).map (·.val)) = List.range M := List.ext_getElem (by simp) (fun i h1 h2 => by simp);rw [hfin, hM, ← O9] at Vq;rw [show Ff H ss y0 (List.range ((ss.length + 15) / 16)) = ab H ss y0 from rfl] at Vq;have Vu : xQ W2 D2 := hKD;replace Vt : xQ W2 D1 := VW;have hne : D2 ≠ D1 := by omega
 refine au 7 ?_;refine ae (Vz ?_);refine rU ?_; intro VY VO;refine aU ?_
 obtain ⟨y, hyy⟩ : ∃ y, y = ab H ss y0 := ⟨_, rfl⟩
 have hyo : ok y := by rw [hyy]; exact rR hhk _ _ hyo
 have hlo : ok (IY H y m n) := LN _ _ hhk;rw [← hyy] at Vq;refine az Kr 14 rfl ?_; intro Wf ex Wg;obtain ⟨Vq,Vr,E,Vt,Vu⟩ := eQ ex Vq Vr E Vt Vu;refine zm [0, 1, 2] ?_;refine my 3 rfl (bo rfl Tn.u Tn.u (show _ = ((m : Nat) : Int) from IntWalk.u64_in _ ⟨by omega, by omega⟩)) ?_;refine dg 4 rfl (fun _ => cL rfl rfl (show _ = ((m * 8 : Nat) : Int) from IntWalk.u64_in _ ⟨by omega, by omega⟩)) ?_;refine zm [5, 6] ?_;refine my 7 rfl (bo rfl Tn.u Tn.u (show _ = ((n : Nat) : Int) from IntWalk.u64_in _ ⟨by omega, by omega⟩)) ?_;refine dg 8 rfl (fun _ => cL rfl rfl (show _ = ((n * 8 : Nat) : Int) from IntWalk.u64_in _ ⟨by omega, by omega⟩)) ?_;refine dg 9 rfl (fun _ => ar rfl (cells := pv (m * 8) (n * 8)) Kr) ?_;refine zm [11] ?_;refine bz 10 rfl func177 rfl (ke y.1 y.2 (m * 8) (n * 8) hyo.1 hyo.2 Om Om _) ?_;rintro e VT ⟨rfl, ex⟩;obtain ⟨Vq,E,Vt,Vu⟩ := bU ex Vq E Vt Vu;refine aU ?_;refine bz 12 rfl func178 rfl (nN (y.1 ^^^ m * 8) (y.2 ^^^ n * 8) H.1 H.2 (NT hyo.1 Om) (NT hyo.2 Om) hhk.1 hhk.2 _) ?_;rintro e VU ⟨rfl, ex⟩;obtain ⟨Vq,E,Vt,Vu⟩ := bU ex Vq E Vt Vu;refine aU ?_;refine aL 13 Kr ?_; refine aQ rfl (aP (o := 0) rfl rfl Kr Vq Nb (aO rfl)) rfl ?_;rintro _ VV ⟨rfl, VD, cg⟩;refine ⟨.inl rfl, ?_⟩;have hcz := aE.one cg; replace Vt := Vt.bk hcz So; replace Vu := Vu.bk hcz So; replace E := E.aA cg Om; replace Vq := VD.congr (cs' := pv (IY H y m n).1 (IY H y m n).2) rfl;refine aU ?_;refine az Kr 8 rfl ?_; intro Wh ex Wi;obtain ⟨Vq,E,Vt,Vu⟩ := bU ex Vq E Vt Vu;refine zm [0, 1, 2] ?_;refine bz 3 rfl func179 rfl (uP (n := 1) _ (HA.wk E) (HB.wk E)) ?_;rintro e _ ⟨_, _, rfl, Wj, ex⟩;refine aU ?_;obtain ⟨E,Vt,Vu⟩ := bF ex E Vt Vu;have Wk := Wj.bs;refine bz 4 rfl func175 rfl (kW _ Wk) ?_;rintro e _ ⟨rfl, ex⟩;obtain ⟨E,Vt,Vu⟩ := bF ex E Vt Vu;refine aU ?_;refine bz 5 rfl func177 rfl (ke _ _ _ _ hlo.1 hlo.2 (sL _ _) (tL _ _) _) ?_;rintro e _ ⟨rfl, ex⟩;refine aU ?_;obtain ⟨E,Vt,Vu⟩ := bF ex E Vt Vu;have Wl := E.size;refine bz 6 rfl func180 rfl (Br _ _ _) ?_;rintro e jr ⟨VG, rfl, Vx, Vw, ex⟩;obtain ⟨E,Vt,Vu⟩ := bF ex E Vt Vu;refine zm [7] ?_;refine hretDD rfl Vu Vt hne ?_
 have hT : tag key nn ss ms = pb ((IY H y m n).1 ^^^ pf (Ep key nn 1) 16) ((IY H y m n).2 ^^^ ps (Ep key nn 1) 16) 8 := by unfold tag; rw [← hH, ← VL, ← hyy, hml, O9]
 rw [hT];have hPl := mG ((IY H y m n).1 ^^^ pf (Ep key nn 1) 16) ((IY H y m n).2 ^^^ ps (Ep key nn 1) 16) 8
 obtain ⟨P, hP⟩ : ∃ P, P = pb ((IY H y m n).1 ^^^ pf (Ep key nn 1) 16) ((IY H y m n).2 ^^^ ps (Ep key nn 1) 16) 8 := ⟨_, rfl⟩
 rw [← hP] at Vw hPl ⊢;have RB : Row jr w.heap.size 5 (some ⟨VG, 0, none⟩) 16 16 (P.map bv) := Row.new Vw (base := w.heap.size) Om (by show (dd P).size = 16; rw [ba, hPl]) (by unfold maxLen; omega);have VP : w.heap.size ≤ D1 := by omega
 have VQ : w.heap.size ≤ D2 := by omega
 have VE : ((jr.putObj D2 (.deferred none)).heap)[D1]? = some (.deferred (some [])) := (World.putObj_heap_other (Ne.symm hne)).trans Vt;exact ⟨_, 16, rfl, ownsRow_putObj (ownsRow_putObj RB _ Vu rfl) _ VE rfl, (E.trans (belowK_b (w := w) (Nat.le_refl _) jr D2 _ _ VQ Vu rfl rfl)).trans (belowK_b (w := w) (Nat.le_refl _) _ D1 _ _ VP VE rfl rfl)⟩
end
section
open Go.RowKit Tryz
attribute [local irreducible] Y Ef WL WC WK WQ WM cv WN WF cZ
open Hk
theorem Jv {a a' : Oa} {b b' c' : Nat} {xs : Lb} (H : Bs w A n xs) (B : ao w g t #[.slice a b c, .slice a' b' c']) (hn : 0 < n) (o : Nat) : A ≠ some ⟨g, o, none⟩ := by
 rintro rfl;obtain ⟨b1, off, e, _, hc⟩ := H.get (k := 0) hn;injection e with e
 injection e with e1 e2 _
 subst e1; subst e2;rw [B.cell] at hc;rcases o with _ | _ | o
 ·simp at hc
 ·simp at hc
 simp at hc
theorem y9 (is : Lb) : [[0], Hk.ext Bb [] Tm [], Hk.ext Bb [] inf is].flatten = ctx is := by simp [ctx]
theorem sa (is : Lb) : (ctx is).length = 65 := by unfold ctx; simp [gS]
theorem uS (A B : Oa) (n c m d : Nat) (xs is : Lb) (w : World) (HA : Bs w A n xs) (hn : n ≤ 1000) (HB : Bs w B m is) (hm : m ≤ 8000) :
  Ct 166 #[.slice A n c, .slice B m d] w fun e w' => ∃ A1 c1 A2 c2, e = .returned (.agg #[.slice A1 16 c1, .slice A2 12 c2]) ∧ Bs w' A1 16 (Er xs is) ∧ Bs w' A2 12 (EB xs is) ∧ 16 ≤ c1 ∧ 12 ≤ c2 ∧ Ext w w' := by
 have F := aE.refl [] w;have KA : Kp w.heap.size [] (fun w => Bs w A n xs) w := Kp.bs HA (by simp);have KB : Kp w.heap.size [] (fun w => Bs w B m is) w := Kp.bs HB (by simp);refine aK (s := 2) 22 func166 rfl rfl rfl underlying209 rfl Kr rfl ?_;intro _ hret;refine aU ?_;intro _ Vr B4 Vq ex;have Vu := B4.lt;replace F := F.grow ex Vq;replace KA := KA.grow ex Vq;replace KB := KB.grow ex Vq;refine aU ?_;refine ag (aF (z := .int .u8 0) Tn.u Kr rfl rfl rfl rfl rfl) rfl ?_;rintro _ _ ⟨_, rfl, D1, _, ex⟩;obtain ⟨F,KA,KB,B4⟩ := bU ex F KA KB B4;have H1 := bh (xs := [0]) (D1.congr rfl) rfl;refine aC func137 rfl (gB Bb Tm none none 0 0 0 0 [] [] _ (Bs.nil _ _) Om (Bs.nil _ _) Om (by decide) (by decide)) ?_;rintro e _ ⟨A2, c2, rfl, H2, ex⟩;obtain ⟨F,KA,KB,B4,H1⟩ := eQ ex F KA KB B4 H1;refine aU ?_;refine aC func137 rfl (gB Bb inf none B 0 0 m d [] is _ (Bs.nil _ _) Om KB.out Om (by decide) (by decide)) ?_;rintro e _ ⟨_, _, rfl, H3, ex⟩;obtain ⟨F,KA,B4,H1,H2⟩ := eQ ex F KA B4 H1 H2;refine aU ?_;refine ag (aF (z := .slice none 0 0) Tn.u Kr rfl rfl rfl rfl rfl) rfl ?_;rintro _ _ ⟨_, rfl, D4, _, ex⟩;obtain ⟨F,KA,B4,H1,H2,H3⟩ := iJ ex F KA B4 H1 H2 H3;have S4 := mL D4 H1 H2 H3;refine aC func184 rfl (qB _ 3 3 [[0], Hk.ext Bb [] Tm [], Hk.ext Bb [] inf is] _ S4 Om (by rw [y9, sa]; omega)) ?_;rintro e _ ⟨A5, k5, c5, rfl, R5, ex⟩;obtain ⟨F,KA,B4⟩ := bF ex F KA B4;have H5 := R5.bs; rw [y9] at H5; obtain rfl : k5 = 65 := by rw [← H5.1, sa]
 refine aU ?_;refine aC func137 rfl (gB Bb sec A none n c 0 0 xs [] _ KA.out Om (Bs.nil _ _) Om (by decide) (by decide)) ?_;rintro e _ ⟨A6, c6, rfl, H6, ex⟩;obtain ⟨F,B4,H5⟩ := bF ex F B4 H5;refine aU ?_;refine aC func136 rfl (jA Bb SA A6 A5 32 c6 65 c5 16 _ (ctx is) _ H6 Om H5 Om (by decide) (by decide) Om) ?_;rintro e _ ⟨A7, c7, rfl, ⟨H7, _⟩, Vs, ex⟩;obtain ⟨F,B4,H5,H6⟩ := bU ex F B4 H5 H6;refine aU ?_;refine aC func136 rfl (jA Bb Ss A6 A5 32 c6 65 c5 12 _ (ctx is) _ H6 Om H5 Om (by decide) (by decide) Om) ?_;rintro e _ ⟨A8, c8, rfl, ⟨H8, _⟩, Vt, ex⟩;obtain ⟨F,B4,H7⟩ := bF ex F B4 H7;refine au 1 ?_;refine al (ar rfl (cells := #[.slice A7 16 c7, .slice A8 12 c8]) Kr) ?_;replace B4 := B4.congr (cs' := #[.slice none 0 0, .slice none 0 0]) rfl;have K7 := Kp.bs (S := [Vr]) H7 (fun h g hg o => by simp at hg; subst hg; exact Jv H7 B4 h o);have K8 := Kp.bs (S := [Vr]) H8 (fun h g hg o => by simp at hg; subst hg; exact Jv H8 B4 h o);refine aU ?_;intro _ D cg;have ex := aE.one cg;clear cg;obtain ⟨F,K7,K8⟩ := sh ex F K7 K8;replace B4 := D; clear D;replace B4 := B4.congr (cs' := #[.slice A7 16 c7, .slice A8 12 c8]) rfl;refine aU ?_;refine hret rfl B4 rfl ?_;exact ⟨A7, c7, A8, c8, rfl, K7.out, K8.out, Vs, Vt, F.drop Om |>.aS (by simp)⟩
theorem AN (A B : Oa) (c d : Nat) (w : World) : Ct 103 #[.slice A 16 c, .slice B 12 d] w fun e w' => e = .returned (.bool true) ∧ Ext w w' := by refine ai 13 func103 rfl rfl rfl rfl ?_;intro _ hret;refine aU ?_;refine hret rfl ?_;exact ⟨rfl, Ext.refl _⟩
theorem zG (A B C D : Oa) (c d k e m f : Nat) (w : World) (hk : k < 16) : Ct 42 #[.slice A 16 c, .slice B 12 d, .slice C k e, .slice D m f] w fun e w' => e = .returned (.tuple #[.slice none 0 0, .bool false]) ∧ Ext w w' := by have E := Ext.refl w;refine bL 57 func42 rfl rfl rfl rfl ?_;intro _ hret;refine aU ?_;refine aC func103 rfl (AN A B c d _) ?_;rintro e _ ⟨rfl, ex⟩;replace E := E.ext ex;refine aU ?_;refine hret rfl rfl ?_;exact ⟨rfl, E⟩
end
section
open Go.RowKit
attribute [local irreducible] Y Ef WL WC WK WQ WM cv WN WF cZ
open Hk
namespace Hk
def JH : List UInt8 := [77, 76, 83, 32, 49, 46, 48, 32]
def info (lb : ByteArray) (cs : Lb) : List UInt8 := Wire.vec (JH ++ sb lb) ++ Wire.vec cs
end Hk
end
section
open Go.RowKit Tryz
attribute [local irreducible] Y Ef WL WC WK WQ WM cv WN WF cZ WJ gI WR qK
open Ae Gm
namespace Gm
def nh (key nn ts ms : Lb) : List UInt8 := OX key nn ts ++ tag key nn (OX key nn ts) ms
def Aw (key nn bx ms : Lb) : Option (List UInt8) :=
 if bx.length < 16 then none else if tag key nn (bx.take (bx.length - 16)) ms = bx.drop (bx.length - 16) then some (OX key nn (bx.take (bx.length - 16))) else none
theorem lR (key nn ts ms : Lb) : (nh key nn ts ms).length = ts.length + 16 := by unfold nh; rw [List.length_append, nH, dQ]
def PC (a b : Lb) : Nat → Nat
 | 0 => 0
 | i + 1 => PC a b i ||| (cell a i ^^^ cell b i)
theorem IA (a b : Lb) : ∀ i, PC a b i < 256
 | 0 => by rw [PC]; omega
 | i + 1 => Nat.or_lt_two_pow (n := 8) (IA a b i) (x8 (c8 _ _) (c8 _ _))
theorem xC {b : Nat} (h : a ^^^ b = 0) : a = b := by
 have : a ^^^ b ^^^ b = 0 ^^^ b := by rw [h]
 rwa [Nat.xor_assoc, Nat.xor_self, Nat.xor_zero, Nat.zero_xor] at this
theorem xG (a b : Lb) : ∀ i, PC a b i = 0 ↔ ∀ k, k < i → cell a k = cell b k
  | 0 => ⟨fun _ k h => by omega, fun _ => rfl⟩
  | i + 1 => by
    rw [PC, Nat.or_eq_zero_iff, xG a b i];constructor
    · rintro ⟨h1, h2⟩ k hk
      rcases Nat.lt_or_ge k i with h | h
      · exact h1 k h
      obtain rfl : k = i := by omega
      exact xC h2
    intro h;exact ⟨fun k hk => h k Om, by rw [h i Om, Nat.xor_self]⟩
theorem GM {a : Lb} (ha : a.length = 16) (hb : b.length = 16) : PC a b 16 = 0 ↔ a = b := by rw [xG];exact ⟨fun h => Ho Om fun k hk => h k Om, fun h k _ => by rw [h]⟩
end Gm
theorem vg {B : Oa} {d f : Nat} {ts : Lb} (w : World) (HA : Bs w A 16 key) (HB : Bs w B 12 nn) (HC : Bs w C n ts) (hn : n ≤ 90000) (HG : Bs w G m ms) (hm : m ≤ 90000) (hmf : m ≤ f) :
  Ct 55 #[.slice A 16 c, .slice B 12 d, .slice C n e, .slice G m f] w fun e w' => ∃ A' c', e = .returned (.tuple #[.slice A' (n + 16) c', .bool true]) ∧ Row w' w.heap.size 5 A' (n + 16) c' ((nh key nn ts ms).map bv) ∧ Ext w w' := by
 have E := Ext.refl w;refine bL 26 func55 rfl rfl rfl rfl ?_;intro _ hret;refine aU ?_;refine aC func103 rfl (AN A B c d _) ?_;rintro e _ ⟨rfl, ex⟩;replace E := E.ext ex;refine au 4 ?_;refine bg rfl rfl ?_;refine aU ?_;have Vq := E.size;refine aC func105 rfl (qI _ (HA.wk E) (HB.wk E) (HC.wk E) Om) ?_;rintro e _ ⟨_, _, rfl, R2, ex⟩;replace E := E.ext ex;replace R2 := R2.lower Vq;refine aU ?_;refine aC func104 rfl (yu _ (HA.wk E) (HB.wk E) R2.bs Om R2.cap (HG.wk E) Om hmf) ?_;rintro e _ ⟨_, _, rfl, R3, ex⟩;refine aU ?_;obtain ⟨E,R2⟩ := aZ ex E R2;have H3 := R3.bs; have Vr := E.size;refine ag (aX rfl rfl bT R2 H3.2 (by rw [List.length_map, H3.1]) aJ Om Om Vr) rfl ?_;rintro _ _ ⟨A4, c4, rfl, R4, be, _, _⟩;have E4 := E.trans be;refine aU ?_;refine hret rfl rfl ?_;exact ⟨A4, c4, rfl, by unfold nh; rw [List.map_append]; exact R4, E4⟩
theorem pO {B : Oa} {d f : Nat} {bx : Lb} (w : World) (HA : Bs w A 16 key) (HB : Bs w B 12 nn) (HC : Bs w C k bx) (hk : k ≤ 90000) (hke : k ≤ e) (HG : Bs w G m ms) (hm : m ≤ 90000) (hmf : m ≤ f) :
  Ct 42 #[.slice A 16 c, .slice B 12 d, .slice C k e, .slice G m f] w fun e w' => ∃ A' j c', e = .returned (.tuple #[.slice A' j c', .bool (Aw key nn bx ms).isSome]) ∧ Row w' w.heap.size 5 A' j c' (((Aw key nn bx ms).getD []).map bv) ∧ Ext w w' := by
 have E := Ext.refl w;have hbl := HC.1;by_cases hs : k < 16
 ·have e1 : Aw key nn bx ms = none := by unfold Aw; rw [if_pos Om]
  rw [e1];refine (zG A B C G c d k e m f w hs).mono ?_;rintro e w' ⟨rfl, ex⟩;exact ⟨none, 0, 0, rfl, Row.empty _ _ _, ex⟩
 obtain ⟨n, rfl⟩ : ∃ n, k = n + 16 := ⟨k - 16, by omega⟩
 obtain ⟨gc, oc, rfl, _, _⟩ := HC.get (k := 0) Om;have HT : Bs w (some ⟨gc, oc, none⟩) n (bx.take n) := HC.take Om
 have hopn : Aw key nn bx ms = if tag key nn (bx.take n) ms = bx.drop n then some (OX key nn (bx.take n)) else none := by unfold Aw; rw [hbl, if_neg Om, Nat.add_sub_cancel]
 have hdl : (bx.drop n).length = 16 := by rw [List.length_drop]; omega
 obtain ⟨T, hT⟩ : ∃ T, T = tag key nn (bx.take n) ms := ⟨_, rfl⟩
 rw [← hT] at hopn;have hTl : T.length = 16 := by rw [hT]; exact dQ _ _ _ _
 refine bL 57 func42 rfl rfl rfl rfl ?_;intro _ hret;refine au 10 ?_;refine al (fI rfl rfl (show _ = ((n : Nat) : Int) from (bj Om Om).trans Om)) ?_;refine aU ?_;refine aC func103 rfl (AN A B c d _) ?_;rintro e _ ⟨rfl, ex⟩;replace E := E.ext ex;refine au 23 ?_;refine al (lV (s := 1) rfl rfl Tn.u Kr (j := n) rfl Om) ?_;refine aU ?_;refine aC func104 rfl (yu _ (HA.wk E) (HB.wk E) (HT.wk E) Om Om (HG.wk E) Om hmf) ?_;rintro e _ ⟨_, c3, rfl, R3, ex⟩;refine au 1 ?_;replace E := E.ext ex;rw [← hT] at R3; have H3 := R3.bs; obtain ⟨g3, _, rfl, _⟩ := R3.get (i := 0) Om;refine aU ?_;refine aD (fun n' L wr => ∃ i : Nat, L = [(0, .slice A 16 c), (1, .slice B 12 d), (2, .slice (some ⟨gc, oc, none⟩) (n + 16) e), (10, .int .i64 (n : Int)), (11, .int .u8 ((PC T (bx.drop n) i : Nat) : Int)), (31, .slice (some ⟨g3, 0, none⟩) 16 c3), (32, .int .i64 16), (33, .int .i64 (i : Int))] ∧ n' = 16 - i ∧ (i ≤ 16 ∧ Ext w wr ∧ Bs wr (some ⟨g3, 0, none⟩) 16 T)) _ _ ⟨0, rfl, rfl, Nat.zero_le _, E, H3⟩ Ls ?_;rintro _ n' L wr ⟨i, rfl, rfl, _, E, H3⟩ Vq;refine aU ?_;refine ak rfl (fun Vr => ?_) (fun Vr => ?_)
 ·refine au 7 ?_;refine al (aB rfl rfl Tn.u Kr (j := i) Om Om) ?_;refine al (af rfl Tn.u rfl (lk H3 (k := i) Om)) ?_;refine au 11 ?_;refine al (aB rfl rfl Tn.u Kr (j := n + i) Om Om) ?_;refine al (af rfl Tn.u rfl (show _ = some (.int .u8 ((cell (bx.drop n) i : Nat) : Int)) from by rw [← Nat.add_assoc]; exact JV ((HC.wk E).wT n) (k := i) Om)) ?_;refine al (bP rfl rfl ((bH (Ae.c8 _ _) (Ae.c8 _ _)).2.2)) ?_;refine al (jN rfl rfl ((bH (IA _ _ _) (x8 (Ae.c8 _ _) (Ae.c8 _ _))).2.1)) ?_;refine au 8 ?_;refine ae ?_;refine Vq _ _ ⟨i + 1, rfl, rfl, by omega, E, H3⟩ Om Ls
 obtain rfl : i = 16 := by omega
 refine aU ?_;refine ak rfl (fun Vs => ?_) (fun Vs => ?_)
 ·refine aU ?_;refine hret rfl rfl ?_;have hne : ¬ T = bx.drop n := fun h => by have := (GM hTl hdl).2 h; omega
  rw [hopn, if_neg hne];exact ⟨none, 0, 0, rfl, Row.empty _ _ _, E⟩
 refine au 8 ?_;refine al (lV (s := 1) rfl rfl Tn.u Kr (j := n) rfl Om) ?_;have hz := E.size;refine aC func105 rfl (qI _ (HA.wk E) (HB.wk E) (HT.wk E) Om) ?_;rintro e _ ⟨A5, c5, rfl, R5, ex⟩;replace E := E.ext ex;refine aU ?_;refine hret rfl rfl ?_;have heq : T = bx.drop n := (GM hTl hdl).1 Om;rw [hopn, if_pos heq];exact ⟨A5, n, c5, rfl, R5.lower hz, E⟩
end
section
open Go.RowKit Tryz
attribute [local irreducible] Y Ef WL WC WK WQ WM cv WN WF cZ WJ gI WR qK
open Ae Gm Hk
namespace Hk
def sl (pb sd is ts ms : Lb) : List UInt8 × List UInt8 × Nat :=
 if (uf pb sd).2.2 ≠ 0 then ([], [], (uf pb sd).2.2) else ((uf pb sd).2.1, nh (Er (uf pb sd).1 is) (EB (uf pb sd).1 is) ts ms, 0)
def ob (o : Option (List UInt8)) : List UInt8 × Nat := (o.getD [], if o.isSome then 0 else 11)
def op (pv en is bx ms : Lb) : List UInt8 × Nat :=
 if (Av pv en).2 ≠ 0 then ([], (Av pv en).2) else ob (Aw (Er (Av pv en).1 is) (EB (Av pv en).1 is) bx ms)
end Hk
theorem GK (xs ys : Lb) : (uf xs ys).2.2 < 256 := by
 unfold uf; split
 ·exact Aj _ _
 show 0 < 256; omega
theorem MU {xs : Lb} (h : (uf xs ys).2.2 = 0) : (uf xs ys).2.1.length = 32 := by
 unfold uf at h ⊢;split
 ·rename_i h1; rw [if_pos h1] at h; exact absurd h h1
 exact cX _
theorem JE (xs ys : Lb) : (Av xs ys).2 < 256 := by
 unfold Av; split
 ·exact Aj _ _
 show 0 < 256; omega
def OO (base : Nat) (w : World) (A B : Oa) : Prop := Nw base w A ∧ Nw base w B
theorem OO.nil (base : Nat) (w : World) : OO base w none none := ⟨fun _ _ e => (by cases e), fun _ _ e => (by cases e)⟩
theorem OO.lo {B : Oa} (h : OO base w A B) (hk : k ≤ base) : OO k w A B := ⟨h.1.lo hk, h.2.lo hk⟩
theorem Gk (A B C D M : Oa) (n c m d k q z v i j : Nat) (xs ys is ts ms : Lb) (w : World) (HA : Bs w A n xs) (hn : n ≤ 1000) (HB : Bs w B m ys) (hm : m ≤ 1000) (HC : Bs w C k is) (hk : k ≤ 8000)
  (HD : Bs w D z ts) (hz : z ≤ 80000) (HM : Bs w M i ms) (hi : i ≤ 80000) (hij : i ≤ j) :
  Ct 125 #[.slice A n c, .slice B m d, .slice C k q, .slice D z v, .slice M i j] w fun e w' => ∃ A1 k1 c1 A2 k2 c2, e = .returned (.tuple #[.slice A1 k1 c1, .slice A2 k2 c2, .int .u8 ((sl xs ys is ts ms).2.2 : Int)]) ∧ Bs w' A1 k1 (sl xs ys is ts ms).1 ∧
   Bs w' A2 k2 (sl xs ys is ts ms).2.1 ∧ k1 ≤ 32 ∧ k2 ≤ z + 16 ∧ k2 ≤ c2 ∧ OO w.heap.size w' A1 A2 ∧ Ext w w' := by
 have E := Ext.refl w;refine fZ 40 func125 rfl rfl rfl rfl ?_;intro _ hret;refine aU ?_;have z1 := E.size;refine aC func189 rfl (Ey A B n c m d xs ys _ HA hn HB hm) ?_;rintro e _ ⟨A1, k1, c1, A2, k2, c2, rfl, H1, ⟨H2, n2⟩, _, Vr, ex⟩;obtain ⟨HC,HD,HM,E⟩ := bU ex HC HD HM E;refine aU ?_;refine ak rfl (fun Vs => ?_) (fun Vs => ?_)
 ·refine aU ?_;refine hret rfl rfl rfl ?_;exact ⟨none, 0, 0, none, 0, 0, by rw [sl, if_pos Om], by rw [sl, if_pos Om]; exact Bs.nil _ _, by rw [sl, if_pos Om]; exact Bs.nil _ _, by omega, by omega, by omega, OO.nil _ _, E⟩
 refine aU ?_;refine aC func166 rfl (uS A1 C k1 c1 k q _ is _ H1 Om HC hk) ?_;rintro e _ ⟨_, _, _, _, rfl, H3, H4, _, _, ex⟩;obtain ⟨HD,HM,E,H2,n2⟩ := eQ ex HD HM E H2 n2;refine aU ?_;intro _ _ Vt Vq exA;refine aU ?_;intro _ _ cg;have ex := exA.aA cg Vq; clear cg exA Vt;obtain ⟨HD,HM,E,H2,n2,H3,H4⟩ := iO ex HD HM E H2 n2 H3 H4;refine aU ?_;have z5 := E.size;refine aC func55 rfl (vg _ H3 H4 HD Om HM Om hij) ?_;rintro e _ ⟨A5, c5, rfl, R5, ex⟩;obtain ⟨E,H2,n2⟩ := bF ex E H2 n2;have H5 := R5.bs;refine aU ?_;refine hret rfl rfl rfl ?_;exact ⟨A2, k2, c2, A5, z + 16, c5, by rw [sl, if_neg Om]; rfl, by rw [sl, if_neg Om]; exact H2, by rw [sl, if_neg Om]; exact H5, Vr, Nat.le_refl _, R5.cap, ⟨n2.lo z1, R5.nw.lo z5⟩, E⟩
theorem nf (lb : ByteArray) (B : Oa) (m d : Nat) (cs : Lb) (w : World) (h2 : lb.size ≤ 100) (HB : Bs w B m cs) (hm : m ≤ 6000) :
  Ct 91 #[.string lb, .slice B m d] w fun e w' => ∃ A' k c', e = .returned (.slice A' k c') ∧ Bs w' A' k (info lb cs) ∧ k ≤ 1000 + m ∧ Ext w w' := by
 have E := Ext.refl w;have Vr := Wire.bE (8 + lb.size); have Vs := Wire.bE m;have hcat : cat [⟨#[77, 76, 83, 32, 49, 46, 48, 32]⟩, lb] = JH ++ sb lb := by rw [oh, oh]; show JH ++ (sb lb ++ []) = _; rw [List.append_nil]
 have hcl : (JH ++ sb lb).length = 8 + lb.size := by rw [List.length_append, ql]; rfl
 refine ai 11 func91 rfl rfl rfl rfl ?_;intro _ hret;refine aU ?_;refine ag (aF (z := .string ByteArray.empty) Tn.u Kr rfl rfl rfl rfl rfl) rfl ?_;rintro _ _ ⟨_, rfl, B1, _, ex⟩;obtain ⟨HB,E⟩ := aZ ex HB E;refine aC func167 rfl (rS [⟨#[77, 76, 83, 32, 49, 46, 48, 32]⟩, lb] 2 _ (B1.congr rfl) rfl Om (by rw [hcat, hcl]; omega)) ?_;rintro e _ ⟨A2, _, c2, rfl, R2, ex⟩;refine aU ?_;obtain ⟨HB,E⟩ := aZ ex HB E;have H2 := R2.bs; rw [hcat] at H2; have Vq := H2.1; rw [hcl] at Vq; subst Vq;refine aC func162 rfl (dV none A2 0 0 _ c2 [] _ _ (Bs.nil _ _) Om H2 Om) ?_;rintro e _ ⟨A3, k3, c3, rfl, R3, _, ex⟩;obtain ⟨HB,E⟩ := aZ ex HB E;have H3 := R3.bs; rw [List.nil_append] at H3;refine aU ?_;refine aC func162 rfl (dV A3 B k3 c3 m d _ cs _ H3 Om HB Om) ?_;rintro e _ ⟨A4, k4, c4, rfl, R4, _, ex⟩;replace E := E.ext ex;have H4 := R4.bs;refine aU ?_;refine hret rfl ?_;exact ⟨A4, k4, c4, rfl, H4, by omega, E⟩
theorem AK (A B C D : Oa) (lb : ByteArray) (n c m d k q z v : Nat) (xs ys cs ts : Lb) (w : World) (hlb : lb.size ≤ 100) (HA : Bs w A n xs) (hn : n ≤ 1000) (HB : Bs w B m ys) (hm : m ≤ 1000) (HC : Bs w C k cs) (hk : k ≤ 6000)
  (HD : Bs w D z ts) (hz : z ≤ 80000) :
  Ct 57 #[.slice A n c, .slice B m d, .string lb, .slice C k q, .slice D z v] w fun e w' => ∃ A1 k1 c1 A2 k2 c2, e = .returned (.tuple #[.slice A1 k1 c1, .slice A2 k2 c2, .int .u8 ((sl xs ys (info lb cs) ts []).2.2 : Int)]) ∧ Bs w' A1 k1 (sl xs ys (info lb cs) ts []).1 ∧
   Bs w' A2 k2 (sl xs ys (info lb cs) ts []).2.1 ∧ k1 ≤ 32 ∧ k2 ≤ z + 16 ∧ k2 ≤ c2 ∧ OO w.heap.size w' A1 A2 ∧ Ext w w' := by
 have E := Ext.refl w;refine fZ 23 func57 rfl rfl rfl rfl ?_;intro _ hret;refine aU ?_;refine aC func91 rfl (nf lb C k q cs _ hlb HC Om) ?_;rintro e _ ⟨A1, k1, c1, rfl, H1, _, ex⟩;obtain ⟨HA,HB,HD,E⟩ := bU ex HA HB HD E;refine aU ?_;have z6 := E.size;refine aC func125 rfl (Gk A B A1 D none n c m d k1 c1 z v 0 0 xs ys _ ts [] _ HA hn HB hm H1 Om HD Om (Bs.nil _ _) Om Om) ?_;rintro e _ ⟨A2, k2, c2, A3, k3, c3, rfl, H2, H3, Vq, Vr, Vs, t6, ex⟩;replace E := E.ext ex;refine aU ?_;refine hret rfl rfl rfl ?_;exact ⟨A2, k2, c2, A3, k3, c3, rfl, H2, H3, Vq, Vr, Vs, t6.lo z6, E⟩
end
section
section
open Go.RowKit Tryz
variable {P : Program} {f : FuncId} {fn : Func} {c : Code} {R : Ending → World → Prop}
theorem pQ {ty : TypeId} {u t : Tmp} (hr : fn.results = #[.tmp t, .cell u ty]) (tmps : Array Value) (w : World) {cs : Array Value} {d : TypeDesc} {g : Nat} {e : TypeId} {v : Value} (hp : tmps.getD u undef = .pointer (some ⟨g, 0, none⟩)) (h1 : tmps.getD t undef = v) (hg : ao w g e cs)
  (hu : P.underlying ty = some d) (hd : (match d with | .struct _ | .array _ _ => true | _ => false) = true) (hi : (P.info? ty).map (·.size) = some cs.size) : (results fn tmps).run P w = .ok (.tuple #[v, .agg cs]) w := by
 have Vq : tmps[u]?.getD undef = .pointer (some ⟨g, 0, none⟩) := by simpa using hp
 have Vr : tmps[t]?.getD undef = v := by simpa using h1
 simp [results, hr, Vq, Vr, asAddr, run_loadVar_row w g e ty cs _ d hg hu hd hi]
theorem nv {ty : TypeId} {s : Nat} {d : TypeDesc} (N : Nat) {u t : Tmp} (hf : P.funcs[f]? = some fn) (hb : fn.body = some c) (hN : fn.ntmps = N) (hr : fn.results = #[.tmp t, .cell u ty]) (hu : P.underlying ty = some d) (hd : (match d with | .struct _ | .array _ _ => true | _ => false) = true) (hs : (P.info? ty).map (·.size) = some s) (hsz : Nat.ble args.size N = true)
  (h : ∀ Q : Exit → Act → World → Prop, (∀ {N : Nat} {L : List (Nat × Value)} {w : World} {g : Nat} {e : TypeId} {cs : Array Value} {v : Value}, look L u = some (.pointer (some ⟨g, 0, none⟩)) → look L t = some v → ao w g e cs → cs.size = s → R (.returned (.tuple #[v, .agg cs])) w → WQ Q .ret N L w) → WC P Q c N (gk 0 args.toList) w) : Calls P f args w R :=
 fk N hf hb hN hsz fun Q hQ => h Q fun {N L w g e cs v} hv ht hg Vq hR a ha => hQ (bodyPost_ret (v := .tuple #[v, .agg cs]) (pQ hr _ _ (cK (ha.has _ _ hv)) (cK (ha.has _ _ ht)) hg hu hd (by rw [Vq]; exact hs)) ha.defers hR)
theorem sC {t : TypeId} {d : TypeDesc} (hu : P.underlying t = some d) (hd : (match d with | .struct _ | .array _ _ => false | _ => true) = true) (w : World) : (isAgg t).run P w = .ok false w := by
 unfold isAgg;rw [Sem.run_bind, run_underlying hu w]
 cases d <;> first | rfl | (simp at hd)
theorem yF {ty Vq : TypeId} {p q u : Tmp} (hr : fn.results = #[.cell p ty, .cell q Vq, .tmp u]) (tmps : Array Value) (w : World) {d d' : TypeDesc} {g g' : Nat} {v v' x : Value} (hp : tmps.getD p undef = .pointer (some ⟨g, 0, none⟩)) (hq : tmps.getD q undef = .pointer (some ⟨g', 0, none⟩)) (hx : tmps.getD u undef = x) (hg : w.cell? ⟨g, 0, none⟩ = some v) (Vr : w.cell? ⟨g', 0, none⟩ = some v')
  (hu : P.underlying ty = some d) (hd : (match d with | .struct _ | .array _ _ => false | _ => true) = true) (Vs : P.underlying Vq = some d') (Vt : (match d' with | .struct _ | .array _ _ => false | _ => true) = true) : (results fn tmps).run P w = .ok (.tuple #[v, v', x]) w := by
 have Vu : tmps[p]?.getD undef = .pointer (some ⟨g, 0, none⟩) := by simpa using hp
 have Vv : tmps[q]?.getD undef = .pointer (some ⟨g', 0, none⟩) := by simpa using hq
 have Vw : tmps[u]?.getD undef = x := by simpa using hx
 have h1 := sC (P := P) hu hd w;have h2 := sC (P := P) Vs Vt w;simp [results, hr, Vu, Vv, Vw, asAddr, loadVar, h1, h2, hg, Vr]
theorem zZ {ty Vq : TypeId} {d d' : TypeDesc} (N : Nat) {p q u : Tmp} (hf : P.funcs[f]? = some fn) (hb : fn.body = some c) (hN : fn.ntmps = N) (hr : fn.results = #[.cell p ty, .cell q Vq, .tmp u]) (hu : P.underlying ty = some d) (hd : (match d with | .struct _ | .array _ _ => false | _ => true) = true) (Vr : P.underlying Vq = some d') (Vs : (match d' with | .struct _ | .array _ _ => false | _ => true) = true) (hsz : Nat.ble args.size N = true)
  (h : ∀ Q : Exit → Act → World → Prop, (∀ {N : Nat} {L : List (Nat × Value)} {w : World} {g g' : Nat} {v v' x : Value}, look L p = some (.pointer (some ⟨g, 0, none⟩)) → look L q = some (.pointer (some ⟨g', 0, none⟩)) → look L u = some x → w.cell? ⟨g, 0, none⟩ = some v → w.cell? ⟨g', 0, none⟩ = some v' → R (.returned (.tuple #[v, v', x])) w → WQ Q .ret N L w) → WC P Q c N (gk 0 args.toList) w) : Calls P f args w R :=
 fk N hf hb hN hsz fun Q hQ => h Q fun {N L w g g' v v' x} hv Vt hx hg Vu hR a ha => hQ (bodyPost_ret (v := .tuple #[v, v', x]) (yF hr _ _ (cK (ha.has _ _ hv)) (cK (ha.has _ _ Vt)) (cK (ha.has _ _ hx)) hg Vu hu hd Vr Vs) ha.defers hR)
end
open Go.RowKit Tryz
attribute [local irreducible] Y Ef WL WC WK WQ WM cv WN WF cZ WJ gI
open Wire Nd M20
theorem kC (xs : Lb) (i : Nat) : nb (xs.take i) < 256 ^ i := by have h := uO (xs.take i);refine Nat.lt_of_lt_of_le h (Nat.pow_le_pow_right Om ?_);rw [List.length_take]; omega
theorem mN (b : Lb) (p i : Nat) : (b.drop p).getD i 0 = b.getD (p + i) 0 := by simp [List.getD_eq_getElem?_getD]
theorem jX {h : Hd} (hq : q = (n' : Int)) : (cF kd sz n h).setIfInBounds 2 (.int .u64 q) = cF kd sz n' h := by subst hq; rfl
theorem Az (k : Nat) (z : Int) (hz : z = (k : Int)) (w : World) (HA : Bs w A n b) (hn : n ≤ 1000000) (hat : at_ ≤ n) (hk : k = 1 ∨ k = 2 ∨ k = 4 ∨ k = 8) :
  Ct 186 #[.slice A n c, .int .i64 (at_ : Int), .agg (cF 0 z 0 an)] w fun e w' => e = .returned (.tuple #[.agg (cF 0 z (dy k b at_).1 an), .int .i64 (((dy k b at_).2.1 : Nat) : Int), .int .i64 (((dy k b at_).2.2 : Nat) : Int)]) ∧ Ext w w' := by
 subst hz;have F := aE.refl [] w;have KA : Kp w.heap.size [] (fun w => Bs w A n b) w := Kp.bs HA (by simp);have hbl := HA.1;have hdl : (b.drop at_).length = n - at_ := by rw [List.length_drop, hbl]
 refine lZ (s := 5) 186 func186 rfl rfl rfl underlying231 rfl Kr rfl ?_;intro _ hret;refine aU ?_;intro _ Vw B5 _ ex;have VI := B5.lt;obtain ⟨F,KA⟩ := aZ ex F KA;refine aU ?_;intro _ Vq B6 Vx ex;have VJ := ex.size;replace F := F.grow ex Vx;replace KA := KA.grow ex Vx;replace B5 := B5.grow ex Vx;refine au 10 ?_;refine al (ar rfl (cells := cF 0 (k : Int) 0 an) Kr) ?_;refine aU ?_;intro _ Vr B9 Vu ex;have VH : Vq < Vr := Nat.lt_of_lt_of_le B6.lt Vu;replace F := F.grow ex Vu;replace KA := KA.grow ex Vu;replace B5 := B5.grow ex Vu;replace B6 := B6.grow ex Vu;refine aU ?_;intro _ D cg;have ex := aE.one cg;clear cg;obtain ⟨F,KA,B5,B6⟩ := dF ex F KA B5 B6;replace B9 := D; clear D;replace B9 := B9.congr (cs' := cF 0 (k : Int) 0 an) rfl;refine au 22 ?_;refine bf (gO rfl rfl) rfl (fun k1 => ?_) (fun k1 => ?_)
 ·refine au 3 ?_;refine aG 33 rfl rfl (gO rfl rfl) rfl (fun k2 => ?_) (fun k2 => ?_)
  ·refine au 4 ?_;refine aG 38 rfl rfl (gO rfl rfl) rfl (fun k4 => ?_) (fun k4 => ?_)
   ·refine aU ?_;refine ak rfl (fun Vy => ?_) (fun Vy => ?_)
    ·refine aU ?_;intro Vv D cg;have ex := aE.one cg;clear cg;replace F := F.bk ex;replace B6 := D; clear D;replace B6 := B6.congr (cs' := cF 0 (k : Int) 0 an) rfl;refine aU ?_;refine hret rfl rfl rfl B6 rfl ?_;have e : dy k b at_ = (0, at_, 4) := by unfold dy; rw [if_pos Om]
     rw [e];exact ⟨rfl, (F.drop Om).drop Om |>.aS (by simp)⟩
    refine aU ?_;refine aD (fun n' L wr => ∃ (i : Nat), L = [(0, .slice A n c), (1, .int .i64 (at_ : Int)), (5, .pointer (some ⟨Vw, 0, none⟩)), (6, .pointer (some ⟨Vq, 0, none⟩)), (9, .pointer (some ⟨Vr, 0, none⟩)), (10, .int .i64 (i : Int))] ∧ n' = k - i ∧ (i ≤ k ∧ aE [Vr, Vq] w wr ∧ Kp w.heap.size [Vr, Vq] (fun w => Bs w A n b) wr ∧ ao wr Vw 231 (cF 0 (k : Int) 0 an) ∧ ao wr Vq 231 (cF 0 0 0 an) ∧ ao wr Vr 231 (cF 0 (k : Int) (nb ((b.drop at_).take i)) an))) _ _ ⟨0, rfl, rfl, Nat.zero_le _, F, KA, B5, B6, B9⟩ Ls ?_;rintro VF n' L wr ⟨i, rfl, rfl, hi, F, KA, B5, B6, B9⟩ Vz;refine aU ?_;refine ak rfl (fun VA => ?_) (fun VA => ?_)
    ·refine aU ?_;obtain ⟨b0, o0, rfl, _, _⟩ := KA.out.get (k := at_ + i) Om;have VG := UInt8.toNat_lt (b.getD (at_ + i) 0);have hlt := Nat.lt_of_lt_of_le (kC (b.drop at_) i) (Nat.pow_le_pow_right (n := 256) Om (show i ≤ 7 by omega));have hst := fz (xs := b.drop at_) (k := i) Om;rw [mN] at hst;refine cu [(12, [Vr])] Kr 13 rfl ?_; intro VB ex VC;obtain ⟨F,KA,B5,B6,B9⟩ := eQ ex F KA B5 B6 B9;refine gQ [(0, []), (1, [])] ?_;refine aU ?_;refine jw 2 [] rfl (fun wr (cr : aE ([]) _ wr) => cL rfl rfl (IntWalk.u64_in _ ⟨by omega, by omega⟩)) ?_;refine gQ [(3, []), (4, []), (5, []), (6, [])] ?_;refine aU ?_;refine jw 7 [] rfl (fun wr (cr : aE ([]) _ wr) => aB rfl rfl Tn.u Kr (j := at_ + i) Om Om) ?_;refine jw 8 [] rfl (fun wr (cr : aE ([]) _ wr) => af rfl Tn.u rfl ((KA.bk cr).out.uN (k := at_ + i) Om)) ?_;refine gQ [(9, [])] ?_;refine aU ?_;refine jw 10 [] rfl (fun wr (cr : aE ([]) _ wr) => aN rfl rfl (IntWalk.u64_in _ ⟨by omega, by omega⟩)) ?_;refine gQ [(11, [])] ?_;refine aU ?_;refine cJ 12 Kr ?_; refine dt rfl (aq (i := 2) rfl rfl rfl Kr B9 Nb) rfl ?_;rintro _ Vs ⟨rfl, D, cg⟩;have ex := aE.one cg;clear cg;refine ⟨ex, ?_⟩;obtain ⟨F,KA,B5,B6⟩ := dF ex F KA B5 B6;replace B9 := D; clear D;replace B9 := B9.congr (jX (n' := nb ((b.drop at_).take (i + 1))) (by rw [hst]; omega));refine cN Kr ?_;refine au 8 ?_;refine ae ?_;refine Vz _ _ ⟨i + 1, rfl, rfl, by omega, F, KA, B5, B6, B9⟩ Om Ls
    refine aU ?_;obtain rfl : i = k := by omega
    refine cu [(5, [Vq])] Kr 8 rfl ?_; intro VD ex VE;obtain ⟨F,B5,B6,B9⟩ := bU ex F B5 B6 B9;refine gQ [(0, []), (1, [5]), (2, [5]), (3, [5]), (4, [5])] ?_;refine aU ?_;refine cJ 5 Kr ?_; refine dt rfl (aP (o := 0) rfl rfl Kr B6 Nb (aO rfl)) rfl ?_;rintro _ Vt ⟨rfl, D, cg⟩;have ex := aE.one cg;clear cg;refine ⟨ex, ?_⟩;replace F := F.bk ex;replace B6 := D; clear D;replace B6 := B6.congr (cs' := cF 0 (i : Int) (nb ((b.drop at_).take i)) an) rfl;refine gQ [(6, []), (7, [])] ?_;refine aU ?_;refine cN Kr ?_;refine aU ?_;refine hret rfl rfl rfl B6 rfl ?_;have e : dy i b at_ = (nb ((b.drop at_).take i), at_ + i, 0) := by unfold dy; rw [if_neg Om]
    rw [e];exact ⟨rfl, (F.drop Om).drop Om |>.aS (by simp)⟩
   refine au 8 ?_;refine bg rfl rfl ?_;refine aU ?_;refine ak rfl (fun Vy => ?_) (fun Vy => ?_)
   ·refine aU ?_;intro Vv D cg;have ex := aE.one cg;clear cg;replace F := F.bk ex;replace B6 := D; clear D;replace B6 := B6.congr (cs' := cF 0 (k : Int) 0 an) rfl;refine aU ?_;refine hret rfl rfl rfl B6 rfl ?_;have e : dy k b at_ = (0, at_, 4) := by unfold dy; rw [if_pos Om]
    rw [e];exact ⟨rfl, (F.drop Om).drop Om |>.aS (by simp)⟩
   refine aU ?_;refine aD (fun n' L wr => ∃ (i : Nat), L = [(0, .slice A n c), (1, .int .i64 (at_ : Int)), (5, .pointer (some ⟨Vw, 0, none⟩)), (6, .pointer (some ⟨Vq, 0, none⟩)), (9, .pointer (some ⟨Vr, 0, none⟩)), (10, .int .i64 (i : Int))] ∧ n' = k - i ∧ (i ≤ k ∧ aE [Vr, Vq] w wr ∧ Kp w.heap.size [Vr, Vq] (fun w => Bs w A n b) wr ∧ ao wr Vw 231 (cF 0 (k : Int) 0 an) ∧ ao wr Vq 231 (cF 0 0 0 an) ∧ ao wr Vr 231 (cF 0 (k : Int) (nb ((b.drop at_).take i)) an))) _ _ ⟨0, rfl, rfl, Nat.zero_le _, F, KA, B5, B6, B9⟩ Ls ?_;rintro VF n' L wr ⟨i, rfl, rfl, hi, F, KA, B5, B6, B9⟩ Vz;refine aU ?_;refine ak rfl (fun VA => ?_) (fun VA => ?_)
   ·refine aU ?_;obtain ⟨b0, o0, rfl, _, _⟩ := KA.out.get (k := at_ + i) Om;have VG := UInt8.toNat_lt (b.getD (at_ + i) 0);have hlt := Nat.lt_of_lt_of_le (kC (b.drop at_) i) (Nat.pow_le_pow_right (n := 256) Om (show i ≤ 7 by omega));have hst := fz (xs := b.drop at_) (k := i) Om;rw [mN] at hst;refine cu [(12, [Vr])] Kr 13 rfl ?_; intro VB ex VC;obtain ⟨F,KA,B5,B6,B9⟩ := eQ ex F KA B5 B6 B9;refine gQ [(0, []), (1, [])] ?_;refine aU ?_;refine jw 2 [] rfl (fun wr (cr : aE ([]) _ wr) => cL rfl rfl (IntWalk.u64_in _ ⟨by omega, by omega⟩)) ?_;refine gQ [(3, []), (4, []), (5, []), (6, [])] ?_;refine aU ?_;refine jw 7 [] rfl (fun wr (cr : aE ([]) _ wr) => aB rfl rfl Tn.u Kr (j := at_ + i) Om Om) ?_;refine jw 8 [] rfl (fun wr (cr : aE ([]) _ wr) => af rfl Tn.u rfl ((KA.bk cr).out.uN (k := at_ + i) Om)) ?_;refine gQ [(9, [])] ?_;refine aU ?_;refine jw 10 [] rfl (fun wr (cr : aE ([]) _ wr) => aN rfl rfl (IntWalk.u64_in _ ⟨by omega, by omega⟩)) ?_;refine gQ [(11, [])] ?_;refine aU ?_;refine cJ 12 Kr ?_; refine dt rfl (aq (i := 2) rfl rfl rfl Kr B9 Nb) rfl ?_;rintro _ Vs ⟨rfl, D, cg⟩;have ex := aE.one cg;clear cg;refine ⟨ex, ?_⟩;obtain ⟨F,KA,B5,B6⟩ := dF ex F KA B5 B6;replace B9 := D; clear D;replace B9 := B9.congr (jX (n' := nb ((b.drop at_).take (i + 1))) (by rw [hst]; omega));refine cN Kr ?_;refine au 8 ?_;refine ae ?_;refine Vz _ _ ⟨i + 1, rfl, rfl, by omega, F, KA, B5, B6, B9⟩ Om Ls
   refine aU ?_;obtain rfl : i = k := by omega
   refine cu [(5, [Vq])] Kr 8 rfl ?_; intro VD ex VE;obtain ⟨F,B5,B6,B9⟩ := bU ex F B5 B6 B9;refine gQ [(0, []), (1, [5]), (2, [5]), (3, [5]), (4, [5])] ?_;refine aU ?_;refine cJ 5 Kr ?_; refine dt rfl (aP (o := 0) rfl rfl Kr B6 Nb (aO rfl)) rfl ?_;rintro _ Vt ⟨rfl, D, cg⟩;have ex := aE.one cg;clear cg;refine ⟨ex, ?_⟩;replace F := F.bk ex;replace B6 := D; clear D;replace B6 := B6.congr (cs' := cF 0 (i : Int) (nb ((b.drop at_).take i)) an) rfl;refine gQ [(6, []), (7, [])] ?_;refine aU ?_;refine cN Kr ?_;refine aU ?_;refine hret rfl rfl rfl B6 rfl ?_;have e : dy i b at_ = (nb ((b.drop at_).take i), at_ + i, 0) := by unfold dy; rw [if_neg Om]
   rw [e];exact ⟨rfl, (F.drop Om).drop Om |>.aS (by simp)⟩
  refine au 13 ?_;refine bg rfl rfl ?_;refine aU ?_;refine ak rfl (fun Vy => ?_) (fun Vy => ?_)
  ·refine aU ?_;intro Vv D cg;have ex := aE.one cg;clear cg;replace F := F.bk ex;replace B6 := D; clear D;replace B6 := B6.congr (cs' := cF 0 (k : Int) 0 an) rfl;refine aU ?_;refine hret rfl rfl rfl B6 rfl ?_;have e : dy k b at_ = (0, at_, 4) := by unfold dy; rw [if_pos Om]
   rw [e];exact ⟨rfl, (F.drop Om).drop Om |>.aS (by simp)⟩
  refine aU ?_;refine aD (fun n' L wr => ∃ (i : Nat), L = [(0, .slice A n c), (1, .int .i64 (at_ : Int)), (5, .pointer (some ⟨Vw, 0, none⟩)), (6, .pointer (some ⟨Vq, 0, none⟩)), (9, .pointer (some ⟨Vr, 0, none⟩)), (10, .int .i64 (i : Int))] ∧ n' = k - i ∧ (i ≤ k ∧ aE [Vr, Vq] w wr ∧ Kp w.heap.size [Vr, Vq] (fun w => Bs w A n b) wr ∧ ao wr Vw 231 (cF 0 (k : Int) 0 an) ∧ ao wr Vq 231 (cF 0 0 0 an) ∧ ao wr Vr 231 (cF 0 (k : Int) (nb ((b.drop at_).take i)) an))) _ _ ⟨0, rfl, rfl, Nat.zero_le _, F, KA, B5, B6, B9⟩ Ls ?_;rintro VF n' L wr ⟨i, rfl, rfl, hi, F, KA, B5, B6, B9⟩ Vz;refine aU ?_;refine ak rfl (fun VA => ?_) (fun VA => ?_)
  ·refine aU ?_;obtain ⟨b0, o0, rfl, _, _⟩ := KA.out.get (k := at_ + i) Om;have VG := UInt8.toNat_lt (b.getD (at_ + i) 0);have hlt := Nat.lt_of_lt_of_le (kC (b.drop at_) i) (Nat.pow_le_pow_right (n := 256) Om (show i ≤ 7 by omega));have hst := fz (xs := b.drop at_) (k := i) Om;rw [mN] at hst;refine cu [(12, [Vr])] Kr 13 rfl ?_; intro VB ex VC;obtain ⟨F,KA,B5,B6,B9⟩ := eQ ex F KA B5 B6 B9;refine gQ [(0, []), (1, [])] ?_;refine aU ?_;refine jw 2 [] rfl (fun wr (cr : aE ([]) _ wr) => cL rfl rfl (IntWalk.u64_in _ ⟨by omega, by omega⟩)) ?_;refine gQ [(3, []), (4, []), (5, []), (6, [])] ?_;refine aU ?_;refine jw 7 [] rfl (fun wr (cr : aE ([]) _ wr) => aB rfl rfl Tn.u Kr (j := at_ + i) Om Om) ?_;refine jw 8 [] rfl (fun wr (cr : aE ([]) _ wr) => af rfl Tn.u rfl ((KA.bk cr).out.uN (k := at_ + i) Om)) ?_;refine gQ [(9, [])] ?_;refine aU ?_;refine jw 10 [] rfl (fun wr (cr : aE ([]) _ wr) => aN rfl rfl (IntWalk.u64_in _ ⟨by omega, by omega⟩)) ?_;refine gQ [(11, [])] ?_;refine aU ?_;refine cJ 12 Kr ?_; refine dt rfl (aq (i := 2) rfl rfl rfl Kr B9 Nb) rfl ?_;rintro _ Vs ⟨rfl, D, cg⟩;have ex := aE.one cg;clear cg;refine ⟨ex, ?_⟩;obtain ⟨F,KA,B5,B6⟩ := dF ex F KA B5 B6;replace B9 := D; clear D;replace B9 := B9.congr (jX (n' := nb ((b.drop at_).take (i + 1))) (by rw [hst]; omega));refine cN Kr ?_;refine au 8 ?_;refine ae ?_;refine Vz _ _ ⟨i + 1, rfl, rfl, by omega, F, KA, B5, B6, B9⟩ Om Ls
  refine aU ?_;obtain rfl : i = k := by omega
  refine cu [(5, [Vq])] Kr 8 rfl ?_; intro VD ex VE;obtain ⟨F,B5,B6,B9⟩ := bU ex F B5 B6 B9;refine gQ [(0, []), (1, [5]), (2, [5]), (3, [5]), (4, [5])] ?_;refine aU ?_;refine cJ 5 Kr ?_; refine dt rfl (aP (o := 0) rfl rfl Kr B6 Nb (aO rfl)) rfl ?_;rintro _ Vt ⟨rfl, D, cg⟩;have ex := aE.one cg;clear cg;refine ⟨ex, ?_⟩;replace F := F.bk ex;replace B6 := D; clear D;replace B6 := B6.congr (cs' := cF 0 (i : Int) (nb ((b.drop at_).take i)) an) rfl;refine gQ [(6, []), (7, [])] ?_;refine aU ?_;refine cN Kr ?_;refine aU ?_;refine hret rfl rfl rfl B6 rfl ?_;have e : dy i b at_ = (nb ((b.drop at_).take i), at_ + i, 0) := by unfold dy; rw [if_neg Om]
  rw [e];exact ⟨rfl, (F.drop Om).drop Om |>.aS (by simp)⟩
 refine au 17 ?_;refine bg rfl rfl ?_;refine aU ?_;refine ak rfl (fun Vy => ?_) (fun Vy => ?_)
 ·refine aU ?_;intro Vv D cg;have ex := aE.one cg;clear cg;replace F := F.bk ex;replace B6 := D; clear D;replace B6 := B6.congr (cs' := cF 0 (k : Int) 0 an) rfl;refine aU ?_;refine hret rfl rfl rfl B6 rfl ?_;have e : dy k b at_ = (0, at_, 4) := by unfold dy; rw [if_pos Om]
  rw [e];exact ⟨rfl, (F.drop Om).drop Om |>.aS (by simp)⟩
 refine aU ?_;refine aD (fun n' L wr => ∃ (i : Nat), L = [(0, .slice A n c), (1, .int .i64 (at_ : Int)), (5, .pointer (some ⟨Vw, 0, none⟩)), (6, .pointer (some ⟨Vq, 0, none⟩)), (9, .pointer (some ⟨Vr, 0, none⟩)), (10, .int .i64 (i : Int))] ∧ n' = k - i ∧ (i ≤ k ∧ aE [Vr, Vq] w wr ∧ Kp w.heap.size [Vr, Vq] (fun w => Bs w A n b) wr ∧ ao wr Vw 231 (cF 0 (k : Int) 0 an) ∧ ao wr Vq 231 (cF 0 0 0 an) ∧ ao wr Vr 231 (cF 0 (k : Int) (nb ((b.drop at_).take i)) an))) _ _ ⟨0, rfl, rfl, Nat.zero_le _, F, KA, B5, B6, B9⟩ Ls ?_;rintro VF n' L wr ⟨i, rfl, rfl, hi, F, KA, B5, B6, B9⟩ Vz;refine aU ?_;refine ak rfl (fun VA => ?_) (fun VA => ?_)
 ·refine aU ?_;obtain ⟨b0, o0, rfl, _, _⟩ := KA.out.get (k := at_ + i) Om;have VG := UInt8.toNat_lt (b.getD (at_ + i) 0);have hlt := Nat.lt_of_lt_of_le (kC (b.drop at_) i) (Nat.pow_le_pow_right (n := 256) Om (show i ≤ 7 by omega));have hst := fz (xs := b.drop at_) (k := i) Om;rw [mN] at hst;refine cu [(12, [Vr])] Kr 13 rfl ?_; intro VB ex VC;obtain ⟨F,KA,B5,B6,B9⟩ := eQ ex F KA B5 B6 B9;refine gQ [(0, []), (1, [])] ?_;refine aU ?_;refine jw 2 [] rfl (fun wr (cr : aE ([]) _ wr) => cL rfl rfl (IntWalk.u64_in _ ⟨by omega, by omega⟩)) ?_;refine gQ [(3, []), (4, []), (5, []), (6, [])] ?_;refine aU ?_;refine jw 7 [] rfl (fun wr (cr : aE ([]) _ wr) => aB rfl rfl Tn.u Kr (j := at_ + i) Om Om) ?_;refine jw 8 [] rfl (fun wr (cr : aE ([]) _ wr) => af rfl Tn.u rfl ((KA.bk cr).out.uN (k := at_ + i) Om)) ?_;refine gQ [(9, [])] ?_;refine aU ?_;refine jw 10 [] rfl (fun wr (cr : aE ([]) _ wr) => aN rfl rfl (IntWalk.u64_in _ ⟨by omega, by omega⟩)) ?_;refine gQ [(11, [])] ?_;refine aU ?_;refine cJ 12 Kr ?_; refine dt rfl (aq (i := 2) rfl rfl rfl Kr B9 Nb) rfl ?_;rintro _ Vs ⟨rfl, D, cg⟩;have ex := aE.one cg;clear cg;refine ⟨ex, ?_⟩;obtain ⟨F,KA,B5,B6⟩ := dF ex F KA B5 B6;replace B9 := D; clear D;replace B9 := B9.congr (jX (n' := nb ((b.drop at_).take (i + 1))) (by rw [hst]; omega));refine cN Kr ?_;refine au 8 ?_;refine ae ?_;refine Vz _ _ ⟨i + 1, rfl, rfl, by omega, F, KA, B5, B6, B9⟩ Om Ls
 refine aU ?_;obtain rfl : i = k := by omega
 refine cu [(5, [Vq])] Kr 8 rfl ?_; intro VD ex VE;obtain ⟨F,B5,B6,B9⟩ := bU ex F B5 B6 B9;refine gQ [(0, []), (1, [5]), (2, [5]), (3, [5]), (4, [5])] ?_;refine aU ?_;refine cJ 5 Kr ?_; refine dt rfl (aP (o := 0) rfl rfl Kr B6 Nb (aO rfl)) rfl ?_;rintro _ Vt ⟨rfl, D, cg⟩;have ex := aE.one cg;clear cg;refine ⟨ex, ?_⟩;replace F := F.bk ex;replace B6 := D; clear D;replace B6 := B6.congr (cs' := cF 0 (i : Int) (nb ((b.drop at_).take i)) an) rfl;refine gQ [(6, []), (7, [])] ?_;refine aU ?_;refine cN Kr ?_;refine aU ?_;refine hret rfl rfl rfl B6 rfl ?_;have e : dy i b at_ = (nb ((b.drop at_).take i), at_ + i, 0) := by unfold dy; rw [if_neg Om]
 rw [e];exact ⟨rfl, (F.drop Om).drop Om |>.aS (by simp)⟩
def de (b : Lb) (at_ : Nat) : Nat × Nat × Nat := if b.length ≤ at_ then (0, at_, 4) else if 1 < (b.getD at_ 0).toNat then (0, at_, 3) else ((b.getD at_ 0).toNat, at_ + 1, 0)
theorem Cd (w : World) (HA : Bs w A n b) (hn : n ≤ 1000000) (hat : at_ ≤ n) :
  Ct 186 #[.slice A n c, .int .i64 (at_ : Int), .agg (cF 3 0 0 an)] w fun e w' => e = .returned (.tuple #[.agg (cF 3 0 (de b at_).1 an), .int .i64 (((de b at_).2.1 : Nat) : Int), .int .i64 (((de b at_).2.2 : Nat) : Int)]) ∧ Ext w w' := by
 have F := aE.refl [] w;have KA : Kp w.heap.size [] (fun w => Bs w A n b) w := Kp.bs HA (by simp);have hbl := HA.1;refine lZ (s := 5) 186 func186 rfl rfl rfl underlying231 rfl Kr rfl ?_;intro _ hret;refine aU ?_;intro _ _ B5 _ ex;have Vx := B5.lt;obtain ⟨F,KA⟩ := aZ ex F KA;refine aU ?_;intro _ Vv B6 Vr ex;have Vy := ex.size;replace F := F.grow ex Vr;replace KA := KA.grow ex Vr;replace B5 := B5.grow ex Vr;refine au 10 ?_;refine al (ar rfl (cells := cF 3 0 0 an) Kr) ?_;refine aU ?_;intro _ Vw B9 Vq ex;have Vu : Vv < Vw := Nat.lt_of_lt_of_le B6.lt Vq;replace F := F.grow ex Vq;replace KA := KA.grow ex Vq;replace B5 := B5.grow ex Vq;replace B6 := B6.grow ex Vq;refine aU ?_;intro _ D cg;have ex := aE.one cg;clear cg;obtain ⟨F,KA,B5,B6⟩ := dF ex F KA B5 B6;replace B9 := D; clear D;replace B9 := B9.congr (cs' := cF 3 0 0 an) rfl;refine aU ?_;refine ak rfl (fun Vs => ?_) (fun Vs => ?_)
 ·refine aU ?_;intro _ D cg;have ex := aE.one cg;clear cg;replace F := F.bk ex;replace B6 := D; clear D;replace B6 := B6.congr (cs' := cF 3 0 0 an) rfl;refine aU ?_;refine hret rfl rfl rfl B6 rfl ?_;have e : de b at_ = (0, at_, 4) := by unfold de; rw [if_pos Om]
  rw [e];exact ⟨rfl, (F.drop Om).drop Om |>.aS (by simp)⟩
 have hlt : at_ < n := by omega
 obtain ⟨b0, o0, rfl, _, _⟩ := KA.out.get hlt;have Vz := UInt8.toNat_lt (b.getD at_ 0);refine au 7 ?_;refine al (aB rfl rfl Tn.u Kr (j := at_) rfl Om) ?_;refine al (af rfl Tn.u rfl (KA.out.uN hlt)) ?_;refine aU ?_;refine ak rfl (fun Vt => ?_) (fun Vt => ?_)
 ·refine aU ?_;intro _ D cg;have ex := aE.one cg;clear cg;replace F := F.bk ex;replace B6 := D; clear D;replace B6 := B6.congr (cs' := cF 3 0 0 an) rfl;refine aU ?_;refine hret rfl rfl rfl B6 rfl ?_;have e : de b at_ = (0, at_, 3) := by unfold de; rw [if_neg Om, if_pos Om]
  rw [e];exact ⟨rfl, (F.drop Om).drop Om |>.aS (by simp)⟩
 refine au 6 ?_;refine al (aB rfl rfl Tn.u Kr (j := at_) rfl Om) ?_;refine al (af rfl Tn.u rfl (KA.out.uN hlt)) ?_;refine aU ?_;intro _ D cg;have ex := aE.one cg;clear cg;obtain ⟨F,B6⟩ := iz ex F B6;replace B9 := D; clear D;replace B9 := B9.congr (jX (n' := (b.getD at_ 0).toNat) rfl);refine aU ?_;intro _ D cg;have ex := aE.one cg;clear cg;replace F := F.bk ex;replace B6 := D; clear D;replace B6 := B6.congr (cs' := cF 3 0 (b.getD at_ 0).toNat an) rfl;refine aU ?_;refine hret rfl rfl rfl B6 rfl ?_;have e : de b at_ = ((b.getD at_ 0).toNat, at_ + 1, 0) := by unfold de; rw [if_neg Om, if_neg Om]
 rw [e];exact ⟨rfl, (F.drop Om).drop Om |>.aS (by simp)⟩
theorem LH {s : St} (h : (dh s).2 = .error c) : (dh s).1 = [] := by
  cases s with
  | error c => rfl
  | ok xs =>
    rw [wU] at h ⊢
    cases hp : jF xs with
    | error c => rfl
    | ok p => rw [hp] at h; cases h
theorem Cb (b : Lb) (at_ : Nat) : (eR b at_).2.2 < 256 := by
 cases hp : jF (b.drop at_) with
 | error z => rw [mQ hp]; exact (zw hp).2
 | ok p => rw [tu (v := p.1) (r := p.2) hp]; exact (by omega : 0 < 256)
theorem G0 (hat : at_ ≤ b.length) : (eB k (.ok (b.drop at_))).1 = (dy k b at_).1 ∧ ((dy k b at_).2.2 = 0 → (eB k (.ok (b.drop at_))).2 = .ok (b.drop (dy k b at_).2.1) ∧ (dy k b at_).2.1 ≤ b.length) ∧ ((dy k b at_).2.2 ≠ 0 → eB k (.ok (b.drop at_)) = (0, .error (dy k b at_).2.2) ∧ (dy k b at_).2.2 < 256) := by
 unfold dy;rw [kQ];by_cases h : (b.drop at_).length < k
 ·rw [if_pos h, if_pos h];exact ⟨rfl, fun h => absurd h (show ¬ (4 : Nat) = 0 by decide), fun _ => ⟨rfl, show 4 < 256 by omega⟩⟩
 rw [if_neg h, if_neg h];rw [List.length_drop] at h;exact ⟨rfl, fun _ => ⟨by rw [List.drop_drop], by show at_ + k ≤ b.length; omega⟩, fun h => absurd rfl h⟩
theorem FO (hat : at_ ≤ b.length) : ((de b at_).2.2 = 0 → gZ (.ok (b.drop at_)) = (decide ((de b at_).1 = 1), .ok (b.drop (de b at_).2.1)) ∧ (de b at_).2.1 ≤ b.length) ∧ ((de b at_).2.2 ≠ 0 → gZ (.ok (b.drop at_)) = (false, .error (de b at_).2.2) ∧ (de b at_).2.2 < 256) := by
 unfold de;by_cases h : b.length ≤ at_
 ·rw [if_pos h];refine ⟨fun h => absurd h (show ¬ (4 : Nat) = 0 by decide), fun _ => ⟨?_, show 4 < 256 by omega⟩⟩;unfold gZ;rw [EA h]
 rw [if_neg h]
 have e : gZ (.ok (b.drop at_)) = if 1 < (b.getD at_ 0).toNat then (false, .error 3) else (decide ((b.getD at_ 0).toNat = 1), .ok (b.drop (at_ + 1))) := by unfold gZ;rw [Il Om]
 by_cases h1 : 1 < (b.getD at_ 0).toNat
 ·rw [if_pos h1] at e ⊢;exact ⟨fun h => absurd h (show ¬ (3 : Nat) = 0 by decide), fun _ => ⟨e, show 3 < 256 by omega⟩⟩
 rw [if_neg h1] at e ⊢;exact ⟨fun _ => ⟨e, by show at_ + 1 ≤ b.length; omega⟩, fun h => absurd rfl h⟩
def bO (A : Oa) (n c at_ e : Nat) : Array Value := #[.slice A n c, .int .i64 (at_ : Int), .int .i64 (e : Int)]
def zD (A0 : Oa) (n0 : Nat) (b0 : Lb) (cs : Array Value) (s : St) : Prop :=
 ∃ A n c at_ e b, cs = bO A n c at_ e ∧ n ≤ c ∧ n ≤ 1000000 ∧ Sub A0 n0 b0 A n b ∧ b.length = n ∧ ((e = 0 ∧ s = .ok (b.drop at_) ∧ at_ ≤ n) ∨ (e ≠ 0 ∧ e < 256 ∧ s = .error e))
theorem Bo {e' : Nat} (hq : q = (e' : Int)) : (bO A n c at_ e).setIfInBounds 2 (.int .i64 q) = bO A n c at_ e' := by subst hq; rfl
variable {s : St}
theorem zD.whole (hc : n0 ≤ c0) (hn : n0 ≤ 1000000) (hl : b0.length = n0) : zD A0 n0 b0 (bO A0 n0 c0 0 0) (.ok b0) := ⟨A0, n0, c0, 0, 0, b0, rfl, hc, hn, fun _ h => h, hl, .inl ⟨rfl, by simp, Nat.zero_le _⟩⟩
theorem qm (k : Nat) (z : Int) (hz : z = (k : Int)) (w : World) (HA : Bs w A0 n0 b0) (H : zD A0 n0 b0 cs s) (hk : k = 1 ∨ k = 2 ∨ k = 4 ∨ k = 8) :
  Ct 118 #[.agg cs, .int .i64 z] w fun r w' => ∃ cs', r = .returned (.tuple #[.int .u64 (((eB k s).1 : Nat) : Int), .agg cs']) ∧ zD A0 n0 b0 cs' (eB k s).2 ∧ Ext w w' := by
 subst hz;have F := aE.refl [] w;have KA : Kp w.heap.size [] (fun w => Bs w A0 n0 b0) w := Kp.bs HA (by simp);obtain ⟨A, n, c, at_, e, b, rfl, hc, hn, hS, hl, hs⟩ := H;refine nv (s := 3) 38 func118 rfl rfl rfl underlying167 rfl Kr rfl ?_;intro _ hret;refine aU ?_;intro _ _ B2 _ ex;have Vx := B2.lt;obtain ⟨F,KA⟩ := aZ ex F KA;refine aU ?_;intro _ Vs B5 Vr ex;replace F := F.grow ex Vr;replace KA := KA.grow ex Vr;replace B2 := B2.grow ex Vr;refine aU ?_;refine ak rfl (fun Vu => ?_) (fun Vu => ?_)
 ·refine aU ?_;refine cu [(2, [Vs])] Kr 3 rfl ?_; intro Vy ex Vz;obtain ⟨F,B2,B5⟩ := bF ex F B2 B5;refine gQ [(0, []), (1, [])] ?_;refine aU ?_;refine cJ 2 Kr ?_; refine dt rfl (aP (o := 0) rfl rfl Kr B5 Nb (aO rfl)) rfl ?_;rintro _ _ ⟨rfl, D, cg⟩;have ex := aE.one cg;clear cg;refine ⟨ex, ?_⟩;replace F := F.bk ex;replace B5 := D; clear D;replace B5 := B5.congr (cs' := bO A n c at_ e) rfl;refine cN Kr ?_;refine aU ?_;refine hret rfl rfl B5 rfl ?_;obtain ⟨h, _⟩ | ⟨h0, h8, rfl⟩ := hs
  ·exact absurd h Om
  exact ⟨_, rfl, ⟨A, n, c, at_, e, b, rfl, hc, hn, hS, hl, .inr ⟨h0, h8, rfl⟩⟩, F.drop Om |>.aS (by simp)⟩
 obtain ⟨h0, rfl, hat⟩ : e = 0 ∧ s = .ok (b.drop at_) ∧ at_ ≤ n := by
  rcases hs with h | h
  ·exact h
  exact absurd h.1 Om
 subst h0;obtain ⟨q1, q2, q3⟩ := G0 (k := k) (b := b) (at_ := at_) Om;refine au 9 ?_;refine al (ar rfl (cells := cF 0 (k : Int) 0 an) Kr) ?_;refine aC func186 rfl (Az k _ rfl _ (hS _ KA.out) hn hat hk) ?_;rintro e _ ⟨rfl, ex⟩;obtain ⟨F,B2,B5⟩ := bF ex F B2 B5;refine aU ?_;intro _ Vv B6 Vq ex;have Vt : Vs < Vv := Nat.lt_of_lt_of_le B5.lt Vq;replace F := F.grow ex Vq;replace B2 := B2.grow ex Vq;replace B5 := B5.grow ex Vq;refine aU ?_;intro _ D cg;have ex := aE.one cg;clear cg;obtain ⟨F,B2,B5⟩ := sh ex F B2 B5;replace B6 := D; clear D;replace B6 := B6.congr (cs' := cF 0 (k : Int) (dy k b at_).1 an) rfl;refine aU ?_;refine ak rfl (fun Vw => ?_) (fun Vw => ?_)
 ·refine aU ?_;refine cu [(7, [Vs])] Kr 8 rfl ?_; intro VA ex VB;obtain ⟨F,B2,B5⟩ := bF ex F B2 B5;refine gQ [(0, []), (1, []), (2, []), (3, []), (4, [])] ?_;refine aU ?_;refine jw 5 [] rfl (fun wr (cr : aE ([]) _ wr) => ar rfl (cells := bO A n c at_ (dy k b at_).2.2) Kr) ?_;refine gQ [(6, [])] ?_;refine aU ?_;refine cJ 7 Kr ?_; refine dt rfl (aP (o := 0) rfl rfl Kr B5 Nb (aO rfl)) rfl ?_;rintro _ _ ⟨rfl, D, cg⟩;have ex := aE.one cg;clear cg;refine ⟨ex, ?_⟩;replace F := F.bk ex;replace B5 := D; clear D;replace B5 := B5.congr (cs' := bO A n c at_ (dy k b at_).2.2) rfl;refine cN Kr ?_;refine aU ?_;refine hret rfl rfl B5 rfl ?_;obtain ⟨e1, h8⟩ := q3 Om;rw [e1];exact ⟨_, rfl, ⟨A, n, c, at_, _, b, rfl, hc, hn, hS, hl, .inr ⟨by omega, h8, rfl⟩⟩, (F.drop Om).drop Om |>.aS (by simp)⟩
 refine aU ?_;refine cu [(7, [Vs])] Kr 8 rfl ?_; intro VC ex VD;obtain ⟨F,B2,B5,B6⟩ := bU ex F B2 B5 B6;refine gQ [(0, []), (1, []), (2, []), (3, []), (4, [])] ?_;refine aU ?_;refine jw 5 [] rfl (fun wr (cr : aE ([]) _ wr) => ar rfl (cells := bO A n c (dy k b at_).2.1 0) Kr) ?_;refine gQ [(6, [])] ?_;refine aU ?_;refine cJ 7 Kr ?_; refine dt rfl (aP (o := 0) rfl rfl Kr B5 Nb (aO rfl)) rfl ?_;rintro _ _ ⟨rfl, D, cg⟩;have ex := aE.one cg;clear cg;refine ⟨ex, ?_⟩;replace F := F.bk ex;replace B5 := D; clear D;replace B5 := B5.congr (cs' := bO A n c (dy k b at_).2.1 0) rfl;refine cN Kr ?_;refine aU ?_;refine hret rfl rfl B5 rfl ?_;obtain ⟨e1, hle⟩ := q2 Om;rw [q1, e1];exact ⟨_, rfl, ⟨A, n, c, _, 0, b, rfl, hc, hn, hS, hl, .inl ⟨rfl, rfl, by omega⟩⟩, (F.drop Om).drop Om |>.aS (by simp)⟩
theorem kE (k m : Nat) (z u : Int) (hz : z = (k : Int)) (hu : u = (m : Int)) (w : World) (HA : Bs w A0 n0 b0) (H : zD A0 n0 b0 cs s) (hk : k = 1 ∨ k = 2 ∨ k = 4 ∨ k = 8) :
  Ct 117 #[.agg cs, .int .i64 z, .int .u64 u] w fun r w' => ∃ cs', r = .returned (.agg cs') ∧ zD A0 n0 b0 cs' (dq k m s) ∧ Ext w w' := by
 have F := aE.refl [] w;have KA : Kp w.heap.size [] (fun w => Bs w A0 n0 b0) w := Kp.bs HA (by simp);have H0 := H;obtain ⟨A, n, c, at_, e, b, rfl, _⟩ := H;refine aK (s := 3) 25 func117 rfl rfl rfl underlying167 rfl Kr rfl ?_;intro _ hret;refine aU ?_;intro _ _ B3 _ ex;have Vy := B3.lt;obtain ⟨F,KA⟩ := aZ ex F KA;refine aU ?_;intro _ Vv B6 Vs ex;replace F := F.grow ex Vs;replace KA := KA.grow ex Vs;replace B3 := B3.grow ex Vs;refine aU ?_;refine aC func118 rfl (qm k z hz _ KA.out H0 hk) ?_;rintro e _ ⟨_, rfl, P1, ex⟩;obtain ⟨F,B6⟩ := aZ ex F B6;obtain ⟨A', n', c', Vq, e', b', rfl, hc, hn, hS, hl, hs⟩ := P1;refine aU ?_;intro _ Vw B8 Vt ex;have Vu : Vv < Vw := Nat.lt_of_lt_of_le B6.lt Vt;replace F := F.grow ex Vt;replace B6 := B6.grow ex Vt;refine aU ?_;intro _ D cg;have ex := aE.one cg;clear cg;obtain ⟨F,B6⟩ := iz ex F B6;replace B8 := D; clear D;replace B8 := B8.congr (cs' := bO A' n' c' Vq e') rfl;refine au 7 ?_;refine bf (cO rfl rfl) rfl (fun he => ?_) (fun he => ?_)
 ·refine aU ?_;refine ak rfl (fun Vx => ?_) (fun Vx => ?_)
  ·obtain ⟨_, hs, hat⟩ : e' = 0 ∧ (eB k s).2 = .ok (b'.drop Vq) ∧ Vq ≤ n' := by
    rcases hs with h | h
    ·exact h
    exact absurd h.1 Om
   refine aU ?_;intro _ D cg;have ex := aE.one cg;clear cg;obtain ⟨F,B6⟩ := iz ex F B6;replace B8 := D; clear D;replace B8 := B8.congr (Bo (e' := 3) rfl);refine aU ?_;intro Vr D cg;have ex := aE.one cg;clear cg;replace F := F.bk ex;replace B6 := D; clear D;replace B6 := B6.congr (cs' := bO A' n' c' Vq 3) rfl;refine aU ?_;refine hret rfl B6 rfl ?_;rw [CM Om, hs];exact ⟨_, rfl, ⟨A', n', c', Vq, 3, b', rfl, hc, hn, hS, hl, .inr ⟨by omega, by omega, rfl⟩⟩, (F.drop Om).drop Om |>.aS (by simp)⟩
  obtain ⟨_, hs, hat⟩ : e' = 0 ∧ (eB k s).2 = .ok (b'.drop Vq) ∧ Vq ≤ n' := by
   rcases hs with h | h
   ·exact h
   exact absurd h.1 Om
  refine aU ?_;intro Vr D cg;have ex := aE.one cg;clear cg;replace F := F.bk ex;replace B6 := D; clear D;replace B6 := B6.congr (cs' := bO A' n' c' Vq e') rfl;refine aU ?_;refine hret rfl B6 rfl ?_;rw [DT Om, hs];exact ⟨_, rfl, ⟨A', n', c', Vq, e', b', rfl, hc, hn, hS, hl, .inl ⟨by omega, rfl, hat⟩⟩, (F.drop Om).drop Om |>.aS (by simp)⟩
 refine au 7 ?_;refine bg rfl rfl ?_;refine aU ?_;intro Vr D cg;have ex := aE.one cg;clear cg;replace F := F.bk ex;replace B6 := D; clear D;replace B6 := B6.congr (cs' := bO A' n' c' Vq e') rfl;refine aU ?_;refine hret rfl B6 rfl ?_;obtain ⟨h, _⟩ | ⟨h0, h8, hs⟩ := hs
 ·exact absurd h Om
 have ej : dq k m s = .error e' := by unfold dq; rw [hs]
 rw [ej];exact ⟨_, rfl, ⟨A', n', c', Vq, e', b', rfl, hc, hn, hS, hl, .inr ⟨h0, h8, rfl⟩⟩, (F.drop Om).drop Om |>.aS (by simp)⟩
theorem gT (w : World) (HA : Bs w A0 n0 b0) (H : zD A0 n0 b0 cs s) :
  Ct 113 #[.agg cs] w fun r w' => ∃ (h : Hd) (cs' : Array Value), r = .returned (.tuple #[.slice h.A h.n h.c, .agg cs']) ∧ Sub A0 n0 b0 h.A h.n (dh s).1 ∧ (dh s).1.length = h.n ∧ h.n ≤ h.c ∧ h.n ≤ 1000000 ∧ zD A0 n0 b0 cs' (dh s).2 ∧ Ext w w' := by
 have F := aE.refl [] w;have KA : Kp w.heap.size [] (fun w => Bs w A0 n0 b0) w := Kp.bs HA (by simp);obtain ⟨A, n, c, at_, e, b, rfl, hc, hn, hS, hl, hs⟩ := H;refine nv (s := 3) 35 func113 rfl rfl rfl underlying167 rfl Kr rfl ?_;intro _ hret;refine aU ?_;intro _ _ B1 _ ex;have Vx := B1.lt;obtain ⟨F,KA⟩ := aZ ex F KA;refine aU ?_;intro _ Vs B3 Vr ex;replace F := F.grow ex Vr;replace KA := KA.grow ex Vr;replace B1 := B1.grow ex Vr;refine aU ?_;refine ak rfl (fun Vu => ?_) (fun Vu => ?_)
 ·refine aU ?_;refine cu [(2, [Vs])] Kr 3 rfl ?_; intro Vy ex Vz;obtain ⟨F,B1,B3⟩ := bF ex F B1 B3;refine gQ [(0, []), (1, [])] ?_;refine aU ?_;refine cJ 2 Kr ?_; refine dt rfl (aP (o := 0) rfl rfl Kr B3 Nb (aO rfl)) rfl ?_;rintro _ _ ⟨rfl, D, cg⟩;have ex := aE.one cg;clear cg;refine ⟨ex, ?_⟩;replace F := F.bk ex;replace B3 := D; clear D;replace B3 := B3.congr (cs' := bO A n c at_ e) rfl;refine cN Kr ?_;refine aU ?_;refine hret rfl rfl B3 rfl ?_;obtain ⟨h, _⟩ | ⟨h0, h8, rfl⟩ := hs
  ·exact absurd h Om
  exact ⟨an, _, rfl, Sub.nil _ _ _, rfl, Nat.le_refl _, Nat.zero_le _, ⟨A, n, c, at_, e, b, rfl, hc, hn, hS, hl, .inr ⟨h0, h8, rfl⟩⟩, F.drop Om |>.aS (by simp)⟩
 obtain ⟨h0, rfl, hat⟩ : e = 0 ∧ s = .ok (b.drop at_) ∧ at_ ≤ n := by
  rcases hs with h | h
  ·exact h
  exact absurd h.1 Om
 subst h0;obtain ⟨q1, q2, q3⟩ := IM (b := b) (at_ := at_) Om;have hvl := (Dh (.ok (b.drop at_))).1;have O9 : ru (.ok (b.drop at_)) = n - at_ := by show (b.drop at_).length = _; rw [List.length_drop, hl]
 refine au 8 ?_;refine al (ar rfl (cells := cF 1 0 0 an) Kr) ?_;refine aC func186 rfl (CD _ (hS _ KA.out) hc hn hat) ?_;rintro e _ ⟨h, rfl, hsub, hcap, ex⟩;obtain ⟨F,KA,B1,B3⟩ := bU ex F KA B1 B3;have hhl : (eR b at_).1.length = h.n := (hsub _ (hS _ KA.out)).1;refine aU ?_;intro _ Vv B4 Vq ex;have Vt : Vs < Vv := Nat.lt_of_lt_of_le B3.lt Vq;replace F := F.grow ex Vq;replace B1 := B1.grow ex Vq;replace B3 := B3.grow ex Vq;refine aU ?_;intro _ D cg;have ex := aE.one cg;clear cg;obtain ⟨F,B1,B3⟩ := sh ex F B1 B3;replace B4 := D; clear D;replace B4 := B4.congr (cs' := cF 1 0 0 h) rfl;refine aU ?_;refine ak rfl (fun Vw => ?_) (fun Vw => ?_)
 ·refine aU ?_;refine cu [(7, [Vs])] Kr 8 rfl ?_; intro VA ex VB;obtain ⟨F,B1,B3⟩ := bF ex F B1 B3;refine gQ [(0, []), (1, []), (2, []), (3, []), (4, [])] ?_;refine aU ?_;refine jw 5 [] rfl (fun wr (cr : aE ([]) _ wr) => ar rfl (cells := bO A n c at_ (eR b at_).2.2) Kr) ?_;refine gQ [(6, [])] ?_;refine aU ?_;refine cJ 7 Kr ?_; refine dt rfl (aP (o := 0) rfl rfl Kr B3 Nb (aO rfl)) rfl ?_;rintro _ _ ⟨rfl, D, cg⟩;have ex := aE.one cg;clear cg;refine ⟨ex, ?_⟩;replace F := F.bk ex;replace B3 := D; clear D;replace B3 := B3.congr (cs' := bO A n c at_ (eR b at_).2.2) rfl;refine cN Kr ?_;refine aU ?_;refine hret rfl rfl B3 rfl ?_;have e1 := q3 Om;have e2 : (dh (.ok (b.drop at_))).1 = [] := LH e1;have h8 := Cb b at_;rw [e1, e2];exact ⟨an, _, rfl, Sub.nil _ _ _, rfl, Nat.le_refl _, Nat.zero_le _, ⟨A, n, c, at_, _, b, rfl, hc, hn, hS, hl, .inr ⟨by omega, h8, rfl⟩⟩, (F.drop Om).drop Om |>.aS (by simp)⟩
 refine aU ?_;refine cu [(7, [Vs])] Kr 8 rfl ?_; intro VC ex VD;obtain ⟨F,B1,B3,B4⟩ := bU ex F B1 B3 B4;refine gQ [(0, []), (1, []), (2, []), (3, []), (4, [])] ?_;refine aU ?_;refine jw 5 [] rfl (fun wr (cr : aE ([]) _ wr) => ar rfl (cells := bO A n c (eR b at_).2.1 0) Kr) ?_;refine gQ [(6, [])] ?_;refine aU ?_;refine cJ 7 Kr ?_; refine dt rfl (aP (o := 0) rfl rfl Kr B3 Nb (aO rfl)) rfl ?_;rintro _ _ ⟨rfl, D, cg⟩;have ex := aE.one cg;clear cg;refine ⟨ex, ?_⟩;replace F := F.bk ex;replace B3 := D; clear D;replace B3 := B3.congr (cs' := bO A n c (eR b at_).2.1 0) rfl;refine cN Kr ?_;refine aU ?_;refine hret rfl rfl B3 rfl ?_;obtain ⟨e1, hle⟩ := q2 Om;rw [e1, q1];exact ⟨h, _, rfl, fun w hw => hsub w (hS w hw), hhl, hcap, by rw [q1] at hvl; omega, ⟨A, n, c, _, 0, b, rfl, hc, hn, hS, hl, .inl ⟨rfl, rfl, by omega⟩⟩, (F.drop Om).drop Om |>.aS (by simp)⟩
theorem CB (w : World) (HA : Bs w A0 n0 b0) (H : zD A0 n0 b0 cs s) :
  Ct 114 #[.agg cs] w fun r w' => ∃ cs', r = .returned (.tuple #[.bool (gZ s).1, .agg cs']) ∧ zD A0 n0 b0 cs' (gZ s).2 ∧ Ext w w' := by
 have F := aE.refl [] w;have KA : Kp w.heap.size [] (fun w => Bs w A0 n0 b0) w := Kp.bs HA (by simp);obtain ⟨A, n, c, at_, e, b, rfl, hc, hn, hS, hl, hs⟩ := H;refine nv (s := 3) 36 func114 rfl rfl rfl underlying167 rfl Kr rfl ?_;intro _ hret;refine aU ?_;intro _ _ B1 _ ex;have Vx := B1.lt;obtain ⟨F,KA⟩ := aZ ex F KA;refine aU ?_;intro _ Vs B3 Vr ex;replace F := F.grow ex Vr;replace KA := KA.grow ex Vr;replace B1 := B1.grow ex Vr;refine aU ?_;refine ak rfl (fun Vu => ?_) (fun Vu => ?_)
 ·refine aU ?_;refine cu [(2, [Vs])] Kr 3 rfl ?_; intro Vy ex Vz;obtain ⟨F,B1,B3⟩ := bF ex F B1 B3;refine gQ [(0, []), (1, [])] ?_;refine aU ?_;refine cJ 2 Kr ?_; refine dt rfl (aP (o := 0) rfl rfl Kr B3 Nb (aO rfl)) rfl ?_;rintro _ _ ⟨rfl, D, cg⟩;have ex := aE.one cg;clear cg;refine ⟨ex, ?_⟩;replace F := F.bk ex;replace B3 := D; clear D;replace B3 := B3.congr (cs' := bO A n c at_ e) rfl;refine cN Kr ?_;refine aU ?_;refine hret rfl rfl B3 rfl ?_;obtain ⟨h, _⟩ | ⟨h0, h8, rfl⟩ := hs
  ·exact absurd h Om
  exact ⟨_, rfl, ⟨A, n, c, at_, e, b, rfl, hc, hn, hS, hl, .inr ⟨h0, h8, rfl⟩⟩, F.drop Om |>.aS (by simp)⟩
 obtain ⟨h0, rfl, hat⟩ : e = 0 ∧ s = .ok (b.drop at_) ∧ at_ ≤ n := by
  rcases hs with h | h
  ·exact h
  exact absurd h.1 Om
 subst h0;obtain ⟨q2, q3⟩ := FO (b := b) (at_ := at_) Om;refine au 8 ?_;refine al (ar rfl (cells := cF 3 0 0 an) Kr) ?_;refine aC func186 rfl (Cd _ (hS _ KA.out) hn hat) ?_;rintro e _ ⟨rfl, ex⟩;obtain ⟨F,B1,B3⟩ := bF ex F B1 B3;refine aU ?_;intro _ Vv B4 Vq ex;have Vt : Vs < Vv := Nat.lt_of_lt_of_le B3.lt Vq;replace F := F.grow ex Vq;replace B1 := B1.grow ex Vq;replace B3 := B3.grow ex Vq;refine aU ?_;intro _ D cg;have ex := aE.one cg;clear cg;obtain ⟨F,B1,B3⟩ := sh ex F B1 B3;replace B4 := D; clear D;replace B4 := B4.congr (cs' := cF 3 0 (de b at_).1 an) rfl;refine aU ?_;refine ak rfl (fun Vw => ?_) (fun Vw => ?_)
 ·refine aU ?_;refine cu [(7, [Vs])] Kr 8 rfl ?_; intro VA ex VB;obtain ⟨F,B1,B3⟩ := bF ex F B1 B3;refine gQ [(0, []), (1, []), (2, []), (3, []), (4, [])] ?_;refine aU ?_;refine jw 5 [] rfl (fun wr (cr : aE ([]) _ wr) => ar rfl (cells := bO A n c at_ (de b at_).2.2) Kr) ?_;refine gQ [(6, [])] ?_;refine aU ?_;refine cJ 7 Kr ?_; refine dt rfl (aP (o := 0) rfl rfl Kr B3 Nb (aO rfl)) rfl ?_;rintro _ _ ⟨rfl, D, cg⟩;have ex := aE.one cg;clear cg;refine ⟨ex, ?_⟩;replace F := F.bk ex;replace B3 := D; clear D;replace B3 := B3.congr (cs' := bO A n c at_ (de b at_).2.2) rfl;refine cN Kr ?_;refine aU ?_;refine hret rfl rfl B3 rfl ?_;obtain ⟨e1, h8⟩ := q3 Om;rw [e1];exact ⟨_, rfl, ⟨A, n, c, at_, _, b, rfl, hc, hn, hS, hl, .inr ⟨by omega, h8, rfl⟩⟩, (F.drop Om).drop Om |>.aS (by simp)⟩
 refine aU ?_;refine cu [(8, [Vs])] Kr 9 rfl ?_; intro VC ex VD;obtain ⟨F,B1,B3,B4⟩ := bU ex F B1 B3 B4;refine gQ [(0, []), (1, []), (2, []), (3, []), (4, []), (5, [])] ?_;refine aU ?_;refine jw 6 [] rfl (fun wr (cr : aE ([]) _ wr) => ar rfl (cells := bO A n c (de b at_).2.1 0) Kr) ?_;refine gQ [(7, [])] ?_;refine aU ?_;refine cJ 8 Kr ?_; refine dt rfl (aP (o := 0) rfl rfl Kr B3 Nb (aO rfl)) rfl ?_;rintro _ _ ⟨rfl, D, cg⟩;have ex := aE.one cg;clear cg;refine ⟨ex, ?_⟩;replace F := F.bk ex;replace B3 := D; clear D;replace B3 := B3.congr (cs' := bO A n c (de b at_).2.1 0) rfl;refine cN Kr ?_;refine aU ?_;refine hret rfl rfl B3 rfl ?_;obtain ⟨e1, hle⟩ := q2 Om;rw [e1];have eb : decide ((((de b at_).1 : Nat) : Int) = 1) = decide ((de b at_).1 = 1) := decide_eq_decide.2 Om;exact ⟨bO A n c (de b at_).2.1 0, by show _ = Ending.returned (.tuple #[.bool (decide ((de b at_).1 = 1)), .agg (bO A n c (de b at_).2.1 0)]); rw [← eb], ⟨A, n, c, _, 0, b, rfl, hc, hn, hS, hl, .inl ⟨rfl, rfl, by omega⟩⟩, (F.drop Om).drop Om |>.aS (by simp)⟩
theorem pG (w : World) (H : zD A0 n0 b0 cs s) : Ct 115 #[.agg cs] w fun r w' => r = .returned (.int .i64 ((eY s : Nat) : Int)) ∧ Ext w w' := by
 have E := Ext.refl w;obtain ⟨A, n, c, at_, e, b, rfl, hc, hn, hS, hl, hs⟩ := H;refine ai 16 func115 rfl rfl rfl rfl ?_;intro _ hret;refine aU ?_;intro _ _ _ _ ex;replace E := E.ext ex;refine au 8 ?_;refine bf (cO rfl rfl) rfl (fun he => ?_) (fun he => ?_)
 ·refine aU ?_;refine ak rfl (fun Vq => ?_) (fun Vq => ?_)
  ·obtain ⟨_, rfl, hat⟩ : e = 0 ∧ s = .ok (b.drop at_) ∧ at_ ≤ n := by
    rcases hs with h | h
    ·exact h
    exact absurd h.1 Om
   have hq := uX (b := b) (k := at_);refine aU ?_;refine hret rfl ?_;rw [hq, if_pos Om];exact ⟨rfl, E⟩
  obtain ⟨_, rfl, hat⟩ : e = 0 ∧ s = .ok (b.drop at_) ∧ at_ ≤ n := by
   rcases hs with h | h
   ·exact h
   exact absurd h.1 Om
  have hq := uX (b := b) (k := at_);refine aU ?_;refine hret rfl ?_;rw [hq, if_neg Om, show e = 0 by omega];exact ⟨rfl, E⟩
 refine au 10 ?_;refine bg rfl rfl ?_;refine aU ?_;refine hret rfl ?_;obtain ⟨h, _⟩ | ⟨h0, h8, rfl⟩ := hs
 ·exact absurd h Om
 exact ⟨rfl, E⟩
end
section
open Go.RowKit Tryz
attribute [local irreducible] Y Ef WL WC WK WQ WM cv WN WF cZ WJ gI
open Wire Nd M20
theorem zD.get {s : St} (h : zD A0 n0 b0 cs s) : ∃ A n c at_ e, cs = bO A n c at_ e ∧ zD A0 n0 b0 (bO A n c at_ e) s := by have H := h;obtain ⟨A, n, c, at_, e, b, rfl, _⟩ := h;exact ⟨A, n, c, at_, e, rfl, H⟩
def zg (A0 : Oa) (n0 : Nat) (b0 : Lb) (cs : Array Value) (x : jq) : Prop := jB (fun h xs => Sub A0 n0 b0 h.A h.n xs) cs x
theorem zg.at (h : zg A0 n0 b0 cs x) (HA : Bs w A0 n0 b0) : fX w cs x := jB.imp h fun _ _ s => s w HA
theorem zg.zero (A0 : Oa) (n0 : Nat) (b0 : Lb) : zg A0 n0 b0 mW jq.zero := ⟨_, _, _, _, _, rfl, (by decide), (by decide), Sub.nil _ _ _, Sub.nil _ _ _, Sub.nil _ _ _, Sub.nil _ _ _, Sub.nil _ _ _⟩
theorem zu (w : World) (HA : Bs w A n b) (hc : n ≤ c) (hn : n ≤ 10000) :
  Ct 49 #[.slice A n c] w fun e w' => ∃ cs, e = .returned (.tuple #[.agg cs, .int .i64 (((dj b).2 : Nat) : Int)]) ∧ zg A n b cs (dj b).1 ∧ Ext w w' := by
 have F := aE.refl [] w;have KA : Kp w.heap.size [] (fun w => Bs w A n b) w := Kp.bs HA (by simp);have hbl := HA.1;have P := zD.whole (A0 := A) (b0 := b) hc Om hbl
 obtain ⟨g, hg⟩ : ∃ g, g = dh (dq 2 1 (dq 2 1 (.ok b))) := ⟨_, rfl⟩
 obtain ⟨e, he⟩ : ∃ e, e = eB 8 g.2 := ⟨_, rfl⟩
 obtain ⟨t, ht⟩ : ∃ t, t = dh e.2 := ⟨_, rfl⟩
 obtain ⟨u, hu⟩ : ∃ u, u = dh t.2 := ⟨_, rfl⟩
 obtain ⟨q, hq⟩ : ∃ q, q = dh (dq 1 0 (dq 1 0 u.2)) := ⟨_, rfl⟩
 obtain ⟨f, hf⟩ : ∃ f, f = eB 4 q.2 := ⟨_, rfl⟩
 obtain ⟨z, hz⟩ : ∃ z, z = dh f.2 := ⟨_, rfl⟩
 have hX : lA (.ok b) = (⟨⟨g.1, e.1, t.1, u.1⟩, q.1, (f.1 : Int), z.1⟩, z.2) := by rw [hz, hf, hq, hu, ht, he, hg]; rfl
 have VJ : e.1 < 18446744073709551616 := by rw [he]; exact rJ 8 _
 have Wb : f.1 < 4294967296 := by rw [hf]; exact rJ 4 _
 have hO : dj b = db jq.zero (lA (.ok b)) (decide (gL (lA (.ok b)).1)) := rfl;rw [hX] at hO;refine du (s := 7) 80 func49 rfl rfl rfl underlying42 rfl Kr rfl ?_;intro _ hret;refine aU ?_;intro _ VA B2 Vs ex;have Wc := ex.size;replace F := F.grow ex Vs;replace KA := KA.grow ex Vs;refine aU ?_;intro _ VB B4 Vr ex;have VC : VA < VB := Nat.lt_of_lt_of_le B2.lt Vr;replace F := F.grow ex Vr;replace KA := KA.grow ex Vr;replace B2 := B2.grow ex Vr;refine au 16 ?_;refine al (ar rfl (cells := bO A n c 0 0) Kr) ?_;refine aC func117 rfl (kE 2 1 2 1 rfl rfl _ KA.out P Om) ?_;rintro e _ ⟨_, rfl, P, ex⟩;obtain ⟨F,KA,B2,B4⟩ := bU ex F KA B2 B4;obtain ⟨A4, n4, c4, t4, e4, rfl, P⟩ := P.get;refine aU ?_;intro _ VD B5 Vq ex;have VE : VA < VD := Nat.lt_of_lt_of_le B2.lt Vq;have VF : VB < VD := Nat.lt_of_lt_of_le B4.lt Vq;replace F := F.grow ex Vq;replace KA := KA.grow ex Vq;replace B2 := B2.grow ex Vq;replace B4 := B4.grow ex Vq;refine aU ?_;intro _ D cg;have ex := aE.one cg;clear cg;obtain ⟨F,KA,B2,B4⟩ := dF ex F KA B2 B4;replace B5 := D; clear D;replace B5 := B5.congr (cs' := bO A4 n4 c4 t4 e4) rfl;refine aU ?_;refine aC func117 rfl (kE 2 1 2 1 rfl rfl _ KA.out P Om) ?_;rintro e _ ⟨_, rfl, P, ex⟩;obtain ⟨F,KA,B2,B4,B5⟩ := eQ ex F KA B2 B4 B5;obtain ⟨A5, n5, c5, t5, e5, rfl, P⟩ := P.get;refine aU ?_;intro _ D cg;have ex := aE.one cg;clear cg;obtain ⟨F,KA,B2,B4⟩ := dF ex F KA B2 B4;replace B5 := D; clear D;replace B5 := B5.congr (cs' := bO A5 n5 c5 t5 e5) rfl;refine aU ?_;refine aC func113 rfl (gT _ KA.out P) ?_;rintro e _ ⟨h6, _, rfl, VG, VK, _, _, P, ex⟩;refine au 1 ?_;obtain ⟨F,KA,B2,B4,B5⟩ := eQ ex F KA B2 B4 B5;rw [← hg] at P VG VK; obtain ⟨A6, n6, c6, t6, e6, rfl, P⟩ := P.get;refine aU ?_;intro _ D cg;have ex := aE.one cg;clear cg;obtain ⟨F,KA,B2,B5⟩ := dF ex F KA B2 B5;replace B4 := D; clear D;refine aU ?_;intro _ D cg;have ex := aE.one cg;clear cg;obtain ⟨F,KA,B2,B4⟩ := dF ex F KA B2 B4;replace B5 := D; clear D;replace B5 := B5.congr (cs' := bO A6 n6 c6 t6 e6) rfl;refine aU ?_;refine aC func118 rfl (qm 8 8 rfl _ KA.out P Om) ?_;rintro e _ ⟨_, rfl, P, ex⟩;refine au 1 ?_;obtain ⟨F,KA,B2,B4,B5⟩ := eQ ex F KA B2 B4 B5;rw [← he] at P ⊢; obtain ⟨A7, n7, c7, t7, e7, rfl, P⟩ := P.get;refine aU ?_;intro _ D cg;have ex := aE.one cg;clear cg;obtain ⟨F,KA,B2,B5⟩ := dF ex F KA B2 B5;replace B4 := D; clear D;refine aU ?_;intro _ D cg;have ex := aE.one cg;clear cg;obtain ⟨F,KA,B2,B4⟩ := dF ex F KA B2 B4;replace B5 := D; clear D;replace B5 := B5.congr (cs' := bO A7 n7 c7 t7 e7) rfl;refine aU ?_;refine aC func113 rfl (gT _ KA.out P) ?_;rintro e _ ⟨h8, _, rfl, VH, VL, _, _, P, ex⟩;refine au 1 ?_;obtain ⟨F,KA,B2,B4,B5⟩ := eQ ex F KA B2 B4 B5;rw [← ht] at P VH VL; obtain ⟨A8, n8, c8, t8, e8, rfl, P⟩ := P.get;refine aU ?_;intro _ D cg;have ex := aE.one cg;clear cg;obtain ⟨F,KA,B2,B5⟩ := dF ex F KA B2 B5;replace B4 := D; clear D;refine aU ?_;intro _ D cg;have ex := aE.one cg;clear cg;obtain ⟨F,KA,B2,B4⟩ := dF ex F KA B2 B4;replace B5 := D; clear D;replace B5 := B5.congr (cs' := bO A8 n8 c8 t8 e8) rfl;refine aU ?_;refine aC func113 rfl (gT _ KA.out P) ?_;rintro e _ ⟨h9, _, rfl, VI, VM, _, _, P, ex⟩;refine au 1 ?_;obtain ⟨F,KA,B2,B4,B5⟩ := eQ ex F KA B2 B4 B5;rw [← hu] at P VI VM; obtain ⟨A9, n9, c9, t9, e9, rfl, P⟩ := P.get;refine aU ?_;intro _ D cg;have ex := aE.one cg;clear cg;obtain ⟨F,KA,B2,B5⟩ := dF ex F KA B2 B5;replace B4 := D; clear D;refine aU ?_;intro _ D cg;have ex := aE.one cg;clear cg;obtain ⟨F,KA,B2,B4⟩ := dF ex F KA B2 B4;replace B5 := D; clear D;replace B5 := B5.congr (cs' := bO A9 n9 c9 t9 e9) rfl;refine aU ?_;refine aC func117 rfl (kE 1 0 1 0 rfl rfl _ KA.out P Om) ?_;rintro e _ ⟨_, rfl, P, ex⟩;obtain ⟨F,KA,B2,B4,B5⟩ := eQ ex F KA B2 B4 B5;obtain ⟨VN, VO, c10, t10, VP, rfl, P⟩ := P.get;refine aU ?_;intro _ D cg;have ex := aE.one cg;clear cg;obtain ⟨F,KA,B2,B4⟩ := dF ex F KA B2 B4;replace B5 := D; clear D;replace B5 := B5.congr (cs' := bO VN VO c10 t10 VP) rfl;refine aU ?_;refine aC func117 rfl (kE 1 0 1 0 rfl rfl _ KA.out P Om) ?_;rintro e _ ⟨_, rfl, P, ex⟩;obtain ⟨F,KA,B2,B4,B5⟩ := eQ ex F KA B2 B4 B5;obtain ⟨VQ, VR, c11, t11, VS, rfl, P⟩ := P.get;refine aU ?_;intro _ D cg;have ex := aE.one cg;clear cg;obtain ⟨F,KA,B2,B4⟩ := dF ex F KA B2 B4;replace B5 := D; clear D;replace B5 := B5.congr (cs' := bO VQ VR c11 t11 VS) rfl;refine aU ?_;refine aC func113 rfl (gT _ KA.out P) ?_;rintro e _ ⟨Vv, _, rfl, Vt, Vw, _, _, P, ex⟩;refine au 1 ?_;obtain ⟨F,KA,B2,B4,B5⟩ := eQ ex F KA B2 B4 B5;rw [← hq] at P Vt Vw; obtain ⟨VT, VU, VV, t12, VW, rfl, P⟩ := P.get;refine aU ?_;intro _ D cg;have ex := aE.one cg;clear cg;obtain ⟨F,KA,B2,B5⟩ := dF ex F KA B2 B5;replace B4 := D; clear D;refine aU ?_;intro _ D cg;have ex := aE.one cg;clear cg;obtain ⟨F,KA,B2,B4⟩ := dF ex F KA B2 B4;replace B5 := D; clear D;replace B5 := B5.congr (cs' := bO VT VU VV t12 VW) rfl;refine aU ?_;refine aC func118 rfl (qm 4 4 rfl _ KA.out P Om) ?_;rintro e _ ⟨_, rfl, P, ex⟩;refine au 1 ?_;obtain ⟨F,KA,B2,B4,B5⟩ := eQ ex F KA B2 B4 B5;rw [← hf] at P ⊢; obtain ⟨VX, VY, VZ, t13, V0, rfl, P⟩ := P.get;refine aU ?_;intro _ D cg;have ex := aE.one cg;clear cg;obtain ⟨F,KA,B2,B4⟩ := dF ex F KA B2 B4;replace B5 := D; clear D;replace B5 := B5.congr (cs' := bO VX VY VZ t13 V0) rfl;refine aU ?_;intro _ D cg;have ex := aE.one cg;clear cg;obtain ⟨F,KA,B2,B5⟩ := dF ex F KA B2 B5;replace B4 := D; clear D;refine aU ?_;refine aC func113 rfl (gT _ KA.out P) ?_;rintro e _ ⟨Vx, _, rfl, Vu, Vy, _, _, P, ex⟩;refine au 1 ?_;obtain ⟨F,KA,B2,B4,B5⟩ := eQ ex F KA B2 B4 B5;rw [← hz] at P Vu Vy; obtain ⟨V4, V5, V6, t15, V9, rfl, P⟩ := P.get;refine aU ?_;intro _ D cg;have ex := aE.one cg;clear cg;obtain ⟨F,KA,B2,B5⟩ := dF ex F KA B2 B5;replace B4 := D; clear D;refine aU ?_;intro _ D cg;have ex := aE.one cg;clear cg;obtain ⟨F,KA,B2,B4⟩ := dF ex F KA B2 B4;replace B5 := D; clear D;replace B5 := B5.congr (cs' := bO V4 V5 V6 t15 V9) rfl;refine aU ?_;refine aC func115 rfl (pG _ P) ?_;rintro e _ ⟨rfl, ex⟩;obtain ⟨F,KA,B2,B4⟩ := bU ex F KA B2 B4
 have IS : zg A n b (oY h6 e.1 h8 h9 Vv (f.1 : Int) Vx) ⟨⟨g.1, e.1, t.1, u.1⟩, q.1, (f.1 : Int), z.1⟩ := ⟨_, _, _, _, _, rfl, VJ, (by show (-9223372036854775808 : Int) ≤ (f.1 : Int) ∧ (f.1 : Int) ≤ 9223372036854775807; omega), VG, VH, VI, Vt, Vu⟩
 replace B4 := B4.congr (cs' := oY h6 e.1 h8 h9 Vv (f.1 : Int) Vx) rfl;refine aU ?_;refine ak rfl (fun Wa => ?_) (fun Wa => ?_)
 ·refine au 2 ?_;refine al (ar rfl (cells := mW) Kr) ?_;refine aU ?_;intro _ D cg;have ex := aE.one cg;clear cg;replace F := F.bk ex;replace B2 := D; clear D;replace B2 := B2.congr (cs' := mW) rfl;refine aU ?_;refine hret rfl rfl B2 rfl ?_;rw [hO]; unfold db; rw [if_pos (show eY z.2 ≠ 0 by omega)]; exact ⟨_, rfl, zg.zero _ _ _, (((F.drop Om).drop Om).drop Om) |>.aS (by simp)⟩
 refine aU ?_;refine aC func19 rfl (pX _ (IS.at KA.out)) ?_;rintro e _ ⟨rfl, ex⟩;obtain ⟨F,B2,B4⟩ := bF ex F B2 B4;refine aU ?_;refine bB rfl (fun Vz => ?_) (fun Vz => ?_)
 ·refine au 2 ?_;refine al (ar rfl (cells := mW) Kr) ?_;refine aU ?_;intro _ D cg;have ex := aE.one cg;clear cg;replace F := F.bk ex;replace B2 := D; clear D;replace B2 := B2.congr (cs' := mW) rfl;refine aU ?_;refine hret rfl rfl B2 rfl ?_;rw [hO]; unfold db; rw [if_neg (show ¬ eY z.2 ≠ 0 by omega), if_neg (by simpa using Vz)]; exact ⟨_, rfl, zg.zero _ _ _, (((F.drop Om).drop Om).drop Om) |>.aS (by simp)⟩
 refine aU ?_;intro _ D cg;have ex := aE.one cg;clear cg;replace F := F.bk ex;replace B2 := D; clear D;replace B2 := B2.congr (cs' := oY h6 e.1 h8 h9 Vv (f.1 : Int) Vx) rfl;refine aU ?_;refine hret rfl rfl B2 rfl ?_;rw [hO]; unfold db; rw [if_neg (show ¬ eY z.2 ≠ 0 by omega), if_pos (by simpa using Vz)]; exact ⟨_, rfl, IS, (((F.drop Om).drop Om).drop Om) |>.aS (by simp)⟩
theorem pN {B : Oa} {d : Nat} (w : World) (HA : Bs w A n j) (HB : Bs w B m y) :
  Ct 97 #[.slice A n c, .slice B m d] w fun e w' => e = .returned (.bool (decide (qG j y))) ∧ Ext w w' := by
 have n1 := HA.1; have n2 := HB.1;have E := Ext.refl w;refine ai 18 func97 rfl rfl rfl rfl ?_;intro _ hret;refine au 9 ?_;refine bf (cO rfl rfl) rfl (fun q1 => ?_) (fun q1 => ?_)
 ·refine au 3 ?_;refine aG 8 rfl rfl (cO rfl rfl) rfl (fun q2 => ?_) (fun q2 => ?_)
  ·refine aU ?_;refine hret rfl ?_;exact ⟨bR ⟨by omega, .inl Om⟩, E⟩
  refine aU ?_;refine hret rfl ?_;exact ⟨dM ⟨fun h => ⟨by omega, .inr Om⟩, fun h => by have := h.2; omega⟩, E⟩
 refine aU ?_;refine bZ 12 rfl rfl rfl ?_;refine bZ 12 rfl rfl rfl ?_;refine bZ 12 rfl rfl rfl ?_;refine aU ?_;refine hret rfl ?_;exact ⟨aR fun h => by have := h.1; omega, E⟩
theorem ow {B : Oa} {d : Nat} (w : World) (HA : Bs w A n j) (HB : Bs w B m y) (h1 : n ≤ 1000) (h2 : m ≤ 1000) :
  Ct 58 #[.slice A n c, .slice B m d] w fun e w' => ∃ A' k c', e = .returned (.slice A' k c') ∧ Row w' w.heap.size 5 A' k c' ((rv j y).map bv) ∧ k ≤ 3000 ∧ Ext w w' := by
 have n1 := HA.1; have n2 := HB.1;have E := Ext.refl w;have hl := bE n; have Vu := bE m;refine ai 18 func58 rfl rfl rfl rfl ?_;intro _ hret;refine aU ?_;refine ak rfl (fun Vr => ?_) (fun Vr => ?_)
 ·refine aU ?_;refine aC func82 rfl (dZ A n c _ _ (Bs.ext HA E) Om) ?_;rintro e w2 ⟨A2, k2, c2, rfl, R2, Vs, ex⟩;refine aU ?_;replace E := E.ext ex;have H2 := R2.bs;refine ag (aF (z := .int .u8 0) Tn.u Kr rfl rfl rfl rfl rfl) rfl ?_;rintro _ w3 ⟨g3, rfl, B3, Vt, ex⟩;obtain ⟨E,H2⟩ := aZ ex E H2;have H3 := bh (xs := [(0 : UInt8)]) (B3.congr (by rfl)) rfl;have Vq := E.size;refine aC func80 rfl (dS A2 _ _ c2 1 1 _ _ _ H2 Om H3 Om) ?_;rintro e w4 ⟨A4, c4, rfl, R4, ex⟩;replace E := E.ext ex;refine aU ?_;refine hret rfl ?_;exact ⟨A4, _, c4, rfl, (R4.lower Vq).congr rfl (by unfold rv; rw [if_pos Om]), by omega, E⟩
 refine aU ?_;refine aC func82 rfl (dZ A n c _ _ (Bs.ext HA E) Om) ?_;rintro e w2 ⟨A2, k2, c2, rfl, R2, Vs, ex⟩;refine aU ?_;replace E := E.ext ex;have H2 := R2.bs;refine ag (aF (z := .int .u8 0) Tn.u Kr rfl rfl rfl rfl rfl) rfl ?_;rintro _ w3 ⟨g3, rfl, B3, Vt, ex⟩;obtain ⟨E,H2⟩ := aZ ex E H2;have H3 := bh (xs := [(1 : UInt8)]) (B3.congr (by rfl)) rfl;refine aU ?_;refine aC func82 rfl (dZ B m d _ _ (Bs.ext HB E) Om) ?_;rintro e w4 ⟨A4, _, c4, rfl, R4, _, ex⟩;refine aU ?_;obtain ⟨E,H2,H3⟩ := bF ex E H2 H3;have H4 := R4.bs;have Vq := E.size;refine aC func122 rfl (fm A2 _ A4 _ c2 1 1 _ c4 _ _ _ _ H2 Om H3 Om H4 Om) ?_;rintro e _ ⟨A5, c5, rfl, R5, ex⟩;replace E := E.ext ex;refine aU ?_;refine hret rfl ?_;exact ⟨A5, _, c5, rfl, (R5.lower Vq).congr rfl (by unfold rv; rw [if_neg Om]), by omega, E⟩
theorem tp (w : World) (HA : Bs w A n b) (hc : n ≤ c) (hn : n ≤ 10000) :
  Ct 46 #[.slice A n c] w fun e w' => ∃ h h' : Hd, e = .returned (.tuple #[.slice h.A h.n h.c, .slice h'.A h'.n h'.c, .int .i64 (((dI b).2 : Nat) : Int)]) ∧ Sub A n b h.A h.n (dI b).1.1 ∧ Sub A n b h'.A h'.n (dI b).1.2.2 ∧ Ext w w' := by
 have F := aE.refl [] w;have KA : Kp w.heap.size [] (fun w => Bs w A n b) w := Kp.bs HA (by simp);have hbl := HA.1;have P := zD.whole (A0 := A) (b0 := b) hc Om hbl
 obtain ⟨g, hg⟩ : ∃ g, g = dh (.ok b) := ⟨_, rfl⟩
 obtain ⟨f, hf⟩ : ∃ f, f = gZ g.2 := ⟨_, rfl⟩
 obtain ⟨y, hy⟩ : ∃ y, y = if f.1 then dh f.2 else ([], f.2) := ⟨_, rfl⟩
 have hX : jL (.ok b) = ((g.1, f.1, y.1), y.2) := by rw [hy, hf, hg]; rfl
 have hO : dI b = db ([], false, []) (jL (.ok b)) (decide (fQ (jL (.ok b)).1)) := rfl;rw [hX] at hO;refine fZ 48 func46 rfl rfl rfl rfl ?_;intro _ hret;refine au 21 ?_;refine al (ar rfl (cells := bO A n c 0 0) Kr) ?_;refine aC func113 rfl (gT _ KA.out P) ?_;rintro e _ ⟨h3, _, rfl, S3, l3, _, _, P, ex⟩;refine au 1 ?_;obtain ⟨F,KA⟩ := aZ ex F KA;rw [← hg] at S3 l3 P; obtain ⟨A3, n3, c3, t3, e3, rfl, P⟩ := P.get;have q6 := F.size;refine aU ?_;intro _ _ B6 Vr ex;replace F := F.grow ex Vr;replace KA := KA.grow ex Vr;refine aU ?_;intro _ D cg;have ex := aE.one cg;clear cg;obtain ⟨F,KA⟩ := iz ex F KA;replace B6 := D; clear D;replace B6 := B6.congr (cs' := bO A3 n3 c3 t3 e3) rfl;refine aU ?_;refine aC func114 rfl (CB _ KA.out P) ?_;rintro e _ ⟨_, rfl, P, ex⟩;refine au 1 ?_;obtain ⟨F,KA,B6⟩ := bF ex F KA B6;rw [← hf] at P ⊢; obtain ⟨A4, n4, c4, t4, e4, rfl, P⟩ := P.get;refine aU ?_;intro _ D cg;have ex := aE.one cg;clear cg;obtain ⟨F,KA⟩ := iz ex F KA;replace B6 := D; clear D;replace B6 := B6.congr (cs' := bO A4 n4 c4 t4 e4) rfl;refine aU ?_;refine bB rfl (fun Vq => ?_) (fun Vq => ?_)
 ·refine aU ?_;have Vs : y = dh f.2 := by rw [hy, if_pos Vq]
  refine aC func113 rfl (gT _ KA.out P) ?_;rintro e _ ⟨h7, _, rfl, S7, l7, _, _, P, ex⟩;refine au 1 ?_;obtain ⟨F,B6⟩ := aZ ex F B6;rw [← Vs] at S7 l7 P; obtain ⟨A7, n7, c7, t7, e7, rfl, P⟩ := P.get;refine aU ?_;intro _ D cg;have ex := aE.one cg;clear cg;replace F := F.bk ex;replace B6 := D; clear D;replace B6 := B6.congr (cs' := bO A7 n7 c7 t7 e7) rfl;refine aU ?_;refine aC func115 rfl (pG _ P) ?_;rintro e w8 ⟨rfl, ex⟩;replace F := F.ext ex;refine aU ?_;refine ak rfl (fun Vt => ?_) (fun Vt => ?_)
  ·refine aU ?_;refine hret rfl rfl rfl ?_;rw [hO]; unfold db; rw [if_pos (show eY y.2 ≠ 0 by omega)];exact ⟨an, an, rfl, Sub.nil _ _ _, Sub.nil _ _ _, F.drop Om |>.aS (by simp)⟩
  refine au 4 ?_;rw [show f.1 = _ from Vq];refine au 3 ?_;refine bf (gO rfl rfl) rfl (fun k0 => ?_) (fun k0 => ?_)
  ·refine aU ?_;refine bZ 40 rfl rfl rfl ?_;refine bZ 40 rfl rfl rfl ?_;refine bZ 40 rfl rfl rfl ?_;refine au 4 ?_;refine bX rfl rfl ?_;have hno : ¬ fQ (g.1, f.1, y.1) := fun h => by have h1 : g.1.length = 32 := h.1.1; omega
   refine aU ?_;refine hret rfl rfl rfl ?_;rw [hO]; unfold db; rw [if_neg (show ¬ eY y.2 ≠ 0 by omega), if_neg (by rw [decide_eq_false hno]; decide)];exact ⟨an, an, rfl, Sub.nil _ _ _, Sub.nil _ _ _, F.drop Om |>.aS (by simp)⟩
  refine au 5 ?_;refine aG 40 rfl rfl (gO rfl rfl) rfl (fun k1 => ?_) (fun k1 => ?_)
  ·refine au 4 ?_;refine bX rfl rfl ?_
   have hno : ¬ fQ (g.1, f.1, y.1) := fun h => by have h2 : y.1.length = 0 ∨ y.1.length = 32 := h.1.2;have h3 : 0 < y.1.length := h.2.1 Vq;omega
   refine aU ?_;refine hret rfl rfl rfl ?_;rw [hO]; unfold db; rw [if_neg (show ¬ eY y.2 ≠ 0 by omega), if_neg (by rw [decide_eq_false hno]; decide)];exact ⟨an, an, rfl, Sub.nil _ _ _, Sub.nil _ _ _, F.drop Om |>.aS (by simp)⟩
  refine au 4 ?_;refine bg rfl rfl ?_;refine aU ?_;refine hret rfl rfl rfl ?_
  have hyes : fQ (g.1, f.1, y.1) := ⟨⟨by show g.1.length = 32; omega, .inr (by show y.1.length = 32; omega)⟩, ⟨fun _ => by show 0 < y.1.length; omega, fun _ => Vq⟩⟩
  rw [hO]; unfold db; rw [if_neg (show ¬ eY y.2 ≠ 0 by omega), if_pos (decide_eq_true hyes)];exact ⟨h3, h7, rfl, S3, S7, F.drop Om |>.aS (by simp)⟩
 have Vs : y = ([], f.2) := by rw [hy, if_neg (by rw [Vq]; decide)]
 replace P : zD A n b (bO A4 n4 c4 t4 e4) y.2 := by rw [Vs]; exact P
 refine aU ?_;refine aC func115 rfl (pG _ P) ?_;rintro e w8 ⟨rfl, ex⟩;replace F := F.ext ex;refine aU ?_;refine ak rfl (fun Vt => ?_) (fun Vt => ?_)
 ·refine aU ?_;refine hret rfl rfl rfl ?_;rw [hO]; unfold db; rw [if_pos (show eY y.2 ≠ 0 by omega)];exact ⟨an, an, rfl, Sub.nil _ _ _, Sub.nil _ _ _, F.drop Om |>.aS (by simp)⟩
 refine au 4 ?_;rw [show f.1 = _ from Vq];refine au 3 ?_;refine bf (gO rfl rfl) rfl (fun k0 => ?_) (fun k0 => ?_)
 ·refine aU ?_;refine bZ 40 rfl rfl rfl ?_;refine bZ 40 rfl rfl rfl ?_;refine bZ 40 rfl rfl rfl ?_;refine au 4 ?_;refine bX rfl rfl ?_;have hno : ¬ fQ (g.1, f.1, y.1) := fun h => by have h1 : g.1.length = 32 := h.1.1; omega
  refine aU ?_;refine hret rfl rfl rfl ?_;rw [hO]; unfold db; rw [if_neg (show ¬ eY y.2 ≠ 0 by omega), if_neg (by rw [decide_eq_false hno]; decide)];exact ⟨an, an, rfl, Sub.nil _ _ _, Sub.nil _ _ _, F.drop Om |>.aS (by simp)⟩
 refine au 10 ?_;refine bg rfl rfl ?_;refine aU ?_;refine hret rfl rfl rfl ?_;have hyes : fQ (g.1, f.1, y.1) := by rw [Vs, Vq]; exact ⟨⟨by show g.1.length = 32; omega, .inl rfl⟩, ⟨fun h => (by cases h), fun h => absurd h (Nat.lt_irrefl 0)⟩⟩
 rw [hO]; unfold db; rw [if_neg (show ¬ eY y.2 ≠ 0 by omega), if_pos (decide_eq_true hyes)];exact ⟨h3, an, rfl, S3, by rw [Vs]; exact Sub.nil _ _ _, F.drop Om |>.aS (by simp)⟩
theorem BD {N gi gr M : Nat} {s : St} (w : World) (H : In N [gi, gr, g2, g5, g3] w gi gr s) (C2 : ao w g2 23 #[.slice none 0 0]) (C5 : ao w g5 4 #[.bool false]) (C3 : ao w g3 23 #[.slice none 0 0]) (i2 : gi ≠ g2) (i5 : gi ≠ g5) (i3 : gi ≠ g3) (r2 : gr ≠ g2) (r5 : gr ≠ g5) (r3 : gr ≠ g3) (n25 : g2 ≠ g5) (Vs : g2 ≠ g3) (n53 : g5 ≠ g3) (Vt : M ≤ gi) (Vu : M ≤ gr) (hM : M ≤ w.heap.size) :
  Ct 92 #[.pointer (some ⟨gi, 0, none⟩), .pointer (some ⟨g2, 0, none⟩), .pointer (some ⟨g5, 0, none⟩), .pointer (some ⟨g3, 0, none⟩)] w fun e w' => e = .returned (.tuple #[]) ∧ In N [gi, gr, g2, g5, g3] w' gi gr (jL s).2 ∧ (∃ h h' : Hd, ao w' g2 23 #[.slice h.A h.n h.c] ∧ ao w' g5 4 #[.bool (jL s).1.2.1] ∧ ao w' g3 23 #[.slice h'.A h'.n h'.c] ∧ Kp w'.heap.size [gi, g2, g5, g3] (fun w => Fb M w h.A h.n (jL s).1.1 ∧ Fb M w h'.A h'.n (jL s).1.2.2) w') ∧ QE M [g2, g5, g3] w w' := by
 have hli := H.To;have hlr := H.Sz;have l2 := C2.lt; have l5 := C5.lt; have l3 := C3.lt;have F := aE.refl [gr, gi, g2, g5, g3] w
 obtain ⟨g, hg⟩ : ∃ g, g = dh s := ⟨_, rfl⟩
 obtain ⟨f, hf⟩ : ∃ f, f = gZ g.2 := ⟨_, rfl⟩
 obtain ⟨y, hy⟩ : ∃ y, y = if f.1 then dh f.2 else ([], f.2) := ⟨_, rfl⟩
 have hX : jL s = ((g.1, f.1, y.1), y.2) := by rw [hy, hf, hg]; rfl
 refine gj 12 func92 rfl rfl rfl rfl ?_;intro _ hret;refine aU ?_;refine aC func93 rfl (iX _ H) ?_;rintro e _ ⟨A1, n1, c1, rfl, _, V1, H1, ex⟩;refine au 1 ?_;obtain ⟨F,C2,C5,C3⟩ := dF ex F C2 C5 C3;rw [← hg] at V1 H1; have J1 := V1.kk (S := [gi, gr, g2, g5, g3]) So;refine aU ?_;intro _ D cg;have ex := aE.one cg;clear cg;obtain ⟨F,C5,C3,H1,J1⟩ := ux ex F C5 C3 H1 J1;replace C2 := D; clear D;replace C2 := C2.congr (cs' := #[.slice A1 n1 c1]) rfl;refine aU ?_;refine aC func94 rfl (Gp _ H1) ?_;rintro e _ ⟨rfl, H2, ex⟩;refine au 1 ?_;rw [← hf] at H2 ⊢;obtain ⟨F,C2,C5,C3,J1⟩ := ux ex F C2 C5 C3 J1;refine aU ?_;intro _ D cg;have ex := aE.one cg;clear cg;obtain ⟨F,C2,C3,J1,H2⟩ := ux ex F C2 C3 J1 H2;replace C5 := D; clear D;replace C5 := C5.congr (cs' := #[.bool f.1]) rfl;refine aU ?_;refine bB rfl (fun Vq => ?_) (fun Vq => ?_)
 ·refine aU ?_;have q3 := F.size;have Vr : y = dh f.2 := by rw [hy, if_pos Vq]
  refine aC func93 rfl (iX _ H2) ?_;rintro e _ ⟨A2, n2, c2, rfl, _, V2, H3, ex⟩;refine au 1 ?_;obtain ⟨F,C2,C5,C3,J1⟩ := ux ex F C2 C5 C3 J1;rw [← Vr] at V2 H3; have J2 := V2.kk (S := [gi, gr, g2, g5, g3]) So;refine aU ?_;intro _ D cg;have ex := aE.one cg;clear cg;obtain ⟨F,C2,C5,J1,H3,J2⟩ := nQ ex F C2 C5 J1 H3 J2;replace C3 := D; clear D;replace C3 := C3.congr (cs' := #[.slice A2 n2 c2]) rfl;refine aU ?_;refine hret (.inr rfl) ?_;rw [hX];exact ⟨rfl, H3, ⟨⟨A1, n1, c1⟩, ⟨A2, n2, c2⟩, C2, C5, C3, ((J1.um J1.1 (Nat.le_refl _)).and (J2.um J2.1 (Nat.le_refl _))).map (fun _ ⟨a, b⟩ => ⟨a.mono Om, b.mono Om⟩) |>.mono (by simp)⟩, F.Rj hM⟩
 refine aU ?_;refine hret (.inr rfl) ?_;have Vr : y = ([], f.2) := by rw [hy, if_neg (by rw [Vq]; decide)]
 rw [hX, Vr];exact ⟨rfl, H2, ⟨⟨A1, n1, c1⟩, an, C2, C5, C3, (J1.um J1.1 (Nat.le_refl _)).map (fun _ a => ⟨a.mono Om, Fb.nil _ _ _⟩) |>.mono (by simp)⟩, F.Rj hM⟩
theorem AB {h h' : Hd} {f : Bool} (w : World) (C2 : ao w g2 23 #[.slice h.A h.n h.c]) (C5 : ao w g5 4 #[.bool f]) (C3 : ao w g3 23 #[.slice h'.A h'.n h'.c]) (HA : Bs w h.A h.n j) (HB : Bs w h'.A h'.n y) :
  Ct 96 #[.pointer (some ⟨g2, 0, none⟩), .pointer (some ⟨g3, 0, none⟩), .pointer (some ⟨g5, 0, none⟩)] w fun e w' => e = .returned (.bool (decide (fQ (j, f, y)))) ∧ Ext w w' := by
 have hl := HB.1;have E := Ext.refl w;refine ai 14 func96 rfl rfl rfl rfl ?_;intro _ hret;refine aU ?_;refine aC func97 rfl (pN _ (Bs.ext HA E) (Bs.ext HB E)) ?_;rintro e _ ⟨rfl, ex⟩;obtain ⟨E,C5,C3⟩ := bF ex E C5 C3;refine au 1 ?_;refine bf (aY rfl) rfl (fun q0 => ?_) (fun q0 => ?_)
 ·refine au 4 ?_;refine pt 7 (Qw rfl rfl Tn.u) ?_;refine aU ?_;refine hret rfl ?_
  have key : decide (fQ (j, f, y)) = true ↔ f = decide (0 < (h'.n : Int)) := by
   rw [decide_eq_true_iff];constructor
   ·intro o;have o2 : f = true ↔ 0 < y.length := o.2
    cases f with
    | true => rw [eq_comm, decide_eq_true_iff]; have := o2.1 rfl; omega
    | false => rw [eq_comm, decide_eq_false_iff_not]; intro h; have := o2.2 Om; cases this
   intro e;refine ⟨q0, ?_⟩;show f = true ↔ 0 < y.length;rw [e, decide_eq_true_iff]; omega
  exact ⟨(rf key).symm, E⟩
 refine aU ?_;refine hret rfl ?_;exact ⟨aR fun h => q0 h.1, E⟩
theorem tW (w : World) (HA : Bs w A n b) (hc : n ≤ c) (hn : n ≤ 1048576) :
  Ct 39 #[.slice A n c] w fun e w' => ∃ h h' : Hd, e = .returned (.tuple #[.slice h.A h.n h.c, .slice h'.A h'.n h'.c, .int .u8 (((dI b).2 : Nat) : Int)]) ∧ Bs w' h.A h.n (dI b).1.1 ∧ Bs w' h'.A h'.n (dI b).1.2.2 ∧ (dI b).2 < 256 ∧ Ext w w' := by
 have F := aE.refl [] w;have KA : Kp w.heap.size [] (fun w => Bs w A n b) w := Kp.bs HA (by simp);have hX : dI b = db ([], false, []) (jL (.ok b)) (decide (fQ (jL (.ok b)).1)) := rfl;refine zZ 18 func39 rfl rfl rfl underlying23 rfl underlying23 rfl rfl ?_;intro _ hret;refine aU ?_;intro _ Vr B2 Vw ex;have VC := ex.size;replace F := F.grow ex Vw;replace KA := KA.grow ex Vw;refine aU ?_;intro _ Vs B3 Vt ex;have Vy : Vr < Vs := Nat.lt_of_lt_of_le B2.lt Vt;replace F := F.grow ex Vt;replace KA := KA.grow ex Vt;replace B2 := B2.grow ex Vt;refine aU ?_;intro _ Vv B5 Vq ex;have Vz : Vr < Vv := Nat.lt_of_lt_of_le B2.lt Vq;have VA : Vs < Vv := Nat.lt_of_lt_of_le B3.lt Vq;replace F := F.grow ex Vq;replace KA := KA.grow ex Vq;replace B2 := B2.grow ex Vq;replace B3 := B3.grow ex Vq;refine aU ?_;intro Vu D cg;have ex := aE.one cg;clear cg;obtain ⟨F,KA,B2,B3⟩ := dF ex F KA B2 B3;replace B5 := D; clear D;refine au 4 ?_;refine al (kr rfl) ?_;refine au 8 ?_;refine al (kr rfl) ?_;have q2 := B2.lt; have q3 := B3.lt; have q5 := B5.lt;replace B5 := B5.congr (cs' := #[.bool false]) rfl;refine aC func95 rfl (xD (N := w.heap.size) (V := [Vr, Vv, Vs]) (t := (jL (.ok b)).2) (okv := decide (fQ (jL (.ok b)).1)) (us := [.pointer (some ⟨Vr, 0, none⟩), .pointer (some ⟨Vv, 0, none⟩), .pointer (some ⟨Vs, 0, none⟩)]) (vs := [.pointer (some ⟨Vr, 0, none⟩), .pointer (some ⟨Vs, 0, none⟩), .pointer (some ⟨Vv, 0, none⟩)]) (Ψ := fun gi w => ∃ h h' : Hd, ao w Vr 23 #[.slice h.A h.n h.c] ∧ ao w Vv 4 #[.bool (jL (.ok b)).1.2.1] ∧ ao w Vs 23 #[.slice h'.A h'.n h'.c] ∧ Kp w.heap.size [gi, Vr, Vv, Vs] (fun w => Fb Vu.heap.size w h.A h.n (jL (.ok b)).1.1 ∧ Fb Vu.heap.size w h'.A h'.n (jL (.ok b)).1.2.2) w) _ (KA.mono (by simp)) hc Om So func92 rfl rfl func96 rfl rfl (fun w1 gi gr E hi hr H hS => BD w1 H (B2.ext E) (B5.ext E) (B3.ext E) Om Om Om Om Om Om Om Om Om Om Om (by have := E.size; omega)) (fun gi w1 w2 hi ⟨h, h', a, b', c', K⟩ C => ⟨h, h', a.bk C So, b'.bk C So, c'.bk C So, (K.bk C (by simp)).um C.size (Nat.le_refl _)⟩) (fun gi w1 ⟨h, h', a, b', c', K⟩ _ => AB w1 a b' c' K.out.1.1 K.out.2.1)) ?_;rintro e _ ⟨rfl, ⟨gi, _, h, h', D2, _, D3, KM⟩, Vx, ex⟩;replace F := F.bk ex;have B2 := D2; have B3 := D3; have Ja := KM.out.1.kk (S := [Vr, Vs]) So; have Jb := KM.out.2.kk (S := [Vr, Vs]) So; clear KM;refine aU ?_;refine ak rfl (fun VB => ?_) (fun VB => ?_)
 ·have e1 := xZ (z := (([], false, []) : List UInt8 × Bool × List UInt8)) (p := jL (.ok b)) (ok := decide (fQ (jL (.ok b)).1)) Om;refine aU ?_;intro _ D cg;have ex := aE.one cg;clear cg;obtain ⟨F,B3⟩ := iz ex F B3;replace B2 := D; clear D;refine aU ?_;intro _ D cg;have ex := aE.one cg;clear cg;obtain ⟨F,B2⟩ := iz ex F B2;replace B3 := D; clear D;refine aU ?_;refine hret rfl rfl rfl (B2.get (i := 0) rfl) (B3.get (i := 0) rfl) ?_;rw [hX, e1]; exact ⟨an, an, rfl, Bs.nil _ _, Bs.nil _ _, (by dsimp only; split; exact Vx; split <;> omega), (F.drop Om).drop Om |>.drop Om |>.aS (by simp)⟩
 refine aU ?_;have e1 := uJ (z := (([], false, []) : List UInt8 × Bool × List UInt8)) (p := jL (.ok b)) (ok := decide (fQ (jL (.ok b)).1)) Om;refine cu [(2, [Vr]), (3, [Vs])] Kr 5 rfl ?_; intro VD ex VE;obtain ⟨F,B2,B3,Ja,Jb⟩ := eQ ex F B2 B3 Ja Jb;refine gQ [(0, []), (1, [2])] ?_;refine aU ?_;refine cJ 2 Kr ?_; refine dt rfl (aq (i := 0) rfl rfl rfl Kr B2 Nb) rfl ?_;rintro _ _ ⟨rfl, D, cg⟩;have ex := aE.one cg;clear cg;refine ⟨ex, ?_⟩;obtain ⟨F,B3,Ja,Jb⟩ := dF ex F B3 Ja Jb;replace B2 := D; clear D;refine cJ 3 Kr ?_; refine dt rfl (aq (i := 0) rfl rfl rfl Kr B3 Nb) rfl ?_;rintro _ _ ⟨rfl, D, cg⟩;have ex := aE.one cg;clear cg;refine ⟨ex, ?_⟩;obtain ⟨F,B2,Ja,Jb⟩ := dF ex F B2 Ja Jb;replace B3 := D; clear D;refine gQ [(4, [])] ?_;refine aU ?_;refine cN Kr ?_;refine aU ?_;refine hret rfl rfl rfl (B2.get (i := 0) rfl) (B3.get (i := 0) rfl) ?_;rw [hX, e1]; exact ⟨h, h', rfl, Ja.out.1, Jb.out.1, (by show 0 < 256; omega), (F.drop Om).drop Om |>.drop Om |>.aS (by simp)⟩
end
open Go.RowKit
attribute [local irreducible] Y Ef WL WC WK WQ WM cv WN WF cZ WJ gI WR qK
open Wire Nd Hk
/-! Blocks in which no byte lies. -/
def ui (cs : Array Value) : Bool := cs.toList.all fun v => match v with | .int .u8 _ => false | _ => true
theorem Bs.TH {b : Nat} {xs : Lb} (H : Bs w A n xs) (B : ao w b t cs) (h8 : ui cs = true) (hn : 0 < n) (o : Nat) : A ≠ some ⟨b, o, none⟩ := fun e => by
 obtain ⟨b', off, hA, _, hc⟩ := H.get (k := 0) hn;rw [e] at hA;injection hA with hA
 injection hA with hA _ _
 subst hA;rw [B.cell] at hc;rw [← Array.getElem?_toList] at hc;have h := List.all_eq_true.1 h8 _ (List.mem_of_getElem? hc);cases h
theorem fC {xs : Lb} (H : Bs w A n xs) (hS : ∀ g ∈ S, ∃ t cs, ao w g t cs ∧ ui cs = true) : Kp w.heap.size S (fun w => Bs w A n xs) w :=
 Kp.bs H fun hn g hg o => by obtain ⟨t, cs, B, h⟩ := hS g hg; exact H.TH B h hn o
theorem dE : ∀ g ∈ ([] : List Nat), ∃ t cs, ao w g t cs ∧ ui cs = true := fun _ h => by cases h
theorem bV (B : ao w a t cs) (h : ui cs = true) (hS : ∀ g ∈ S, ∃ t cs, ao w g t cs ∧ ui cs = true) : ∀ g ∈ a :: S, ∃ t cs, ao w g t cs ∧ ui cs = true := fun g hg => by grind
/-! Welcomes whose slices have their capacities; what a welcome has for one. -/
def mh (w : World) (cs : Array Value) (x : lB) : Prop := DC w cs x ∧ ∀ A n c, cs[2]? = some (.slice A n c) → n ≤ c
def ka (w : World) (cs : Array Value) (x : kg) : Prop := ∃ h0 h1, cs = fK h0 h1 ∧ rl mh 3 w h0.A h0.n x.guests ∧ (py w h1 x.info ∧ h1.n ≤ h1.c)
theorem mh.ext {x : lB} (h : mh w cs x) (e : Ext w w') : mh w' cs x := ⟨h.1.ext e, h.2⟩
theorem ka.ext {x : kg} (h : ka w cs x) (e : Ext w w') : ka w' cs x := by obtain ⟨h0, h1, rfl, a, b⟩ := h;exact ⟨h0, h1, rfl, a.ext e fun _ _ h => mh.ext h e, Bs.ext b.1 e, b.2⟩
structure jo where
 info : jq
 secs : List (List UInt8)
 way : List UInt8
def jo.zero : jo := ⟨jq.zero, List.replicate 12 [], []⟩
def sZ (a b c d e f g h i j k l : Hd) : Array Value := #[.slice a.A a.n a.c, .slice b.A b.n b.c, .slice c.A c.n c.c, .slice d.A d.n d.c, .slice e.A e.n e.c, .slice f.A f.n f.c, .slice g.A g.n g.c, .slice h.A h.n h.c, .slice i.A i.n i.c, .slice j.A j.n j.c, .slice k.A k.n k.c, .slice l.A l.n l.c]
def EV (g : Hd) (ep : Nat) (t u tg : Hd) (z : Int) (sg a b c d e f g' h i j k l y : Hd) : Array Value := #[.slice g.A g.n g.c, .int .u64 (ep : Int), .slice t.A t.n t.c, .slice u.A u.n u.c, .slice tg.A tg.n tg.c, .int .i64 z, .slice sg.A sg.n sg.c, .slice a.A a.n a.c, .slice b.A b.n b.c, .slice c.A c.n c.c, .slice d.A d.n d.c, .slice e.A e.n e.c, .slice f.A f.n f.c, .slice g'.A g'.n g'.c, .slice h.A h.n h.c, .slice i.A i.n i.c, .slice j.A j.n j.c, .slice k.A k.n k.c, .slice l.A l.n l.c, .slice y.A y.n y.c]
def cE : Array Value := EV an 0 an an an 0 an an an an an an an an an an an an an an
def eL (w : World) (cs : Array Value) (x : jo) : Prop :=
 ∃ g t u tg sg a b c d e f g' h i j k l y, cs = EV g x.info.ctx.ep t u tg x.info.frm sg a b c d e f g' h i j k l y ∧ fX w (oY g x.info.ctx.ep t u tg x.info.frm sg) x.info ∧ cT w (sZ a b c d e f g' h i j k l) x.secs ∧ py w y x.way
theorem eL.ext {x : jo} (H : eL w cs x) (E : Ext w w') : eL w' cs x := by obtain ⟨g, t, u, tg, sg, a, b, c, d, e, f, g', h, i, j, k, l, y, rfl, h1, h2, h3⟩ := H;exact ⟨g, t, u, tg, sg, a, b, c, d, e, f, g', h, i, j, k, l, y, rfl, h1.ext E, h2.ext E, Bs.ext h3 E⟩
theorem cT.form (H : cT w cs s) : ∃ a b c d e f g h i j k l : Hd, cs = sZ a b c d e f g h i j k l := by
 have hz := H.size
 have hd : ∀ i, i < 12 → ∃ h : Hd, cs[i]? = some (.slice h.A h.n h.c) := fun i hi => by obtain ⟨A, n, c, h1, _⟩ := H.get hi;exact ⟨⟨A, n, c⟩, h1⟩
 obtain ⟨a, ea⟩ := hd 0 Om;obtain ⟨b, eb⟩ := hd 1 Om;obtain ⟨c, ec⟩ := hd 2 Om;obtain ⟨d, ed⟩ := hd 3 Om;obtain ⟨e, ee⟩ := hd 4 Om;obtain ⟨f, ef⟩ := hd 5 Om;obtain ⟨g, eg⟩ := hd 6 Om;obtain ⟨h, eh⟩ := hd 7 Om;obtain ⟨i, ei⟩ := hd 8 Om;obtain ⟨j, ej⟩ := hd 9 Om;obtain ⟨k, ek⟩ := hd 10 Om;obtain ⟨l, el⟩ := hd 11 Om;refine ⟨a, b, c, d, e, f, g, h, i, j, k, l, ?_⟩;refine Array.ext_getElem? fun q => ?_
 match q with
 | 0 => exact ea
 | 1 => exact eb
 | 2 => exact ec
 | 3 => exact ed
 | 4 => exact ee
 | 5 => exact ef
 | 6 => exact eg
 | 7 => exact eh
 | 8 => exact ei
 | 9 => exact ej
 | 10 => exact ek
 | 11 => exact el
 | q + 12 => rw [Array.getElem?_eq_none Om]; exact (Array.getElem?_eq_none (by show 12 ≤ _; omega)).symm
theorem MN (w : World) : cT w (sZ an an an an an an an an an an an an) (List.replicate 12 []) := by
 refine ⟨List.replicate 12 (.slice none 0 0), rfl, rfl, rfl, fun i hi => ⟨none, 0, 0, ?_, ?_⟩⟩
 ·rw [List.getElem?_replicate, if_pos hi]
 rw [List.getD_eq_getElem?_getD, List.getElem?_replicate, if_pos hi]; exact Bs.nil _ _
theorem eL.zero (w : World) : eL w cE jo.zero :=
 ⟨an, an, an, an, an, an, an, an, an, an, an, an, an, an, an, an, an, an, rfl, ⟨an, an, an, an, an, rfl, (by decide), (by decide), Bs.nil _ _, Bs.nil _ _, Bs.nil _ _, Bs.nil _ _, Bs.nil _ _⟩, MN w, Bs.nil _ _⟩
theorem rN (H : cT w cs s) (hS : ∀ g ∈ S, ∃ t cs, ao w g t cs ∧ ui cs = true) : Kp w.heap.size S (fun w => cT w cs s) w := by refine ⟨Nat.le_refl _, fun w2 hw => ?_⟩;obtain ⟨vs, h1, h2, h3, h4⟩ := H;exact ⟨vs, h1, h2, h3, fun i hi => by obtain ⟨A, n, c, h5, h6⟩ := h4 i hi; exact ⟨A, n, c, h5, (fC h6 hS).2 w2 hw⟩⟩
theorem vN (H : fX w cs x) (hS : ∀ g ∈ S, ∃ t cs, ao w g t cs ∧ ui cs = true) : Kp w.heap.size S (fun w => fX w cs x) w :=
 ⟨Nat.le_refl _, fun w2 hw => jB.imp H fun _ _ b => (fC b hS).2 w2 hw⟩
/-! What a welcome has for a package, plainly. -/
def jI : ByteArray := ⟨#[87, 101, 108, 99, 111, 109, 101]⟩
theorem pW : jI.size ≤ 100 := by decide
def oM (x : kg) (j way t : Lb) : jo × Nat :=
 if (M20.dj t).2 ≠ 0 then (jo.zero, (M20.dj t).2)
 else if (M20.dj t).1.tag ≠ Mac.tag ((eo j (M20.dj t).1.ctx).getD 8 []) (M20.dj t).1.ctx.trans then (jo.zero, 16)
 else (⟨(M20.dj t).1, eo j (M20.dj t).1.ctx, way⟩, 0)
def ln (j : Lb) : List UInt8 := Kdf.label (pZ j) jh.data.toList [] 32
def Qd (x : kg) (j way : Lb) : Option (List UInt8) → jo × Nat
 | none => (jo.zero, 11)
 | some t => oM x j way t
def EK (x : kg) (j way : Lb) : jo × Nat := Qd x j way (Gm.Aw (Kdf.label (ln j) sn.data.toList [] 16) (Kdf.label (ln j) jl.data.toList [] 12) x.info [])
def qP (x : kg) (t : Lb) : jo × Nat := if (M20.dI t).2 ≠ 0 then (jo.zero, (M20.dI t).2) else EK x (M20.dI t).1.1 (M20.dI t).1.2.2
def rr (x : kg) (ini : Lb) (g : lB) : jo × Nat :=
 if (op ini g.enc (Hk.info jI x.info) g.box []).2 ≠ 0 then (jo.zero, (op ini g.enc (Hk.info jI x.info) g.box []).2) else qP x (op ini g.enc (Hk.info jI x.info) g.box []).1
def Sq (x : kg) (ini : Lb) : Option lB → jo × Nat
 | none => (jo.zero, 7)
 | some g => rr x ini g
def dr (x : kg) (p : Pack) (ini : Lb) : jo × Nat := if ¬ dk p then (jo.zero, 3) else Sq x ini (x.guests.find? fun g => decide (g.ref = ik p))
theorem vx {α : Type} (p : α → Bool) (l : List α) (i : Nat) (x : α) (hx : l[i]? = some x) (h : (l.take i).find? p = none) (hp : p x = true) : l.find? p = some x := by
 obtain ⟨hi, hx⟩ := List.getElem?_eq_some_iff.1 hx;have e2 : l.drop i = x :: l.drop (i + 1) := by rw [List.drop_eq_getElem_cons hi, hx]
 have h2 : (l.take i ++ l.drop i).find? p = some x := by rw [e2, List.find?_append, h, Option.none_or, List.find?_cons_of_pos hp]
 rwa [List.take_append_drop] at h2
theorem mF (w : World) : ka w (fK an an) kg.zero := ⟨an, an, rfl, ⟨rfl, [], rfl, .inl rfl, fun i x h => by cases h⟩, Bs.nil _ _, Nat.le_refl _⟩
end Go.Proofs.YtgfafidlkldeaaaGreat
