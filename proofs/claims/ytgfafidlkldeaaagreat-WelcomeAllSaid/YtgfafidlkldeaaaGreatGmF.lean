/- gcm.tag. No conditions: contracts of functions. -/
import Derived.Test.YtgfafidlkldeaaaGreatAeD
import Derived.Test.YtgfafidlkldeaaaGreatAu
import Derived.Test.YtgfafidlkldeaaaGreatChunkA
import Derived.Test.YtgfafidlkldeaaaGreatVi
set_option linter.unusedVariables false
set_option linter.unusedSimpArgs false
set_option maxHeartbeats 4000000
set_option maxRecDepth 4000
namespace Go.Proofs.YtgfafidlkldeaaaGreat
variable {z : Int} {key nn : Lb} {D a b base c g n o : Nat} {A C : Oa} {dT e sT t ty : TypeId} {w w' : aa9}
section
open Go.RowKit Tryz
section
variable {P : Program} {L : List (Nat × Value)} {x y : Operand}
theorem zS {d : Nat} {xs cs : List Value} (hx : ev L x = some (.slice (cf g) n c)) (hy : ev L y = some (.slice A n d)) (hu : P.underlying dT = some (.slice e)) (hs : (P.info? e).map (·.size) = some 1)
  (aa5 : Row w base e (cf g) n c xs) (hr : At w A cs) (hn : cs.length = n) (h1 : ∀ v ∈ cs, v.oneCell' = true) :
  Ef P L w (.call { callee := .builtin .copy, args := #[x, y], argTypes := #[dT, sT] }) ty fun u w' => u = .int .i64 (cs.length : Int) ∧ Row w' base e (cf g) n c cs ∧ mi w g w' := by
 obtain ⟨hl, h⟩ := aa5
 rcases h with ⟨h, _⟩ | ⟨g', cap, cur, hv, hb, hg, hc, hm, hz, ht⟩
 ·cases h
 injection hv with YU h2 h3
 injection YU with YU
 injection YU with e1 _ _
 subst e1; subst h3;refine (iy (cur := cur) (cs := cs) hx hy hu hs hg hr (by rw [hn]; exact (Nat.min_self n).symm) Om h1).mono fun u w' ⟨YV, hB, hC⟩ => ⟨YV, ⟨Om, .inr ⟨g, c, _, rfl, hb, hB, hc, hm, ?_, ?_⟩⟩, hC⟩
 ·simp; omega
 simp [hn]
theorem Ui {z : Operand} {c' j : Nat} {k k2 : IntKind} {a b : Int} {e : TypeId} (hx : ev L x = some (.slice (cf g) n c')) (hy : ev L y = some (.int k a)) (hz : ev L z = some (.int k2 b)) (hu : P.underlying t = some (.slice e)) (hs : (P.info? e).map (·.size) = some 1) (ha : a = (j : Int)) (hb : b = ((j + 4 : Nat) : Int)) (hj : j + 4 ≤ c') :
  Y P L w (.slice t x (some y) (some z) none) ty (.slice (some ⟨g, j, none⟩) 4 (c' - j)) := by
 have h := ED (w := w) (ty := ty) (s := 1) hx hy hz hu hs ha hb Om Om
 have e1 : lZ (cf g) c' j 1 = some ⟨g, j, none⟩ := by unfold lZ; rw [if_neg Om]; simp [Addr.add];intro h; exact h.symm
 rw [e1, show j + 4 - j = 4 by omega] at h;exact h
end
attribute [local irreducible] Y Ef WL WC WK WQ WM cu WN WF db WJ iC
open Ae
namespace Ae
def Lz (s w : Lb) (n : Nat) : Nat → List UInt8
 | 0 => s
 | i + 1 => (Lz s w n i).set i (UInt8.ofNat (cell (Lz s w n i) i ^^^ cell w (16 * n + i)))
def Tw (T s : Lb) : Nat → List UInt8
 | 0 => List.replicate 16 0
 | i + 1 => (Tw T s i).set i (UInt8.ofNat (cell T (cell s ((i + i % 4 * 4) % 16))))
def Vz (x : Lb) : Nat → List UInt8
 | 0 => x
 | i + 1 => mix (Vz x i) (4 * i)
def QO (T w b : Lb) : Nat → List UInt8
 | 0 => b
 | n + 1 => Vz (Tw T (Lz (QO T w b n) w n 16) 16) (if n + 1 < 10 then 4 else 0)
def enc (key b : Lb) : List UInt8 := Lz (QO box (keys box key) b 10) (keys box key) 10 16
theorem C8 (s w : Lb) (n : Nat) : ∀ i, (Lz s w n i).length = s.length
 | 0 => rfl
 | i + 1 => by rw [Lz, List.length_set, C8 s w n i]
theorem lx (T s : Lb) : ∀ i, (Tw T s i).length = 16
 | 0 => by rw [Tw, List.length_replicate]
 | i + 1 => by rw [Tw, List.length_set, lx T s i]
theorem jy (x : Lb) : ∀ i, (Vz x i).length = x.length
 | 0 => rfl
 | i + 1 => by rw [Vz, Cg, jy x i]
theorem SU {T w b : Lb} (h : b.length = 16) : ∀ n, (QO T w b n).length = 16
 | 0 => h
 | n + 1 => by rw [QO, jy, lx]
end Ae
theorem WY (m : Nat) : ((m : Nat) : Int).tmod 4 = ((m % 4 : Nat) : Int) := by rw [Int.tmod_eq_emod_of_nonneg Om]; omega
theorem Wl (m : Nat) (h : z = (m : Int)) : z.tmod 16 = ((m % 16 : Nat) : Int) := by subst h; exact RM m
theorem tV {B : Oa} {d : Nat} {fA : Lb} (w : aa9) (HA : Bs w A 16 key) (HB : Bs w B 16 fA) :
  Ct 174 #[.slice A 16 c, .slice B 16 d] w fun e w' => ∃ A' c', e = .returned (.tuple #[.slice A' 16 c', .bool true]) ∧ Row w' w.heap.size 5 A' 16 c' ((enc key fA).map bv) ∧ Ext w w' := by
 have E := Ext.refl w;have hkl := HA.1
 obtain ⟨T, hT⟩ : ∃ T, T = box := ⟨_, rfl⟩
 have hTl : T.length = 256 := by rw [hT]; exact lD _
 have hEnc : enc key fA = Lz (QO T (keys T key) fA 10) (keys T key) 10 16 := by rw [hT]; rfl
 have YZ := BC (T := T) hkl
 obtain ⟨W, hW⟩ : ∃ W, W = keys T key := ⟨_, rfl⟩
 rw [← hW] at hEnc YZ;refine aZ 91 func174 ?_;intro _ aa4;refine au 6 ?_;refine gj 0 (fun n' L wr => ∃ (n g6 g7 c7 g8 c8 : Nat) (w4 : aa9), L = [(6, .pointer (cf g6)), (7, .slice (cf g7) 176 c7), (8, .slice (cf g8) 16 c8), (9, .int .i64 (n : Int))] ∧ n' = 10 - n ∧ (n ≤ 10 ∧ Ext w w4 ∧ aq w4 g6 265 (dc T) ∧ Bs w4 (cf g7) 176 W ∧ Ext w4 wr ∧ Row wr w4.heap.size 5 (cf g8) 16 c8 ((QO T W fA n).map bv))) rfl ?_ ?_
 ·rintro G n' L wr ⟨n, g6, g7, c7, g8, c8, w4, rfl, rfl, _, E4, YU, YV, X, R⟩ YX
  obtain ⟨S, hS⟩ : ∃ S, S = QO T W fA n := ⟨_, rfl⟩
  rw [← hS] at R;refine au 9 ?_;refine aE (fun n' L ws => ∃ (i : Nat), L = [(6, .pointer (cf g6)), (7, .slice (cf g7) 176 c7), (8, .slice (cf g8) 16 c8), (9, .int .i64 (n : Int)), (30, .int .i64 16), (31, .int .i64 (i : Int))] ∧ n' = 16 - i ∧ (i ≤ 16 ∧ Ext w4 ws ∧ Row ws w4.heap.size 5 (cf g8) 16 c8 ((Lz S W n i).map bv))) _ _ ⟨0, rfl, rfl, Nat.zero_le _, X, R⟩ Ls ?_;rintro _ n' L ws ⟨i, rfl, rfl, hi, X, R⟩ Zc;refine au 2 ?_;refine ak (fB rfl rfl) ?_;refine au 3 ?_;refine al rfl (fun Zd => ?_) (fun Zd => ?_)
  ·refine au 10 ?_
   obtain ⟨V, hV⟩ : ∃ V, V = Lz S W n i := ⟨_, rfl⟩
   rw [← hV] at R;have HV := R.bs;have HWs := YV.wk X;refine aD Kr 14 rfl ?_; intro Ze ex Zf;obtain ⟨X,R,HV,HWs⟩ := bG ex X R HV HWs;refine dF 0 rfl (fun _ => aL rfl) ?_;refine dF 1 rfl (fun _ => aL rfl) ?_;refine dF 2 rfl (fun _ => aC rfl rfl Tn.u Kr (j := i) Om Om) ?_;refine my 3 rfl (ah rfl Tn.u rfl (lU HV (k := i) Om)) ?_;refine dF 4 rfl (fun _ => aL rfl) ?_;refine dF 5 rfl (fun _ => aL rfl) ?_;refine dF 6 rfl (fun _ => cS rfl rfl (bj Om Om)) ?_;refine dF 7 rfl (fun _ => aL rfl) ?_;refine dF 8 rfl (fun _ => aO rfl rfl (bj Om Om)) ?_;refine dF 9 rfl (fun _ => aC rfl rfl Tn.u Kr (j := 16 * n + i) Om Om) ?_;refine my 10 rfl (ah rfl Tn.u rfl (lU HWs (k := 16 * n + i) Om)) ?_;refine dF 11 rfl (fun _ => bO rfl rfl ((bJ (Ae.c8 _ _) (Ae.c8 _ _)).2.2)) ?_;refine dF 12 rfl (fun _ => aC rfl rfl Tn.u Kr (j := i) Om Om) ?_;refine aR 13 Kr ?_; refine bE rfl (kl rfl rfl rfl Kr R Om) rfl ?_;rintro _ Zg ⟨rfl, Zh, cg⟩;refine ⟨.inl rfl, ?_⟩
   have Zi := X.aw cg (R.lt).1; have Zj : Row Zg w4.heap.size 5 (cf g8) 16 c8 ((V.set i (UInt8.ofNat (cell V i ^^^ cell W (16 * n + i)))).map bv) := (by rw [List.map_set, bv, gG (x8 (Ae.c8 _ _) (Ae.c8 _ _))]; exact Zh)
   refine pE Kr ?_;refine au 4 ?_;refine ak (aO rfl rfl (bj Om Om)) ?_;refine au 2 ?_;refine ae ?_;refine Zc _ _ ⟨i + 1, rfl, rfl, Om, Zi, (by rw [Lz, ← hV]; exact Zj)⟩ Om Ls
  obtain rfl : i = 16 := Om
  obtain ⟨V, hV⟩ : ∃ V, V = Lz S W n 16 := ⟨_, rfl⟩
  rw [← hV] at R;refine au 9 ?_;refine ak (ez rfl rfl) ?_;refine au 2 ?_;refine al rfl (fun Zk => ?_) (fun Zk => ?_)
  ·refine au 9 ?_;refine bQ ?_;refine aa4 rfl rfl ?_;obtain rfl : n = 10 := Om
   exact ⟨_, c8, rfl, by rw [hEnc, ← hS, ← hV]; exact R.lower E4.size, E4.ext X⟩
  refine au 5 ?_;refine ak (aO rfl rfl (bj Om Om)) ?_;have X0 := X; have R0 := R;refine au 5 ?_;refine af (dC (n := 16) (z := .int .u8 0) (bytes := 1) rfl rfl Tn.u Kr rfl rfl rfl rfl Om Om) rfl ?_;rintro _ _ ⟨YY, rfl, Zl, YW, ex⟩;have Zm := ex; have Zn := Zl.congr (cs' := dc (List.replicate 16 0)) Kr;refine au 12 ?_;refine aE (fun n' L wq => ∃ (i : Nat), L = [(6, .pointer (cf g6)), (7, .slice (cf g7) 176 c7), (8, .slice (cf g8) 16 c8), (9, .int .i64 ((n : Int) + 1)), (11, .slice (cf YY) 16 16), (55, .int .i64 16), (56, .int .i64 (i : Int))] ∧ n' = 16 - i ∧ (i ≤ 16 ∧ Ext ws wq ∧ aq wq YY 5 (dc (Tw T V i)))) _ _ ⟨0, rfl, rfl, Nat.zero_le _, Zm, Zn⟩ Ls ?_;rintro _ n' L wq ⟨i, rfl, rfl, hi, Y, B⟩ Zo;refine au 2 ?_;refine ak (fB rfl rfl) ?_;refine au 3 ?_;refine al rfl (fun Zp => ?_) (fun Zp => ?_)
  ·have HV := R0.bs.wk Y;have TQ := (YU.ext X0).ext Y;have hxl := lx T V i;refine au 16 ?_;refine ak (cR rfl rfl Om (show _ = ((i % 4 : Nat) : Int) from WY i)) ?_;refine ak (cS rfl rfl (bj Om Om)) ?_;refine ak (aO rfl rfl (bj Om Om)) ?_;refine ak (cR rfl rfl Om (show _ = (((i + i % 4 * 4) % 16 : Nat) : Int) from Wl (i + i % 4 * 4) Om)) ?_;refine ak (aC rfl rfl Tn.u Kr (j := (i + i % 4 * 4) % 16) Om Om) ?_;refine ak (ah rfl Tn.u rfl (lU HV (k := (i + i % 4 * 4) % 16) Om)) ?_;refine ak (bM rfl rfl Tn.u Kr (j := cell V ((i + i % 4 * 4) % 16)) Om (by have := Ae.c8 V ((i + i % 4 * 4) % 16); omega)) ?_;refine ak (ah rfl Tn.u rfl (zd TQ (k := cell V ((i + i % 4 * 4) % 16)) (by rw [hTl]; exact Ae.c8 _ _))) ?_;refine ak (aC rfl rfl Tn.u Kr (j := i) Om Om) ?_;refine af (az rfl rfl rfl Kr B (by rw [aV, hxl]; omega)) rfl ?_;rintro _ _ ⟨rfl, Zq, cg⟩;have Zr := Y.aw cg YW; have Zb := Zq; rw [← gG (Ae.c8 T (cell V ((i + i % 4 * 4) % 16))), gI, Nat.zero_add] at Zb;refine au 4 ?_;refine ak (aO rfl rfl (bj Om Om)) ?_;refine au 2 ?_;refine ae ?_;refine Zo _ _ ⟨i + 1, rfl, rfl, Om, Zr, Zb⟩ Om Ls
  obtain rfl : i = 16 := Om
  obtain ⟨x, hx⟩ : ∃ x, x = Tw T V 16 := ⟨_, rfl⟩
  have hxl : x.length = 16 := by rw [hx]; exact lx _ _ _
  rw [← hx] at B;refine au 12 ?_;refine aE (fun n' L wu => ∃ (k : Nat), L = [(6, .pointer (cf g6)), (7, .slice (cf g7) 176 c7), (8, .slice (cf g8) 16 c8), (9, .int .i64 ((n : Int) + 1)), (11, .slice (cf YY) 16 16), (13, .int .i64 ((4 * k : Nat) : Int))] ∧ n' = 4 - k ∧ (k ≤ 4 ∧ (n + 1 < 10 ∨ k = 0) ∧ Ext ws wu ∧ aq wu YY 5 (dc (Vz x k)))) _ _ ⟨0, rfl, rfl, Nat.zero_le _, .inr rfl, Y, B⟩ Ls ?_;rintro _ n' L wu ⟨k, rfl, rfl, _, _, Y, B⟩ Zs;refine au 4 ?_;refine bL (fB rfl rfl) rfl (fun a1 => ?_) (fun a1 => ?_)
  ·refine au 2 ?_;refine bN 76 rfl rfl (fB rfl rfl) rfl (fun a2 => ?_) (fun a2 => ?_)
   ·refine au 3 ?_;refine bS rfl rfl ?_;have hml := jy x k;refine au 8 ?_;refine ak (aO rfl rfl (bj Om Om)) ?_;refine ak (Ui (j := 4 * k) rfl rfl rfl Tn.u Kr rfl Om Om) ?_;refine aB func227 rfl (OB _ B Om) ?_;rintro e _ ⟨rfl, Zt, ch⟩;have Zu := Y.PV ch (by simp; exact YW);refine au 6 ?_;refine ak (aO rfl rfl (bj Om Om)) ?_;refine au 2 ?_;refine ae ?_;refine Zs _ _ ⟨k + 1, rfl, rfl, Om, Om, Zu, Zt⟩ Om Ls
   refine au 3 ?_;refine bm rfl rfl ?_;have hml := jy x k;have Y0 : k = if n + 1 < 10 then 4 else 0 := by split <;> omega
   refine au 9 ?_;refine af (zS rfl rfl Tn.u Kr (R0.ext Y) ((aX B Om).2) (by rw [List.length_map]; omega) aJ) rfl ?_;rintro _ Zv ⟨rfl, Y2, cg⟩;have Y3 := (X0.ext Y).aw cg (R0.lt).1;refine au 3 ?_;refine bW ?_;refine YX _ _ ⟨n + 1, g6, g7, c7, g8, c8, w4, rfl, rfl, Om, E4, YU, YV, Y3, (by rw [QO, ← hS, ← hV, ← hx, ← Y0]; exact Y2)⟩ Om Ls
  refine au 6 ?_;refine bm rfl rfl ?_;have hml := jy x k;have Y0 : k = if n + 1 < 10 then 4 else 0 := by split <;> omega
  refine au 9 ?_;refine af (zS rfl rfl Tn.u Kr (R0.ext Y) ((aX B Om).2) (by rw [List.length_map]; omega) aJ) rfl ?_;rintro _ Zv ⟨rfl, Y2, cg⟩;have Y3 := (X0.ext Y).aw cg (R0.lt).1;refine au 3 ?_;refine bW ?_;refine YX _ _ ⟨n + 1, g6, g7, c7, g8, c8, w4, rfl, rfl, Om, E4, YU, YV, Y3, (by rw [QO, ← hS, ← hV, ← hx, ← Y0]; exact Y2)⟩ Om Ls
 intro G YX;have Zw := HA; have Zx := HB;refine au 5 ?_;refine ak (Y.as (kg rfl rfl) (congrArg Value.bool (decide_eq_false Om))) ?_;refine au 3 ?_;refine qG 17 (Y.as (kg rfl rfl) (congrArg Value.bool (decide_eq_false Om))) ?_;refine au 3 ?_;refine bm rfl rfl ?_;refine au 4 ?_;refine aB func225 rfl (Il _) ?_;rintro e _ ⟨rfl, ex⟩;refine au 1 ?_;obtain ⟨HA,HB,E⟩ := bh ex HA HB E;rw [← hT]; have Zz := E.size;refine af (dG (Z := (List.replicate 256 (.int .u8 0)).toArray) Kr) rfl ?_;rintro _ _ ⟨g6, rfl, D6, _, ex⟩;obtain ⟨HA,HB,E⟩ := bh ex HA HB E;refine af (ag rfl rfl (by rw [aV, hTl]; kernel_rfl) D6 (by rw [aV, hTl, List.size_toArray, List.length_replicate]) (mY _)) rfl ?_;rintro _ _ ⟨rfl, T6, cg⟩;replace E := E.aw cg Om; replace HA := Zw.wk E; replace HB := Zx.wk E;refine au 5 ?_;refine ak (aP rfl Tn.u rfl (by rw [aV, hTl]; kernel_rfl) T6) ?_;refine aB func226 rfl (zu _ HA hTl) ?_;rintro e w4 ⟨_, c7, rfl, R7, ex⟩;refine au 1 ?_;obtain ⟨HB,E,T6⟩ := bh ex HB E T6;rw [← hW] at R7; obtain ⟨g7, _, rfl, _⟩ := R7.get (i := 0) Om; have YV := R7.bs; have YU := T6; have E4 := E;refine au 5 ?_;refine af (aF (z := .int .u8 0) Tn.u Kr rfl rfl rfl rfl rfl) rfl ?_;rintro _ w5 ⟨g5, rfl, D5, Zy, ex⟩;replace HB := HB.ext ex;have R5 : Row w5 w4.heap.size 5 (cf g5) 0 0 [] := Row.new D5 Zy rfl (by unfold maxLen; omega); have X5 : Ext w4 w5 := ex;refine au 1 ?_;refine af (aT rfl rfl bV R5 HB.2 (by rw [List.length_map, HB.1]) aJ Om Om X5.size) rfl ?_;rintro _ _ ⟨_, c8, rfl, R8, be, _, _⟩;have X6 := X5.trans be; rw [List.nil_append] at R8; obtain ⟨g8, _, rfl, _⟩ := R8.get (i := 0) Om;refine au 8 ?_;refine dB ?_; intro ZA Za;refine iL ?_;refine ae (Za ?_);exact YX _ _ ⟨0, g6, g7, c7, g8, c8, w4, rfl, rfl, Nat.zero_le _, E4, YU, YV, X6, R8⟩ Ls
end
open Go.RowKit Tryz
attribute [local irreducible] Ef WC WF WJ WK WL WM WN WQ WR Y cu db iC rQ
section
open Ae
namespace Gm
def pv (a b : Nat) : Array Value := #[.int .u64 (a : Int), .int .u64 (b : Int)]
def pf (xs : Lb) : Nat → Nat
 | 0 => 0
 | i + 1 => if i < 8 then (pf xs i * 256 % 18446744073709551616 ||| cell xs i) else pf xs i
def ps (xs : Lb) : Nat → Nat
 | 0 => 0
 | i + 1 => if i < 8 then ps xs i else (ps xs i * 256 % 18446744073709551616 ||| cell xs i)
theorem Ce (ha : a < 18446744073709551616) (hb : b < 18446744073709551616) : a ||| b < 18446744073709551616 := Nat.or_lt_two_pow (n := 64) ha hb
theorem Ou (ha : a < 18446744073709551616) (hb : b < 18446744073709551616) : a ^^^ b < 18446744073709551616 := Nat.xor_lt_two_pow (n := 64) ha hb
theorem tu (xs : Lb) : ∀ i, pf xs i < 18446744073709551616
  | 0 => by rw [pf]; omega
  | i + 1 => by
    have := tu xs i;rw [pf]; split
    · exact Ce (Nat.mod_lt _ Om) (by have := c8 xs i; omega)
    exact this
theorem uy (xs : Lb) : ∀ i, ps xs i < 18446744073709551616
  | 0 => by rw [ps]; omega
  | i + 1 => by
    have := uy xs i;rw [ps]; split
    · exact this
    exact Ce (Nat.mod_lt _ Om) (by have := c8 xs i; omega)
theorem RP (a : Nat) : IntKind.u64.wrap ((a : Int) * 2 ^ min (8 : Int).toNat IntKind.u64.bits) = ((a * 256 % 18446744073709551616 : Nat) : Int) := by show (((a : Int) * 2 ^ 8) % 18446744073709551616 : Int) = _;omega
end Gm
open Gm
theorem NA {k : Nat} {xs : Lb} (H : Bs w (some ⟨g, o, none⟩) n xs) (h : k < n) : w.cell? ⟨g, o + k, none⟩ = some (.int .u8 ((Ae.cell xs k : Nat) : Int)) := by
 obtain ⟨b', o', e, _, hc⟩ := H.get h;injection e with e
 injection e with e1 e2 _
 subst e1; subst e2;rw [hc]; unfold Ae.cell;rw [List.getD_eq_getElem?_getD, List.getElem?_eq_getElem (by rw [H.1]; exact h)];try rfl
 try simp [bv]
theorem kK (a b c d : Nat) (ha : a < 18446744073709551616) (hb : b < 18446744073709551616) (hc : c < 18446744073709551616) (hd : d < 18446744073709551616) (w : aa9) :
  Ct 177 #[.agg (pv a b), .agg (pv c d)] w (ck w (.agg (pv (a ^^^ c) (b ^^^ d)))) := by
 have F := aI.refl [] w;refine aH (s := 2) 16 func177 rfl rfl rfl underlying220 rfl Kr rfl ?_;intro _ aa4;refine aU ?_;intro _ _ B2 _ ex;have YV := B2.lt;replace F := F.ext ex;refine aU ?_;intro _ _ B3 _ ex;have YW := B3.lt;obtain ⟨F,B2⟩ := aS ex F B2;refine aU ?_;intro _ _ B4 YU ex;replace F := F.grow ex YU;replace B2 := B2.grow ex YU;replace B3 := B3.grow ex YU;refine au 8 ?_;refine ak (bO rfl rfl ((cz ha hc).2.2)) ?_;refine au 4 ?_;refine ak (bO rfl rfl ((cz hb hd).2.2)) ?_;refine ak (aA rfl (cells := pv (a ^^^ c) (b ^^^ d)) Kr) ?_;refine aU ?_;intro _ D cg;have ex := aI.one cg;clear cg;replace F := F.bD ex;replace B4 := D; clear D;replace B4 := B4.congr (cs' := pv (a ^^^ c) (b ^^^ d)) rfl;refine aU ?_;exact aa4 rfl B4 rfl ⟨rfl, F.drop Om |>.bF (by simp)⟩
theorem lF {xs : Lb} (w : aa9) (HA : Bs w A 16 xs) :
  Ct 175 #[.slice A 16 c] w (ck w (.agg (pv (pf xs 16) (ps xs 16)))) := by
 have F := aI.refl [] w;have KA : Kp w.heap.size [] (fun w => Bs w A 16 xs) w := Kp.bs HA (by simp);obtain ⟨ga, oa, rfl, _, _⟩ := HA.get (k := 0) Om;refine aH (s := 2) 31 func175 rfl rfl rfl underlying220 rfl Kr rfl ?_;intro _ aa4;refine aU ?_;intro _ YV B2 YW ex;have Y3 := ex.size;replace F := F.grow ex YW;replace KA := KA.grow ex YW;refine aU ?_;intro _ YX B3 YU ex;have YY : YV < YX := Nat.lt_of_lt_of_le B2.lt YU;replace F := F.grow ex YU;replace KA := KA.grow ex YU;replace B2 := B2.grow ex YU;refine aU ?_;replace B2 := B2.congr (cs' := pv 0 0) rfl;replace B3 := B3.congr (cs' := pv 0 0) rfl;refine aE (fun n' L wr => ∃ (i : Nat), L = [(2, .pointer (cf YV)), (3, .pointer (cf YX)), (6, .slice (some ⟨ga, oa, none⟩) 16 c), (7, .int .i64 16), (8, .int .i64 (i : Int))] ∧ n' = 16 - i ∧ (i ≤ 16 ∧ aI [YX, YV] w wr ∧ Kp w.heap.size [YX, YV] (fun w => Bs w (some ⟨ga, oa, none⟩) 16 xs) wr ∧ aq wr YV 220 (pv 0 0) ∧ aq wr YX 220 (pv (pf xs i) (ps xs i)))) _ _ ⟨0, rfl, rfl, Nat.zero_le _, F, KA, B2, B3⟩ Ls ?_;rintro _ n' L wr ⟨i, rfl, rfl, _, F, KA, B2, B3⟩ YZ;refine aa1 (fun Y0 => ?_) (fun Y0 => ?_)
 ·refine au 7 ?_;refine ak (aC rfl rfl Tn.u Kr (j := i) Om Om) ?_;refine ak (ah rfl Tn.u rfl (show _ = some (.int .u8 ((cell xs i : Nat) : Int)) from NA KA.out (k := i) Om)) ?_;refine aa1 (fun Y2 => ?_) (fun Y2 => ?_)
  ·refine au 3 ?_;refine ak (fX rfl rfl Om (RP _)) ?_;refine au 1 ?_;refine ak (bc rfl Tn.u Tn.u (IntWalk.u64_in _ ⟨Om, by have := c8 xs i; omega⟩)) ?_;refine ak (jZ rfl rfl ((cz (Nat.mod_lt _ Om) (by have := c8 xs i; omega)).2.1)) ?_;refine aU ?_;intro _ D cg;have ex := aI.one cg;clear cg;obtain ⟨F,KA,B2⟩ := DC ex F KA B2;replace B3 := D; clear D;replace B3 := B3.congr (cs' := pv (pf xs (i + 1)) (ps xs (i + 1))) (by rw [pf, ps, if_pos Om, if_pos Om]; rfl);refine au 7 ?_;refine ae ?_;refine YZ _ _ ⟨i + 1, rfl, rfl, Om, F, KA, B2, B3⟩ Om Ls
  refine au 3 ?_;refine ak (fX rfl rfl Om (RP _)) ?_;refine au 1 ?_;refine ak (bc rfl Tn.u Tn.u (IntWalk.u64_in _ ⟨Om, by have := c8 xs i; omega⟩)) ?_;refine ak (jZ rfl rfl ((cz (Nat.mod_lt _ Om) (by have := c8 xs i; omega)).2.1)) ?_;refine aU ?_;intro _ D cg;have ex := aI.one cg;clear cg;obtain ⟨F,KA,B2⟩ := DC ex F KA B2;replace B3 := D; clear D;replace B3 := B3.congr (cs' := pv (pf xs (i + 1)) (ps xs (i + 1))) (by rw [pf, ps, if_neg Om, if_neg Om]; rfl);refine au 7 ?_;refine ae ?_;refine YZ _ _ ⟨i + 1, rfl, rfl, Om, F, KA, B2, B3⟩ Om Ls
 obtain rfl : i = 16 := Om
 refine aU ?_;intro _ D cg;have ex := aI.one cg;clear cg;replace F := F.bD ex;replace B2 := D; clear D;replace B2 := B2.congr (cs' := pv (pf xs 16) (ps xs 16)) rfl;refine aU ?_;exact aa4 rfl B2 rfl ⟨rfl, (F.drop Om).drop Om |>.bF (by simp)⟩
end
section
open Ae Gm
namespace Gm
def bit (a b n : Nat) : Nat := if n < 64 then a / 2 ^ (63 - n) % 2 else b / 2 ^ (127 - n) % 2
def qs (c d : Nat) : Nat → Nat × Nat
 | 0 => (c, d)
 | n + 1 => ((qs c d n).1 / 2 ^^^ ((qs c d n).2 % 2 * 225 * 72057594037927936 % 18446744073709551616), (qs c d n).2 / 2 ||| ((qs c d n).1 * 9223372036854775808 % 18446744073709551616))
def os (a b c d : Nat) : Nat → Nat × Nat
 | 0 => (0, 0)
 | n + 1 => if bit a b n = 1 then ((os a b c d n).1 ^^^ (qs c d n).1, (os a b c d n).2 ^^^ (qs c d n).2) else os a b c d n
def mul (a b c d : Nat) : Nat × Nat := os a b c d 128
theorem JW {c d : Nat} (hc : c < 18446744073709551616) (hd : d < 18446744073709551616) : ∀ n, (qs c d n).1 < 18446744073709551616 ∧ (qs c d n).2 < 18446744073709551616
  | 0 => ⟨hc, hd⟩
  | n + 1 => by obtain ⟨h1, h2⟩ := JW hc hd n;rw [qs];exact ⟨Ou Om (Nat.mod_lt _ Om), Ce Om (Nat.mod_lt _ Om)⟩
theorem Lj {a b c d : Nat} (hc : c < 18446744073709551616) (hd : d < 18446744073709551616) : ∀ n, (os a b c d n).1 < 18446744073709551616 ∧ (os a b c d n).2 < 18446744073709551616
  | 0 => by rw [os]; exact ⟨by show 0 < _; omega, by show 0 < _; omega⟩
  | n + 1 => by
    obtain ⟨h1, h2⟩ := JW hc hd n;obtain ⟨h3, h4⟩ := Lj (a := a) (b := b) hc hd n;rw [os]; split
    · exact ⟨Ou h3 h1, Ou h4 h2⟩
    exact ⟨h3, h4⟩
theorem Qm (a k : Nat) (hz : z = (k : Int)) (hk : k ≤ 63) : ((a : Nat) : Int) / 2 ^ min z.toNat IntKind.u64.bits = ((a / 2 ^ k : Nat) : Int) := by subst hz;rw [Int.toNat_natCast, show IntKind.u64.bits = 64 from rfl, Nat.min_eq_left Om];simp
theorem vY (x : Nat) (hx : x < 18446744073709551616) : bits .and .u64 ((x : Nat) : Int) 1 = ((x % 2 : Nat) : Int) := by have := (cz (p := x) (q := 1) hx Om).1;rw [Nat.and_one_is_mod] at this; exact this
theorem xf (a : Nat) : IntKind.u64.wrap ((a : Int) * 2 ^ min (63 : Int).toNat IntKind.u64.bits) = ((a * 9223372036854775808 % 18446744073709551616 : Nat) : Int) := by show (((a : Int) * 2 ^ 63) % 18446744073709551616 : Int) = _;omega
theorem xS (a : Nat) : IntKind.u64.wrap ((a : Int) * 2 ^ min (56 : Int).toNat IntKind.u64.bits) = ((a * 72057594037927936 % 18446744073709551616 : Nat) : Int) := by show (((a : Int) * 2 ^ 56) % 18446744073709551616 : Int) = _;omega
theorem rv (a : Nat) : ((a : Nat) : Int) / 2 ^ min (1 : Int).toNat IntKind.u64.bits = ((a / 2 : Nat) : Int) := by show ((a : Int) / 2 ^ 1 : Int) = _;omega
end Gm
theorem oL (a b c d : Nat) (ha : a < 18446744073709551616) (hb : b < 18446744073709551616) (hc : c < 18446744073709551616) (hd : d < 18446744073709551616) (w : aa9) :
  Ct 178 #[.agg (pv a b), .agg (pv c d)] w (ck w (.agg (pv (Gm.mul a b c d).1 (Gm.mul a b c d).2))) := by
 have F := aI.refl [] w;refine aH (s := 2) 61 func178 rfl rfl rfl underlying220 rfl Kr rfl ?_;intro _ aa4;refine au 2 ?_;refine af (mw rfl rfl) rfl ?_;rintro _ _ ⟨Ze, rfl, B2, _, ex⟩;have Zn := B2.lt; have Zo := ex.size;replace F := F.ext ex;refine af (mw rfl rfl) rfl ?_;rintro _ _ ⟨Y3, rfl, B3, Zc, ex⟩;replace F := F.grow ex Zc;replace B2 := B2.grow ex Zc;refine af (dG (Z := #[.int .u64 0, .int .u64 0]) Kr) rfl ?_;rintro _ _ ⟨Y0, rfl, B4, YZ, ex⟩;have Zi : Y3 < Y0 := Nat.lt_of_lt_of_le B3.lt YZ;replace F := F.grow ex YZ;replace B2 := B2.grow ex YZ;replace B3 := B3.grow ex YZ;refine au 2 ?_;refine gj 0 (fun n' L wr => ∃ (n YW : Nat), L = [(2, .pointer (cf Ze)), (3, .pointer (cf Y3)), (4, .pointer (cf Y0)), (5, .pointer (cf YW)), (6, .int .i64 (n : Int))] ∧ n' = 127 - n ∧ (n ≤ 127 ∧ Ze < Y3 ∧ Y3 < Y0 ∧ Y0 < YW ∧ w.heap.size ≤ Ze ∧ aI [YW, Y0, Y3] w wr ∧ aq wr Ze 220 (pv a b) ∧ aq wr Y3 220 (pv (qs c d n).1 (qs c d n).2) ∧ aq wr Y0 220 (pv 0 0) ∧ aq wr YW 220 (pv (os a b c d n).1 (os a b c d n).2))) rfl ?_ ?_
 ·rintro G n' L wr ⟨n, YW, rfl, rfl, _, Zf, n34, n45, Zg, F, B2, B3, B4, B5⟩ Za;obtain ⟨Zj, Zb⟩ := JW hc hd n;obtain ⟨Zk, Zl⟩ := Lj (a := a) (b := b) hc hd n;refine au 4 ?_;refine bL (fB rfl rfl) rfl (fun a1 => ?_) (fun a1 => ?_)
  ·refine au 1 ?_;refine qG 10 (eW 0 1 0 0 Tn.u) ?_;refine qG 10 (ah rfl Tn.u rfl (B2.get (i := 0) rfl)) ?_;refine au 1 ?_;refine qG 10 (fG rfl rfl (bj Om Om)) ?_;refine qG 10 (cn rfl rfl Om (Qm a (63 - n) Om Om)) ?_;refine qG 10 (cT rfl rfl (vY _ (Nat.lt_of_le_of_lt (Nat.div_le_self _ _) ha))) ?_;refine bN 10 rfl rfl (ez rfl rfl) rfl (fun b1 => ?_) (fun b1 => ?_)
   ·refine au 5 ?_;refine fO 22 rfl rfl rfl ?_;refine fO 22 rfl rfl rfl ?_;refine fO 22 rfl rfl rfl ?_;refine fO 22 rfl rfl rfl ?_;refine fO 22 rfl rfl rfl ?_;refine fO 22 rfl rfl rfl ?_;refine fO 22 rfl rfl rfl ?_;refine au 4 ?_;refine bS rfl rfl ?_;refine au 1 ?_;refine ak (aP rfl Tn.u rfl Kr B5) ?_;refine ak (aP rfl Tn.u rfl Kr B3) ?_;refine aB func177 rfl (kK _ _ _ _ Zk Zl Zj Zb _) ?_;rintro e w4 ⟨rfl, ex⟩;obtain ⟨F,B2,B3,B4,B5⟩ := fR ex F B2 B3 B4 B5;refine au 1 ?_;refine af (bI (o := 0) rfl rfl Kr B5 Nb (bu rfl)) rfl ?_;rintro _ Zd ⟨rfl, D, cg⟩;have ex := aI.one cg;clear cg;obtain ⟨F,B2,B3,B4⟩ := j6 ex F B2 B3 B4;replace B5 := D; clear D;replace B5 := B5.congr (cs' := pv ((os a b c d n).1 ^^^ (qs c d n).1) ((os a b c d n).2 ^^^ (qs c d n).2)) rfl;have hbit : bit a b n = 1 := by unfold bit; rw [if_pos Om]; omega
    replace B5 := B5.congr (cs' := pv (os a b c d (n + 1)).1 (os a b c d (n + 1)).2) (by rw [os, if_pos hbit]);refine au 4 ?_;refine ak (eW 1 1 0 1 Tn.u) ?_;refine ak (ah rfl Tn.u rfl (B3.get (i := 1) rfl)) ?_;refine ak (cT rfl rfl (vY _ Zb)) ?_;refine au 5 ?_;refine ak (eW 0 1 0 0 Tn.u) ?_;refine ak (ah rfl Tn.u rfl (B3.get (i := 0) rfl)) ?_;refine ak (cn rfl rfl Om (rv _)) ?_;refine ak (eW 1 1 0 1 Tn.u) ?_;refine ak (ah rfl Tn.u rfl (B3.get (i := 1) rfl)) ?_;refine ak (cn rfl rfl Om (rv _)) ?_;refine ak (eW 0 1 0 0 Tn.u) ?_;refine ak (ah rfl Tn.u rfl (B3.get (i := 0) rfl)) ?_;refine ak (fX rfl rfl Om (xf _)) ?_;refine ak (jZ rfl rfl ((cz Om (Nat.mod_lt _ Om)).2.1)) ?_;refine ak (aA rfl (cells := pv ((qs c d n).1 / 2) ((qs c d n).2 / 2 ||| ((qs c d n).1 * 9223372036854775808 % 18446744073709551616))) Kr) ?_;refine af (bI (o := 0) rfl rfl Kr B3 Nb (bu rfl)) rfl ?_;rintro _ YU ⟨rfl, D, cg⟩;have ex := aI.one cg;clear cg;obtain ⟨F,B2,B4,B5⟩ := j6 ex F B2 B4 B5;replace B3 := D; clear D;replace B3 := B3.congr (cs' := pv ((qs c d n).1 / 2) ((qs c d n).2 / 2 ||| ((qs c d n).1 * 9223372036854775808 % 18446744073709551616))) rfl;refine au 4 ?_;refine ak (eW 0 1 0 0 Tn.u) ?_;refine ak (ah rfl Tn.u rfl (B3.get (i := 0) rfl)) ?_;refine au 1 ?_;refine ak (cS rfl rfl (show _ = (((qs c d n).2 % 2 * 225 : Nat) : Int) from IntWalk.u64_in _ ⟨Om, Om⟩)) ?_;refine ak (fX rfl rfl Om (xS _)) ?_;refine ak (bO rfl rfl ((cz Om (Nat.mod_lt _ Om)).2.2)) ?_;refine ak (eW 0 1 0 0 Tn.u) ?_;refine af (az (i := 0) rfl rfl rfl Kr B3 Nb) rfl ?_;rintro _ YX ⟨rfl, D, cg⟩;have ex := aI.one cg;clear cg;obtain ⟨F,B2,B4,B5⟩ := j6 ex F B2 B4 B5;replace B3 := D; clear D;replace B3 := B3.congr (cs' := pv (qs c d (n + 1)).1 (qs c d (n + 1)).2) rfl;refine au 6 ?_;refine ak (aO rfl rfl (bj Om Om)) ?_;refine au 6 ?_;refine ak (fB rfl rfl) ?_;refine au 2 ?_;refine al rfl (fun Y2 => ?_) (fun Y2 => ?_)
    ·refine au 2 ?_;refine bW ?_;refine Za _ _ ⟨n + 1, YW, rfl, rfl, Om, Zf, n34, n45, Zg, F, B2, B3, B4, B5⟩ Om Ls
    obtain rfl : n = 127 := Om
    refine au 4 ?_;refine ak (aP rfl Tn.u rfl Kr B5) ?_;refine af (bI (o := 0) rfl rfl Kr B4 Nb (bu rfl)) rfl ?_;rintro _ YV ⟨rfl, D, cg⟩;have ex := aI.one cg;clear cg;replace F := F.bD ex;replace B4 := D; clear D;replace B4 := B4.congr (cs' := pv (os a b c d 128).1 (os a b c d 128).2) rfl;refine au 3 ?_;refine bQ ?_;exact aa4 rfl B4 rfl ⟨rfl, ((F.drop Om).drop Om).drop Om |>.bF (by simp)⟩
   refine au 3 ?_;refine qG 19 (Y.as (yI rfl rfl) (congrArg Value.bool (decide_eq_false Om))) ?_;refine au 12 ?_;refine bm rfl rfl ?_;have hbit : ¬ bit a b n = 1 := by unfold bit; rw [if_pos Om]; omega
   replace B5 := B5.congr (cs' := pv (os a b c d (n + 1)).1 (os a b c d (n + 1)).2) (by rw [os, if_neg hbit]);refine au 4 ?_;refine ak (eW 1 1 0 1 Tn.u) ?_;refine ak (ah rfl Tn.u rfl (B3.get (i := 1) rfl)) ?_;refine ak (cT rfl rfl (vY _ Zb)) ?_;refine au 5 ?_;refine ak (eW 0 1 0 0 Tn.u) ?_;refine ak (ah rfl Tn.u rfl (B3.get (i := 0) rfl)) ?_;refine ak (cn rfl rfl Om (rv _)) ?_;refine ak (eW 1 1 0 1 Tn.u) ?_;refine ak (ah rfl Tn.u rfl (B3.get (i := 1) rfl)) ?_;refine ak (cn rfl rfl Om (rv _)) ?_;refine ak (eW 0 1 0 0 Tn.u) ?_;refine ak (ah rfl Tn.u rfl (B3.get (i := 0) rfl)) ?_;refine ak (fX rfl rfl Om (xf _)) ?_;refine ak (jZ rfl rfl ((cz Om (Nat.mod_lt _ Om)).2.1)) ?_;refine ak (aA rfl (cells := pv ((qs c d n).1 / 2) ((qs c d n).2 / 2 ||| ((qs c d n).1 * 9223372036854775808 % 18446744073709551616))) Kr) ?_;refine af (bI (o := 0) rfl rfl Kr B3 Nb (bu rfl)) rfl ?_;rintro _ YU ⟨rfl, D, cg⟩;have ex := aI.one cg;clear cg;obtain ⟨F,B2,B4,B5⟩ := j6 ex F B2 B4 B5;replace B3 := D; clear D;replace B3 := B3.congr (cs' := pv ((qs c d n).1 / 2) ((qs c d n).2 / 2 ||| ((qs c d n).1 * 9223372036854775808 % 18446744073709551616))) rfl;refine au 4 ?_;refine ak (eW 0 1 0 0 Tn.u) ?_;refine ak (ah rfl Tn.u rfl (B3.get (i := 0) rfl)) ?_;refine au 1 ?_;refine ak (cS rfl rfl (show _ = (((qs c d n).2 % 2 * 225 : Nat) : Int) from IntWalk.u64_in _ ⟨Om, Om⟩)) ?_;refine ak (fX rfl rfl Om (xS _)) ?_;refine ak (bO rfl rfl ((cz Om (Nat.mod_lt _ Om)).2.2)) ?_;refine ak (eW 0 1 0 0 Tn.u) ?_;refine af (az (i := 0) rfl rfl rfl Kr B3 Nb) rfl ?_;rintro _ YX ⟨rfl, D, cg⟩;have ex := aI.one cg;clear cg;obtain ⟨F,B2,B4,B5⟩ := j6 ex F B2 B4 B5;replace B3 := D; clear D;replace B3 := B3.congr (cs' := pv (qs c d (n + 1)).1 (qs c d (n + 1)).2) rfl;refine au 6 ?_;refine ak (aO rfl rfl (bj Om Om)) ?_;refine au 6 ?_;refine ak (fB rfl rfl) ?_;refine au 2 ?_;refine al rfl (fun Y2 => ?_) (fun Y2 => ?_)
   ·refine au 2 ?_;refine bW ?_;refine Za _ _ ⟨n + 1, YW, rfl, rfl, Om, Zf, n34, n45, Zg, F, B2, B3, B4, B5⟩ Om Ls
   obtain rfl : n = 127 := Om
   refine au 4 ?_;refine ak (aP rfl Tn.u rfl Kr B5) ?_;refine af (bI (o := 0) rfl rfl Kr B4 Nb (bu rfl)) rfl ?_;rintro _ YV ⟨rfl, D, cg⟩;have ex := aI.one cg;clear cg;replace F := F.bD ex;replace B4 := D; clear D;replace B4 := B4.congr (cs' := pv (os a b c d 128).1 (os a b c d 128).2) rfl;refine au 3 ?_;refine bQ ?_;exact aa4 rfl B4 rfl ⟨rfl, ((F.drop Om).drop Om).drop Om |>.bF (by simp)⟩
  refine au 11 ?_;refine qG 19 (Y.as (yI rfl rfl) (congrArg Value.bool (decide_eq_true Om))) ?_;refine au 1 ?_;refine qG 22 (eW 1 1 0 1 Tn.u) ?_;refine qG 22 (ah rfl Tn.u rfl (B2.get (i := 1) rfl)) ?_;refine au 1 ?_;refine qG 22 (fG rfl rfl (bj Om Om)) ?_;refine qG 22 (cn rfl rfl Om (Qm b (127 - n) Om Om)) ?_;refine qG 22 (cT rfl rfl (vY _ (Nat.lt_of_le_of_lt (Nat.div_le_self _ _) hb))) ?_;refine bN 22 rfl rfl (ez rfl rfl) rfl (fun b2 => ?_) (fun b2 => ?_)
  ·refine au 4 ?_;refine bS rfl rfl ?_;refine au 1 ?_;refine ak (aP rfl Tn.u rfl Kr B5) ?_;refine ak (aP rfl Tn.u rfl Kr B3) ?_;refine aB func177 rfl (kK _ _ _ _ Zk Zl Zj Zb _) ?_;rintro e w4 ⟨rfl, ex⟩;obtain ⟨F,B2,B3,B4,B5⟩ := fR ex F B2 B3 B4 B5;refine au 1 ?_;refine af (bI (o := 0) rfl rfl Kr B5 Nb (bu rfl)) rfl ?_;rintro _ Zd ⟨rfl, D, cg⟩;have ex := aI.one cg;clear cg;obtain ⟨F,B2,B3,B4⟩ := j6 ex F B2 B3 B4;replace B5 := D; clear D;replace B5 := B5.congr (cs' := pv ((os a b c d n).1 ^^^ (qs c d n).1) ((os a b c d n).2 ^^^ (qs c d n).2)) rfl;have hbit : bit a b n = 1 := by unfold bit; rw [if_neg Om]; omega
   replace B5 := B5.congr (cs' := pv (os a b c d (n + 1)).1 (os a b c d (n + 1)).2) (by rw [os, if_pos hbit]);refine au 4 ?_;refine ak (eW 1 1 0 1 Tn.u) ?_;refine ak (ah rfl Tn.u rfl (B3.get (i := 1) rfl)) ?_;refine ak (cT rfl rfl (vY _ Zb)) ?_;refine au 5 ?_;refine ak (eW 0 1 0 0 Tn.u) ?_;refine ak (ah rfl Tn.u rfl (B3.get (i := 0) rfl)) ?_;refine ak (cn rfl rfl Om (rv _)) ?_;refine ak (eW 1 1 0 1 Tn.u) ?_;refine ak (ah rfl Tn.u rfl (B3.get (i := 1) rfl)) ?_;refine ak (cn rfl rfl Om (rv _)) ?_;refine ak (eW 0 1 0 0 Tn.u) ?_;refine ak (ah rfl Tn.u rfl (B3.get (i := 0) rfl)) ?_;refine ak (fX rfl rfl Om (xf _)) ?_;refine ak (jZ rfl rfl ((cz Om (Nat.mod_lt _ Om)).2.1)) ?_;refine ak (aA rfl (cells := pv ((qs c d n).1 / 2) ((qs c d n).2 / 2 ||| ((qs c d n).1 * 9223372036854775808 % 18446744073709551616))) Kr) ?_;refine af (bI (o := 0) rfl rfl Kr B3 Nb (bu rfl)) rfl ?_;rintro _ YU ⟨rfl, D, cg⟩;have ex := aI.one cg;clear cg;obtain ⟨F,B2,B4,B5⟩ := j6 ex F B2 B4 B5;replace B3 := D; clear D;replace B3 := B3.congr (cs' := pv ((qs c d n).1 / 2) ((qs c d n).2 / 2 ||| ((qs c d n).1 * 9223372036854775808 % 18446744073709551616))) rfl;refine au 4 ?_;refine ak (eW 0 1 0 0 Tn.u) ?_;refine ak (ah rfl Tn.u rfl (B3.get (i := 0) rfl)) ?_;refine au 1 ?_;refine ak (cS rfl rfl (show _ = (((qs c d n).2 % 2 * 225 : Nat) : Int) from IntWalk.u64_in _ ⟨Om, Om⟩)) ?_;refine ak (fX rfl rfl Om (xS _)) ?_;refine ak (bO rfl rfl ((cz Om (Nat.mod_lt _ Om)).2.2)) ?_;refine ak (eW 0 1 0 0 Tn.u) ?_;refine af (az (i := 0) rfl rfl rfl Kr B3 Nb) rfl ?_;rintro _ YX ⟨rfl, D, cg⟩;have ex := aI.one cg;clear cg;obtain ⟨F,B2,B4,B5⟩ := j6 ex F B2 B4 B5;replace B3 := D; clear D;replace B3 := B3.congr (cs' := pv (qs c d (n + 1)).1 (qs c d (n + 1)).2) rfl;refine au 6 ?_;refine ak (aO rfl rfl (bj Om Om)) ?_;refine au 6 ?_;refine ak (fB rfl rfl) ?_;refine au 2 ?_;refine al rfl (fun Y2 => ?_) (fun Y2 => ?_)
   ·refine au 2 ?_;refine bW ?_;refine Za _ _ ⟨n + 1, YW, rfl, rfl, Om, Zf, n34, n45, Zg, F, B2, B3, B4, B5⟩ Om Ls
   obtain rfl : n = 127 := Om
   refine au 4 ?_;refine ak (aP rfl Tn.u rfl Kr B5) ?_;refine af (bI (o := 0) rfl rfl Kr B4 Nb (bu rfl)) rfl ?_;rintro _ YV ⟨rfl, D, cg⟩;have ex := aI.one cg;clear cg;replace F := F.bD ex;replace B4 := D; clear D;replace B4 := B4.congr (cs' := pv (os a b c d 128).1 (os a b c d 128).2) rfl;refine au 3 ?_;refine bQ ?_;exact aa4 rfl B4 rfl ⟨rfl, ((F.drop Om).drop Om).drop Om |>.bF (by simp)⟩
  refine au 4 ?_;refine bm rfl rfl ?_;have hbit : ¬ bit a b n = 1 := by unfold bit; rw [if_neg Om]; omega
  replace B5 := B5.congr (cs' := pv (os a b c d (n + 1)).1 (os a b c d (n + 1)).2) (by rw [os, if_neg hbit]);refine au 4 ?_;refine ak (eW 1 1 0 1 Tn.u) ?_;refine ak (ah rfl Tn.u rfl (B3.get (i := 1) rfl)) ?_;refine ak (cT rfl rfl (vY _ Zb)) ?_;refine au 5 ?_;refine ak (eW 0 1 0 0 Tn.u) ?_;refine ak (ah rfl Tn.u rfl (B3.get (i := 0) rfl)) ?_;refine ak (cn rfl rfl Om (rv _)) ?_;refine ak (eW 1 1 0 1 Tn.u) ?_;refine ak (ah rfl Tn.u rfl (B3.get (i := 1) rfl)) ?_;refine ak (cn rfl rfl Om (rv _)) ?_;refine ak (eW 0 1 0 0 Tn.u) ?_;refine ak (ah rfl Tn.u rfl (B3.get (i := 0) rfl)) ?_;refine ak (fX rfl rfl Om (xf _)) ?_;refine ak (jZ rfl rfl ((cz Om (Nat.mod_lt _ Om)).2.1)) ?_;refine ak (aA rfl (cells := pv ((qs c d n).1 / 2) ((qs c d n).2 / 2 ||| ((qs c d n).1 * 9223372036854775808 % 18446744073709551616))) Kr) ?_;refine af (bI (o := 0) rfl rfl Kr B3 Nb (bu rfl)) rfl ?_;rintro _ YU ⟨rfl, D, cg⟩;have ex := aI.one cg;clear cg;obtain ⟨F,B2,B4,B5⟩ := j6 ex F B2 B4 B5;replace B3 := D; clear D;replace B3 := B3.congr (cs' := pv ((qs c d n).1 / 2) ((qs c d n).2 / 2 ||| ((qs c d n).1 * 9223372036854775808 % 18446744073709551616))) rfl;refine au 4 ?_;refine ak (eW 0 1 0 0 Tn.u) ?_;refine ak (ah rfl Tn.u rfl (B3.get (i := 0) rfl)) ?_;refine au 1 ?_;refine ak (cS rfl rfl (show _ = (((qs c d n).2 % 2 * 225 : Nat) : Int) from IntWalk.u64_in _ ⟨Om, Om⟩)) ?_;refine ak (fX rfl rfl Om (xS _)) ?_;refine ak (bO rfl rfl ((cz Om (Nat.mod_lt _ Om)).2.2)) ?_;refine ak (eW 0 1 0 0 Tn.u) ?_;refine af (az (i := 0) rfl rfl rfl Kr B3 Nb) rfl ?_;rintro _ YX ⟨rfl, D, cg⟩;have ex := aI.one cg;clear cg;obtain ⟨F,B2,B4,B5⟩ := j6 ex F B2 B4 B5;replace B3 := D; clear D;replace B3 := B3.congr (cs' := pv (qs c d (n + 1)).1 (qs c d (n + 1)).2) rfl;refine au 6 ?_;refine ak (aO rfl rfl (bj Om Om)) ?_;refine au 6 ?_;refine ak (fB rfl rfl) ?_;refine au 2 ?_;refine al rfl (fun Y2 => ?_) (fun Y2 => ?_)
  ·refine au 2 ?_;refine bW ?_;refine Za _ _ ⟨n + 1, YW, rfl, rfl, Om, Zf, n34, n45, Zg, F, B2, B3, B4, B5⟩ Om Ls
  obtain rfl : n = 127 := Om
  refine au 4 ?_;refine ak (aP rfl Tn.u rfl Kr B5) ?_;refine af (bI (o := 0) rfl rfl Kr B4 Nb (bu rfl)) rfl ?_;rintro _ YV ⟨rfl, D, cg⟩;have ex := aI.one cg;clear cg;replace F := F.bD ex;replace B4 := D; clear D;replace B4 := B4.congr (cs' := pv (os a b c d 128).1 (os a b c d 128).2) rfl;refine au 3 ?_;refine bQ ?_;exact aa4 rfl B4 rfl ⟨rfl, ((F.drop Om).drop Om).drop Om |>.bF (by simp)⟩
 intro G Za;refine au 2 ?_;refine af (dG (Z := #[.int .u64 0, .int .u64 0]) Kr) rfl ?_;rintro _ _ ⟨YW, rfl, B5, YY, ex⟩;have Zm : Y0 < YW := Nat.lt_of_lt_of_le B4.lt YY;replace F := F.grow ex YY;replace B2 := B2.grow ex YY;replace B3 := B3.grow ex YY;replace B4 := B4.grow ex YY;refine au 7 ?_;refine dB ?_; intro Zp Zh;refine iL ?_;refine ae (Zh ?_);exact Za _ _ ⟨0, YW, rfl, rfl, Nat.zero_le _, Om, Om, Om, Om, F, B2, B3, B4, B5⟩ Ls
namespace Gm
def pb (a b : Nat) : Nat → List UInt8
 | 0 => List.replicate 16 0
 | i + 1 => ((pb a b i).set i (UInt8.ofNat (a / 2 ^ (56 - 8 * i)))).set (8 + i) (UInt8.ofNat (b / 2 ^ (56 - 8 * i)))
theorem nk (a b : Nat) : ∀ i, (pb a b i).length = 16
 | 0 => by rw [pb, List.length_replicate]
 | i + 1 => by rw [pb, List.length_set, List.length_set, nk a b i]
theorem vo (x : Nat) : IntKind.u8.wrap ((x : Nat) : Int) = ((UInt8.ofNat x).toNat : Int) := by rw [IntKind.wrap_u8', UInt8.toNat_ofNat']; omega
end Gm
theorem El (a b : Nat) (w : aa9) :
  Ct 180 #[.agg (pv a b)] w fun e w' => ∃ g, e = .returned (.slice (cf g) 16 16) ∧ w.heap.size ≤ g ∧ aq w' g 5 (dc (pb a b 8)) ∧ Ext w w' := by
 have F := aI.refl [] w;refine ai 32 func180 ?_;intro _ aa4;refine aU ?_;intro _ YU B1 _ ex;have YX := B1.lt;replace F := F.ext ex;refine aU ?_;refine af (dC (n := 16) (z := .int .u8 0) (bytes := 1) rfl rfl Tn.u Kr rfl rfl rfl rfl Om Om) rfl ?_;rintro _ w1 ⟨g3, rfl, D3, _, ex⟩;obtain ⟨F,B1⟩ := aS ex F B1;have FF : aI [g3] w w1 := F.mono (by simp); have BT := D3.congr (cs' := dc (List.replicate 16 0)) Kr;refine aU ?_;refine aE (fun n' L wr => ∃ (i : Nat), L = [(1, .pointer (cf YU)), (3, .slice (cf g3) 16 16), (6, .int .i64 (i : Int))] ∧ n' = 8 - i ∧ (i ≤ 8 ∧ aI [g3] w wr ∧ aq wr YU 220 (pv a b) ∧ aq wr g3 5 (dc (pb a b i)))) _ _ ⟨0, rfl, rfl, Nat.zero_le _, FF, B1, BT⟩ Ls ?_;rintro _ n' L wr ⟨i, rfl, rfl, _, F, B1, BT⟩ YV;refine aa1 (fun YW => ?_) (fun YW => ?_)
 ·refine aU ?_;have hbl := nk a b i;refine jH [(20, [g3]), (22, [g3])] Kr 23 rfl ?_; intro YY ex YZ;obtain ⟨F,B1,BT⟩ := bh ex F B1 BT;refine zr [(0, []), (1, []), (2, [20]), (3, [20]), (4, [20]), (5, []), (6, []), (7, []), (8, []), (9, [])] ?_;refine aU ?_;refine uM 10 [] rfl (fun wr (cr : aI ([]) _ wr) => cn rfl rfl Om (Qm a (56 - 8 * i) Om Om)) ?_;refine uM 11 [] rfl (fun wr (cr : aI ([]) _ wr) => bc rfl Tn.u Tn.u (vo _)) ?_;refine zr [(12, [20]), (13, [20]), (14, [20]), (15, [20]), (16, [20])] ?_;refine aU ?_;refine uM 17 [20] rfl (fun wr (cr : aI ([g3]) _ wr) => cn rfl rfl Om (Qm b (56 - 8 * i) Om Om)) ?_;refine uM 18 [20] rfl (fun wr (cr : aI ([g3]) _ wr) => bc rfl Tn.u Tn.u (vo _)) ?_;refine uM 19 [] rfl (fun wr (cr : aI ([]) _ wr) => aC rfl rfl Tn.u Kr (j := i) Om Om) ?_;refine fm 20 Kr ?_; refine iF rfl (az rfl rfl rfl Kr BT (by simp only [aV, List.length_set]; omega)) rfl ?_;rintro _ _ ⟨rfl, DA, cg⟩;have ex := aI.one cg;refine ⟨ex, ?_⟩;clear cg; rw [gI, Nat.zero_add] at DA;obtain ⟨F,B1⟩ := jT ex F B1;have BT := DA;refine uM 21 [] rfl (fun wr (cr : aI ([]) _ wr) => aC rfl rfl Tn.u Kr (j := 8 + i) Om Om) ?_;refine fm 22 Kr ?_; refine iF rfl (az rfl rfl rfl Kr BT (by simp only [aV, List.length_set]; omega)) rfl ?_;rintro _ _ ⟨rfl, DB, cg⟩;have ex := aI.one cg;refine ⟨ex, ?_⟩;clear cg; rw [gI, Nat.zero_add] at DB;obtain ⟨F,B1⟩ := jT ex F B1;have BT := DB;refine jR Kr ?_;refine au 7 ?_;refine ae ?_;refine YV _ _ ⟨i + 1, rfl, rfl, Om, F, B1, (by rw [pb]; first | exact BT | (rw [List.set_comm _ _ Om]; exact BT))⟩ Om Ls
 refine aU ?_;refine aa4 rfl ?_;obtain rfl : i = 8 := Om
 exact ⟨g3, rfl, Om, BT, F.drop Om |>.bF (by simp)⟩
namespace Gm
def XT (nn : Lb) (n : Nat) : List UInt8 := nn ++ [UInt8.ofNat (n / 16777216), UInt8.ofNat (n / 65536), UInt8.ofNat (n / 256), UInt8.ofNat n]
def Ck (key nn : Lb) (n : Nat) : List UInt8 := enc key (XT nn n)
theorem YF (n : Nat) : ((n : Nat) : Int) / 2 ^ min (24 : Int).toNat IntKind.u32.bits = ((n / 16777216 : Nat) : Int) := by show ((n : Int) / 2 ^ 24 : Int) = _;omega
theorem YI (n : Nat) : ((n : Nat) : Int) / 2 ^ min (16 : Int).toNat IntKind.u32.bits = ((n / 65536 : Nat) : Int) := by show ((n : Int) / 2 ^ 16 : Int) = _;omega
theorem XN (n : Nat) : ((n : Nat) : Int) / 2 ^ min (8 : Int).toNat IntKind.u32.bits = ((n / 256 : Nat) : Int) := by show ((n : Int) / 2 ^ 8 : Int) = _;omega
end Gm
theorem vl {B : Oa} {d : Nat} (w : aa9) (HA : Bs w A 16 key) (HB : Bs w B 12 nn) :
  Ct 179 #[.slice A 16 c, .slice B 12 d, .int .u32 (n : Int)] w fun e w' => ∃ A' c', e = .returned (.slice A' 16 c') ∧ Row w' w.heap.size 5 A' 16 c' ((Ck key nn n).map bv) ∧ Ext w w' := by
 have E := Ext.refl w;have YU := HA;refine ai 30 func179 ?_;intro _ aa4;refine aU ?_;refine aB func181 rfl (kF B 12 d nn _ HB Om) ?_;rintro e w1 ⟨A1, c1, rfl, O1, ex⟩;replace E := E.ext ex;have R1 : Row w1 w.heap.size 5 A1 12 c1 (nn.map bv) := O1;refine au 2 ?_;refine ak (cn rfl rfl Om (YF n)) ?_;refine ak (bc rfl Tn.u Tn.u (vo _)) ?_;refine au 1 ?_;refine ak (cn rfl rfl Om (YI n)) ?_;refine ak (bc rfl Tn.u Tn.u (vo _)) ?_;refine au 1 ?_;refine ak (cn rfl rfl Om (XN n)) ?_;refine ak (bc rfl Tn.u Tn.u (vo _)) ?_;refine au 1 ?_;refine ak (bc rfl Tn.u Tn.u (vo _)) ?_;refine af (aF (z := .int .u8 0) Tn.u Kr rfl rfl rfl rfl rfl) rfl ?_;rintro _ _ ⟨_, rfl, D2, _, ex⟩;obtain ⟨E,R1⟩ := aS ex E R1;have YV := E.size;refine af (aT rfl rfl bV R1 (At.fA (vs := [UInt8.ofNat (n / 16777216), UInt8.ofNat (n / 65536), UInt8.ofNat (n / 256), UInt8.ofNat n].map bv) (D2.congr (by rfl))) rfl aJ Om Om YV) rfl ?_;rintro _ w3 ⟨A3, _, rfl, R3, be, _, _⟩;have E3 := E.trans be; have R4 := R3.cat; have H4 : Bs w3 A3 16 (XT nn n) := R4.bs; have YW := YU.wk E3;refine aB func174 rfl (tV _ YW H4) ?_;rintro e _ ⟨A5, c5, rfl, R5, ex⟩;have E4 := E3.ext ex;refine aU ?_;exact aa4 rfl ⟨A5, c5, rfl, R5.lower E3.size, E4⟩
end
def jY (g off K T j : Nat) : Value := .slice (some ⟨g, off + K * j, none⟩) (min K (T - K * j)) (min K (T - K * j))
theorem DU (n l g off c K T m b1 b2 : Nat) (A : Oa) (J Jx : List (Fin m) → aa9 → Prop) (w : aa9) (hK : 1 ≤ K) (hA : 0 < T → A = some ⟨g, off, none⟩) (hc : T ≤ c) (hm : K * m ≤ 70368744177664) (hT : T ≤ K * m) (hj : ∀ j, j < m → K * j < T) (hab : AbidesFrom w.heap.size J)
  (C1 : aq w b1 23 #[.slice A T c]) (C2 : aq w b2 3 #[.int .i64 (K : Int)])
  (hY : ∀ pre x W1, J pre W1 → pre.length < m → YieldAt Fence.wide (n - 1) Tryz.prog l #[jY g off K T x.val] W1 fun e W' => (e = .returned (.bool true) ∧ J (pre ++ [x]) W' ∧ xn b1 b2 W1 W') ∨ (e = .returned (.bool false) ∧ Jx (pre ++ [x]) W'))
  (h0 : J [] w) :
  Ct 228 #[.func (.yield l) #[] #[], .pointer (cf b1), .pointer (cf b2)] w fun e W' => (∃ v, e = .returned v) ∧ ((∃ xs, xs = List.finRange m ∧ J xs W') ∨ (∃ pre : List (Fin m), True ∧ Jx pre W')) := by
 refine eX 31 func228 ?_;intro _ aa4;refine aU ?_;refine aE (fun n' L wr => ∃ i : Nat, L = [(0, .func (.yield l) #[] #[]), (1, .pointer (cf b1)), (2, .pointer (cf b2)), (4, .int .i64 ((K * i : Nat) : Int))] ∧ n' = m - i ∧ (i ≤ m ∧ J ((List.finRange m).take i) wr ∧ aq wr b1 23 #[.slice A T c] ∧ aq wr b2 3 #[.int .i64 (K : Int)])) _ _ ⟨0, rfl, rfl, Om, h0, C1, C2⟩ Ls ?_;rintro _ n' L wr ⟨i, rfl, rfl, _, hJ, D1, D2⟩ YV;refine aa1 (fun YW => ?_) (fun YW => ?_)
 ·have hlt : i < m := by
   rcases Nat.lt_or_ge i m with h | h
   ·exact h
   obtain rfl : i = m := Om
   omega
  have hge : K * i + K ≤ K * m := by rw [← Nat.mul_succ]; exact Nat.mul_le_mul_left _ hlt
  obtain rfl := hA Om
  obtain ⟨e, he⟩ : ∃ e, e = min K (T - K * i) := ⟨_, rfl⟩
  have YY : 1 ≤ e := Om
  have YZ : K * i + e ≤ T := Om
  refine aU ?_;refine aD Kr 7 rfl ?_; intro Y0 ex Y2;obtain ⟨D1,D2⟩ := aS ex D1 D2;replace hJ := hab _ _ _ none hJ (ig ex) (fun r e => by cases e);refine zm [0, 1, 2] ?_;refine my 3 rfl (oI (s := 1) rfl rfl Tn.u Kr (j := K * i) rfl Om) ?_;refine zm [4] ?_;refine my 5 rfl (Y.as (EC rfl rfl) (congrArg (Value.int .i64) (show _ = ((e : Nat) : Int) by split <;> omega))) ?_;refine BL [6] ?_;refine au 6 ?_;refine oB (n) ?_;refine dN (aL rfl) rfl ?_;refine dN (ah rfl underlying23 rfl (D1.get (i := 0) rfl)) rfl ?_;refine dN (aL rfl) rfl ?_;refine dN (aL rfl) rfl ?_;refine dN (aL rfl) rfl ?_;refine dN (aO rfl rfl (bj Om Om)) rfl ?_;refine dN (aL rfl) rfl ?_;refine dN (aL rfl) rfl ?_;refine dN (aO rfl rfl (bj Om Om)) rfl ?_;refine dN (Y.as (BY (s := 1) rfl rfl rfl rfl underlying23 Kr (j := K * i) (h := K * i + e) (m := K * i + e) rfl Om Om Om Om Om Om) (show _ = jY g off K T i from by unfold jY; rw [Nat.mul_one, Nat.add_sub_cancel_left, he])) rfl ?_;refine vZ rfl rfl ((oE (hY ((List.finRange m).take i) ⟨i, hlt⟩ _ hJ (by rw [List.length_take, List.length_finRange]; omega)))) rfl ?_;rintro e _ ⟨_, rfl, hbt, hbf⟩;refine aU ?_;refine dN (pY rfl) rfl ?_;refine wQ ?_;refine aU ?_;refine bw rfl (fun YU => ?_) (fun YU => ?_)
  ·refine aU ?_;exact aa4 (.inl rfl) ⟨⟨_, rfl⟩, .inr ⟨_, trivial, hbf (by simpa using YU)⟩⟩
  obtain ⟨YX, hk⟩ := hbt (by simpa using YU);replace D1 := hk.UQ D1;replace D2 := hk.Vn D2;refine au 9 ?_;refine ae ?_;refine YV _ _ ⟨i + 1, rfl, rfl, Om, by rw [List.take_succ_eq_append_getElem (by rw [List.length_finRange]; omega)]; simpa using YX, D1, D2⟩ Om Ls
 refine aU ?_;refine aa4 (.inr rfl) ?_
 have hfin : m ≤ i := by
  rcases Nat.lt_or_ge i m with h | h
  ·have := hj i h; omega
  exact h
 exact ⟨⟨_, rfl⟩, .inl ⟨_, rfl, by rw [List.take_of_length_le (by rw [List.length_finRange]; exact hfin)] at hJ; exact hJ⟩⟩
theorem lK (n g off c K T m b1 b2 : Nat) (A : Oa) (w : aa9) (hK : 1 ≤ K) (hA : 0 < T → A = some ⟨g, off, none⟩) (hc : T ≤ c) (hm : K * m ≤ 70368744177664) (hT : T ≤ K * m) (hj : ∀ j, j < m → K * j < T)
  (C1 : aq w b1 23 #[.slice A T c]) (C2 : aq w b2 3 #[.int .i64 (K : Int)]) :
  SeqStopsK Fence.wide n Tryz.prog 228 #[.pointer (cf b1), .pointer (cf b2)] (fun x : Fin m => #[jY g off K T x.val]) (xn b1 b2) (fun xs => xs = List.finRange m) (fun _ => True) m w :=
 fun l J Jx W hW hJ _ hY h0 => callsIn_wide.2 (DU n l g off c K T m b1 b2 A J Jx W hK hA hc hm hT hj hJ (C1.ext hW) (C2.ext hW) hY h0)
theorem oF (K T c : Nat) (A : Oa) (w : aa9) (hK : 1 ≤ K) :
  Ct 176 #[.slice A T c, .int .i64 (K : Int)] w fun e w' => ∃ b1 b2, e = .returned (.func (.func 228) #[] #[.pointer (cf b1), .pointer (cf b2)]) ∧ w.heap.size ≤ b1 ∧ w.heap.size ≤ b2 ∧
   aq w' b1 23 #[.slice A T c] ∧ aq w' b2 3 #[.int .i64 (K : Int)] ∧ Ext w w' := by
 have E := Ext.refl w;refine ai 9 func176 ?_;intro _ aa4;refine aU ?_;intro _ g1 B1 YU ex;replace E := E.ext ex;have YV := E.size;refine aU ?_;intro _ g2 B2 _ ex;obtain ⟨E,B1⟩ := aS ex E B1;refine au 15 ?_;refine ak (gC rfl) ?_;refine aU ?_;exact aa4 rfl ⟨g1, g2, rfl, YU, Om, B1, B2, E⟩
section
open Ae Gm
namespace Gm
def mX (m : Lb) (j : Nat) (out : Lb) : Nat → List UInt8
 | 0 => out
 | i + 1 => (mX m j out i).set (16 * j + i) (UInt8.ofNat (cell (mX m j out i) (16 * j + i) ^^^ cell m i))
def Ve (key nn : Lb) (n : Nat) (s : List UInt8 × Nat) (j : Nat) : List UInt8 × Nat := (mX (Ck key nn (s.2 + 1)) j s.1 (min 16 (n - 16 * j)), s.2 + 1)
def N8 (key nn : Lb) (n : Nat) (s : List UInt8 × Nat) (js : List Nat) : List UInt8 × Nat := js.foldl (Ve key nn n) s
def FO (key nn t : Lb) : List UInt8 := (N8 key nn t.length (t, 1) (List.range ((t.length + 15) / 16))).1
theorem lH (m : Lb) (j : Nat) (out : Lb) : ∀ i, (mX m j out i).length = out.length
 | 0 => rfl
 | i + 1 => by rw [mX, List.length_set, lH]
theorem zU (key nn : Lb) (n : Nat) (s : List UInt8 × Nat) (js : List Nat) (j : Nat) : N8 key nn n s (js ++ [j]) = Ve key nn n (N8 key nn n s js) j := by unfold N8; rw [List.foldl_append]; rfl
theorem p8 (key nn : Lb) (n : Nat) : ∀ (js : List Nat) (s : List UInt8 × Nat), (N8 key nn n s js).1.length = s.1.length ∧ (N8 key nn n s js).2 = s.2 + js.length
  | [], s => ⟨rfl, rfl⟩
  | j :: js, s => by
    have h := p8 key nn n js (Ve key nn n s j);refine ⟨h.1.trans (lH _ _ _ _), h.2.trans ?_⟩
    show s.2 + 1 + js.length = s.2 + (js.length + 1)
    omega
theorem eU (key nn t : Lb) : (FO key nn t).length = t.length := (p8 key nn _ _ _).1
theorem Kt (l : Lb) (k i x : Nat) (hx : x < 256) (hk : k < l.length) : cell (l.set k (UInt8.ofNat x)) i = if i = k then x else cell l i := by
 unfold cell;by_cases h : i = k
 ·subst h;rw [if_pos rfl, List.getD_eq_getElem?_getD, List.getElem?_set_self hk];show (UInt8.ofNat x).toNat = x;rw [UInt8.toNat_ofNat']; omega
 rw [if_neg h, List.getD_eq_getElem?_getD, List.getD_eq_getElem?_getD, List.getElem?_set_ne (Ne.symm h)]
theorem uC (m : Lb) (j : Nat) (out : Lb) : ∀ i k, 16 * j + i ≤ out.length → cell (mX m j out i) k = if 16 * j ≤ k ∧ k < 16 * j + i then cell out k ^^^ cell m (k - 16 * j) else cell out k
  | 0, k, _ => by rw [mX, if_neg Om]
  | i + 1, k, h => by
    rw [mX, Kt _ _ _ _ (x8 (c8 _ _) (c8 _ _)) (by rw [lH]; omega), uC m j out i k Om, uC m j out i (16 * j + i) Om, if_neg (c := 16 * j ≤ 16 * j + i ∧ 16 * j + i < 16 * j + i) Om];by_cases hk : k = 16 * j + i
    · subst hk
      rw [if_pos rfl, if_pos Om, show 16 * j + i - 16 * j = i by omega]
    rw [if_neg hk];by_cases h2 : 16 * j ≤ k ∧ k < 16 * j + i
    · rw [if_pos h2, if_pos Om]
    rw [if_neg h2, if_neg Om]
theorem yM (key nn t : Lb) : ∀ r, 16 * r < t.length + 16 → ∀ k, k < t.length → cell (N8 key nn t.length (t, 1) (List.range r)).1 k = if k < 16 * r then cell t k ^^^ cell (Ck key nn (2 + k / 16)) (k % 16) else cell t k
  | 0, _, k, _ => by rw [if_neg Om]; rfl
  | r + 1, h, k, hk => by
    have hl := p8 key nn t.length (List.range r) (t, 1);rw [List.length_range] at hl;rw [List.range_succ, zU];unfold Ve;rw [hl.2, uC _ _ _ _ _ (by rw [hl.1]; show 16 * r + min 16 (t.length - 16 * r) ≤ t.length; omega), yM key nn t r Om k hk];by_cases h1 : k < 16 * r
    · rw [if_neg Om, if_pos h1, if_pos Om]
    rw [if_neg h1]
    by_cases h2 : k < 16 * (r + 1)
    · rw [if_pos Om, if_pos h2, show 2 + k / 16 = 1 + r + 1 by omega, show k % 16 = k - 16 * r by omega]
    rw [if_neg Om, if_neg h2]
theorem yS (key nn t : Lb) (k : Nat) (hk : k < t.length) : cell (FO key nn t) k = cell t k ^^^ cell (Ck key nn (2 + k / 16)) (k % 16) := by unfold FO;rw [yM key nn t _ Om k hk, if_pos Om]
theorem Be {a b : Lb} (hl : a.length = b.length) (h : ∀ k, k < b.length → cell a k = cell b k) : a = b := by refine List.ext_getElem hl fun k h1 h2 => ?_;have := h k h2;unfold cell at this;rw [List.getD_eq_getElem?_getD, List.getD_eq_getElem?_getD, List.getElem?_eq_getElem h1, List.getElem?_eq_getElem h2] at this;exact UInt8.toNat_inj.1 (by simpa using this)
theorem QF (key nn t : Lb) : FO key nn (FO key nn t) = t := by refine Be (by rw [eU, eU]) fun k hk => ?_;rw [yS _ _ _ _ (by rw [eU]; exact hk), yS _ _ _ _ hk, Nat.xor_assoc, Nat.xor_self, Nat.xor_zero]
end Gm
theorem OH {β : Type} {B : Nat} {f : β → List Value} : OwnFrom B (fun s W => Row W base e A n c (f s)) := fun s W W' row hs hg hr => by
 refine World.ownsRow.kept (row := row) hs hg ?_
 rcases hs.2 with ⟨hv, _⟩ | ⟨g, cap, cur, hv, _, hB, _⟩
 ·injection hv with hA _ _; subst hA; exact .inl rfl
 injection hv with hA _ _
 subst hA;refine .inr fun h => ?_;have h' : row = some g := h.symm;obtain ⟨_, o, ho, hc⟩ := hr g h';rw [show W.heap[g]? = _ from hB] at ho;injection ho with ho
 subst ho;cases hc
end
open Ae Gm
theorem rU {B : Oa} {d e : Nat} {t : Lb} (w : aa9) (HA : Bs w A 16 key) (HB : Bs w B 12 nn) (HC : Bs w C n t) (hn : n ≤ 100000) :
  Ct 105 #[.slice A 16 c, .slice B 12 d, .slice C n e] w fun e w' => ∃ A' c', e = .returned (.slice A' n c') ∧ Row w' w.heap.size 5 A' n c' ((FO key nn t).map bv) ∧ Ext w w' := by
 have E := Ext.refl w;have htl := HC.1;refine CL (3) 40 func105 rfl rfl rfl rfl ?_;intro _ _ hretD;refine aU ?_;intro _ Za B3 _ ex;have Zu := B3.lt;replace E := E.ext ex;refine aU ?_;intro YU Zb B4 _ ex;have Zv := B4.lt; have Zw := ex.size;obtain ⟨E,B3⟩ := aS ex E B3;refine aU ?_;refine aB func181 rfl (kF C n e t _ (HC.wk E) Om) ?_;rintro e w2 ⟨A7, c7, rfl, O7, ex⟩;obtain ⟨E,B3,B4⟩ := bh ex E B3 B4;have R7 : Row w2 YU.heap.size 5 A7 n c7 (t.map bv) := O7; have Zx := E.size;refine aU ?_;intro _ YW D8 YV exA;refine aU ?_;intro _ B8 cg;have ex := exA.aw cg YV; clear cg exA D8;have Zy := B8.lt;obtain ⟨E,B3,B4,R7⟩ := bG ex E B3 B4 R7;refine au 6 ?_
 obtain ⟨g7, Y0, Zc⟩ : ∃ g7, (0 < n → A7 = some ⟨g7, 0, none⟩) ∧ (0 < n → YU.heap.size ≤ g7 ∧ g7 < YW) := by
  rcases Nat.eq_zero_or_pos n with h | h
  ·exact ⟨0, fun h' => Om, fun h' => Om⟩
  obtain ⟨g, v, h1, _⟩ := R7.get (i := 0) h;refine ⟨g, fun _ => h1, fun _ => ?_⟩;subst h1;exact ⟨R7.lt.1, Nat.lt_of_lt_of_le (Row.lt O7).2 YV⟩
 refine aB func176 rfl (oF 16 n c7 A7 _ Om) ?_;rintro e w6 ⟨b1, b2, rfl, _, _, C1, C2, ex⟩;obtain ⟨E,B3,B4,R7,B8⟩ := fR ex E B3 B4 R7 B8;obtain ⟨M, hM⟩ : ∃ M, M = (n + 15) / 16 := ⟨_, rfl⟩; have Zz := C1.lt; have ZA := C2.lt;refine aU ?_;refine qW (n := 3) (S := fun xs => xs = List.finRange M) Om rfl (enters func228 rfl rfl) (lK 2 g7 0 c7 16 n M b1 b2 A7 _ Om Y0 R7.cap Om Om (by intro j hj; omega) C1 C2) xn.trans (fun W l o o' hl ho _ _ => su W l o o' Om Om ho) (fun pre W => Row W YU.heap.size 5 A7 n c7 ((N8 key nn n (t, 1) (pre.map (·.val))).1.map bv) ∧ aq W YW 227 #[.int .u32 ((1 + pre.length : Nat) : Int)] ∧ aq W Za 23 #[.slice A 16 c] ∧ aq W Zb 23 #[.slice B 12 d] ∧ Below w.heap.size w W ∧ w6.heap.size ≤ W.heap.size) (OwnFrom.and OH (OwnFrom.and dH (OwnFrom.and dH (OwnFrom.and dH (OwnFrom.and (ownFrom_below (Nat.le_refl _) Om) pH))))) ⟨R7, B8, B3, B4, E, Nat.le_refl _⟩ rfl rfl ?_ ?_
 ·intro _ _ pre v W2 ⟨R, B8, B3, B4, E, _⟩ hl hout;have hv := v.isLt
  obtain ⟨j, hj⟩ : ∃ j, j = v.val := ⟨_, rfl⟩
  obtain ⟨e1, Y2⟩ : ∃ e1, e1 = min 16 (n - 16 * j) := ⟨_, rfl⟩
  have hjn : 16 * j < n := Om
  obtain ⟨Zd, Ze⟩ := Zc Om;obtain rfl := Y0 Om
  obtain ⟨V, hV⟩ : ∃ V, V = (N8 key nn n (t, 1) (pre.map (·.val))).1 := ⟨_, rfl⟩
  have hVl : V.length = n := by rw [hV, (p8 _ _ _ _ _).1]; exact htl
  have Zf : (N8 key nn n (t, 1) (pre.map (·.val))).2 = 1 + pre.length := by rw [(p8 _ _ _ _ _).2, List.length_map]
  rw [← hV] at R;have hpw : jY g7 0 16 n v.val = .slice (some ⟨g7, 0 + 16 * j, none⟩) e1 e1 := by unfold jY; rw [Y2, hj]
  rw [hpw];have Cw := aI.refl [g7, YW] W2;refine fW ?_; intro K6 Zg;refine dd ?_;refine au 1 ?_;refine ak (aO rfl rfl (IntWalk.u32_in _ ⟨Om, Om⟩)) ?_;refine aU ?_;intro _ D8 cg;replace R := R.aw cg (by intro b off e; injection e with e; injection e; omega); replace B3 := B3.aw cg Om; replace B4 := B4.aw cg Om; replace E := E.aw cg Om; replace B8 := D8.congr (cs' := #[.int .u32 ((2 + pre.length : Nat) : Int)]) (by show #[Value.int .u32 (((1 + pre.length : Nat) : Int) + 1)] = #[Value.int .u32 ((2 + pre.length : Nat) : Int)]; rw [show (((1 + pre.length : Nat) : Int) + 1) = ((2 + pre.length : Nat) : Int) by omega]); replace Cw := Cw.bD (aI.one cg); have ZB := cg.size;refine au 1 ?_;refine ae (Zg ?_);refine fW ?_; intro K7 Zh;refine dd ?_;refine aU ?_;refine aB func179 rfl (vl _ (HA.wk E) (HB.wk E)) ?_;rintro e w8 ⟨_, c10, rfl, Y3, ex⟩;obtain ⟨R,B3,B4,E,B8⟩ := fR ex R B3 B4 E B8;obtain ⟨Zi, _, rfl, _⟩ := Y3.get (i := 0) Om; replace Cw := Cw.ext ex;refine au 3 ?_;refine ae (Zh ?_);refine fW ?_; intro K8 Zj;refine dd ?_;refine au 4 ?_;refine ae (Zj ?_);refine tv ?_;refine QM (fun n' L wr => ∃ (i : Nat), L = [(9, .slice (some ⟨g7, 0 + 16 * j, none⟩) e1 e1), (10, .slice (cf Zi) 16 c10), (24, .int .i64 (e1 : Int)), (25, .int .i64 (i : Int))] ∧ n' = e1 - i ∧ (i ≤ e1 ∧ aI [g7] w8 wr ∧ Row wr YU.heap.size 5 (cf g7) n c7 ((mX (Ck key nn (2 + pre.length)) j V i).map bv))) _ _ ⟨0, rfl, rfl, Nat.zero_le _, aI.refl _ _, R⟩ Ls ?_;rintro _ n' L wr ⟨i, rfl, rfl, _, X, R⟩ Zk;refine fW ?_; intro K9 Zl;refine dd ?_;refine au 2 ?_;refine ae (Zl ?_);refine fW ?_; intro ZC YX;refine MX rfl (fun Zm => ?_) (fun Zm => ?_)
  ·skip;refine Fj ?_;refine ae (YX ?_);refine fW ?_; intro ZD YY;refine tv ?_;refine fW ?_; intro ZE YZ;refine dd ?_;refine au 3 ?_;refine ae (YZ ?_)
   obtain ⟨U, hU⟩ : ∃ U, U = mX (Ck key nn (2 + pre.length)) j V i := ⟨_, rfl⟩
   have hUl : U.length = n := by rw [hU, lH]; exact hVl
   rw [← hU] at R;have HU := R.bs;have HM := (Y3.bD X So).bs;refine xI Kr 11 rfl ?_; intro Zn ex Zo;obtain ⟨X,R,HU,HM⟩ := bG ex X R HU HM;refine zm [0, 1] ?_;refine dF 2 rfl (fun _ => aC rfl rfl Tn.u Kr (j := i) Om Om) ?_;refine my 3 rfl (ah rfl Tn.u rfl (show _ = some (.int .u8 ((cell U (16 * j + i) : Nat) : Int)) from by rw [show 0 + 16 * j + i = 0 + (16 * j + i) by omega]; exact lU HU (k := 16 * j + i) Om)) ?_;refine zm [4, 5] ?_;refine dF 6 rfl (fun _ => aC rfl rfl Tn.u Kr (j := i) Om Om) ?_;refine my 7 rfl (ah rfl Tn.u rfl (lU HM (k := i) Om)) ?_;refine dF 8 rfl (fun _ => bO rfl rfl ((bJ (Ae.c8 _ _) (Ae.c8 _ _)).2.2)) ?_;refine dF 9 rfl (fun _ => aC rfl rfl Tn.u Kr (j := i) Om Om) ?_;refine aR 10 Kr ?_; refine bE rfl (kl (i := 16 * j + i) (congrArg (fun z => some (Value.pointer (some ⟨g7, z, none⟩))) (show 0 + 16 * j + i = 0 + (16 * j + i) from Nat.add_assoc _ _ _)) rfl rfl Kr R Om) rfl ?_;rintro _ Zp ⟨rfl, Zq, cg⟩;refine ⟨.inl rfl, ?_⟩
   have Zr := X.bD (aI.one cg); have Zs : Row Zp YU.heap.size 5 (cf g7) n c7 ((U.set (16 * j + i) (UInt8.ofNat (cell U (16 * j + i) ^^^ cell (Ck key nn (2 + pre.length)) i))).map bv) := (by rw [List.map_set, bv, gG (x8 (Ae.c8 _ _) (Ae.c8 _ _))]; exact Zq)
   refine au 3 ?_;refine ae (YY ?_);refine dd ?_;refine au 3 ?_;refine ae ?_;refine Zk _ _ ⟨i + 1, rfl, rfl, Om, Zr, (by rw [mX, ← hU]; exact Zs)⟩ Om Ls
  skip;refine OD ?_;refine aU ?_;obtain rfl : i = e1 := Om
  have Cz := Cw.bD X;have ZF := Cz.size;refine hout (kb Cz So) (xX Cz Om Om So So) ⟨?_, ?_, B3.bD X So, B4.bD X So, E.PV X So, Om⟩
  ·rw [List.map_append, List.map_singleton, zU];unfold Ve;rw [← hV, Zf, ← hj, ← Y2, show 1 + pre.length + 1 = 2 + pre.length by omega];exact R
  exact (B8.bD X So).congr (by rw [List.length_append, List.length_singleton, show 1 + (pre.length + 1) = 2 + pre.length by omega])
 intro D _ W2 _ Zt ⟨I1, _, _, _, I5, _⟩ hKD;obtain rfl := Zt;have hfin : ((List.finRange M).map (·.val)) = List.range M := List.ext_getElem (by simp) (fun i h1 h2 => by simp);rw [hfin, hM, ← htl] at I1;have HD : vB W2 D := hKD;have hDw : w.heap.size ≤ D := Om
 refine aU ?_;exact hretD rfl HD ⟨A7, c7, rfl, by unfold FO; rw [htl] at I1 ⊢; exact Row.lower (ownsRow_putObj I1 _ HD rfl) Om, I5.trans (belowK_b (w := w) (Nat.le_refl _) W2 D _ _ hDw HD rfl rfl)⟩
namespace Gm
def pad (p : Lb) : List UInt8 := p ++ List.replicate (16 - p.length) 0
def Kl (xs : Lb) (j : Nat) : List UInt8 := (xs.drop (16 * j)).take 16
def Yg (h : Nat × Nat) (xs : Lb) (y : Nat × Nat) (j : Nat) : Nat × Nat := mul (y.1 ^^^ pf (pad (Kl xs j)) 16) (y.2 ^^^ ps (pad (Kl xs j)) 16) h.1 h.2
def Ip (h : Nat × Nat) (xs : Lb) (y : Nat × Nat) (js : List Nat) : Nat × Nat := js.foldl (Yg h xs) y
def ab (h : Nat × Nat) (xs : Lb) (y : Nat × Nat) : Nat × Nat := Ip h xs y (List.range ((xs.length + 15) / 16))
def hk (key : Lb) : Nat × Nat := (pf (enc key (List.replicate 16 0)) 16, ps (enc key (List.replicate 16 0)) 16)
def LX (h : Nat × Nat) (y : Nat × Nat) (m n : Nat) : Nat × Nat := mul (y.1 ^^^ m * 8) (y.2 ^^^ n * 8) h.1 h.2
def tag (key nn ss ms : Lb) : List UInt8 :=
 pb ((LX (hk key) (ab (hk key) ss (ab (hk key) ms (0, 0))) ms.length ss.length).1 ^^^ pf (Ck key nn 1) 16) ((LX (hk key) (ab (hk key) ss (ab (hk key) ms (0, 0))) ms.length ss.length).2 ^^^ ps (Ck key nn 1) 16) 8
theorem du (key nn ss ms : Lb) : (tag key nn ss ms).length = 16 := nk _ _ _
theorem cJ {p : Lb} (h : p.length ≤ 16) : (pad p).length = 16 := by unfold pad; rw [List.length_append, List.length_replicate]; omega
def ok (y : Nat × Nat) : Prop := y.1 < 18446744073709551616 ∧ y.2 < 18446744073709551616
theorem M6 (a b : Nat) {h : Nat × Nat} (hh : ok h) : ok (mul a b h.1 h.2) := Lj hh.1 hh.2 128
theorem tI {h : Nat × Nat} (hh : ok h) (xs : Lb) : ∀ (js : List Nat) {y : Nat × Nat}, ok y → ok (Ip h xs y js)
 | [], _, hy => hy
 | j :: js, y, _ => tI hh xs js (M6 _ _ hh)
theorem zx (h : Nat × Nat) (xs : Lb) (y : Nat × Nat) (js : List Nat) (j : Nat) : Ip h xs y (js ++ [j]) = Yg h xs (Ip h xs y js) j := by unfold Ip; rw [List.foldl_append]; rfl
theorem U4 (key : Lb) : ok (hk key) := ⟨tu _ _, uy _ _⟩
end Gm
theorem PQ {β : Type} {B : Nat} (h : D < B) : OwnFrom B (fun (_ : β) W => vB W D) := fun s W W' row hs hg hr =>
 (hg.block D (vB.lt hs) (fun e => by have := (hr D e.symm).1; omega)).trans hs
theorem vB.bD {S : List Nat} (h : vB w D) (k : aI S w w') (hD : D ∉ S) : vB w' D := (k.block D h.lt hD).trans h
theorem vr {xs : Lb} (H : Bs w (some ⟨g, o, none⟩) n xs) (j e : Nat) (he : e = min 16 (n - 16 * j)) : Bs w (some ⟨g, o + 16 * j, none⟩) e (Kl xs j) := by have h := (H.xM (16 * j)).take (k := e) Om;rwa [show ((xs.drop (16 * j)).take e) = Kl xs j from by unfold Kl; rw [List.take_eq_take_iff, List.length_drop, H.1]; omega] at h
theorem KN {β : Type} {B : Nat} : OwnFrom B (fun (_ : β) _ => True) := fun _ _ _ _ _ _ _ => trivial
theorem vp (p : Lb) : ((dc (List.replicate 16 0)).toList.take 0 ++ p.map bv ++ (dc (List.replicate 16 0)).toList.drop (0 + (p.map bv).length)).toArray = dc (pad p) := by unfold pad dc;rw [List.take_zero, List.nil_append, Nat.zero_add, List.length_map, List.map_append, List.map_replicate, List.map_replicate, List.drop_replicate]
theorem zp {B G : Oa} {m d e f : Nat} {ss ms : Lb} (w : aa9) (HA : Bs w A 16 key) (HB : Bs w B 12 nn) (HC : Bs w C n ss) (hn : n ≤ 100000) (hne : n ≤ e) (HG : Bs w G m ms) (hm : m ≤ 100000) (hmf : m ≤ f) :
  Ct 104 #[.slice A 16 c, .slice B 12 d, .slice C n e, .slice G m f] w fun e w' => ∃ A' c', e = .returned (.slice A' 16 c') ∧ Row w' w.heap.size 5 A' 16 c' ((tag key nn ss ms).map bv) ∧ Ext w w' := by
 have E := Ext.refl w;have Qt := HC.1;have hml := HG.1;have hhk := U4 key
 obtain ⟨H, hH⟩ : ∃ H, H = hk key := ⟨_, rfl⟩
 rw [← hH] at hhk;refine BK (4) 67 func104 rfl rfl rfl rfl ?_;intro _ hretDD;refine aU ?_;refine af (dC (n := 16) (z := .int .u8 0) (bytes := 1) rfl rfl Tn.u Kr rfl rfl rfl rfl Om Om) rfl ?_;rintro _ _ ⟨_, rfl, D3, _, ex⟩;replace E := E.ext ex;have H3 := aX (xs := List.replicate 16 0) (D3.congr Kr) rfl;refine aB func174 rfl (tV _ (HA.wk E) H3) ?_;rintro e _ ⟨_, _, rfl, R5, ex⟩;replace E := E.ext ex;have H5 := R5.bs;refine aU ?_;refine aB func175 rfl (lF _ H5) ?_;rintro e _ ⟨rfl, ex⟩;replace E := E.ext ex;have ZR := E.size;refine aU ?_;intro _ Zb ZA Zc exA;refine aU ?_;intro _ YV cg;have ex := exA.aw cg Zc; clear cg exA ZA;have ZB := YV.lt;replace E := E.ext ex;replace YV := YV.congr (cs' := pv H.1 H.2) (by rw [hH]; rfl);refine aU ?_;intro _ YZ YU _ ex;obtain ⟨E,YV⟩ := aS ex E YV;replace YU := YU.congr (cs' := pv 0 0) rfl; have ZC := YU.lt;refine aU ?_;refine af (aF (z := .slice none 0 0) Tn.u Kr rfl rfl rfl rfl rfl) rfl ?_;rintro _ _ ⟨Zs, rfl, YW, _, ex⟩;obtain ⟨E,YV,YU⟩ := bh ex E YV YU;have ZS := E.size; have ZD := YW.lt;refine aU ?_;refine qF 3 ?_; refine fF ?_; intro Zt Y3;refine au 13 ?_;refine ak (aC rfl rfl Tn.u Kr (j := 0) rfl Om) ?_;refine au 7 ?_
 obtain ⟨ga, oa, hA⟩ : ∃ g o, 0 < m → G = some ⟨g, o, none⟩ := by
  rcases Nat.eq_zero_or_pos m with h | h
  ·exact ⟨0, 0, fun h' => Om⟩
  obtain ⟨g, o, h1, _⟩ := HG.get (k := 0) h;exact ⟨g, o, fun _ => h1⟩
 refine aB func176 rfl (oF 16 m f G _ Om) ?_;rintro e w6 ⟨b1, b2, rfl, ZE, ZF, C1, C2, ex⟩;obtain ⟨E,YV,YU,YW⟩ := bG ex E YV YU YW
 obtain ⟨M, hM⟩ : ∃ M, M = (m + 15) / 16 := ⟨_, rfl⟩; have ZG := C1.lt; have ZH := C2.lt; have hy : ok (0, 0) := (show ok (0, 0) from ⟨Om, Om⟩)
 refine aU ?_;refine qW (n := 4) (S := fun xs => xs = List.finRange M) Om rfl (enters func228 rfl rfl) (lK 3 ga oa f 16 m M b1 b2 G _ Om hA Om Om Om (by intro j hj; omega) C1 C2) xn.trans (fun W l o o' hl ho _ _ => su W l o o' Om Om ho) (fun pre W => aq W YZ 220 (pv (Ip H ms (0, 0) (pre.map (·.val))).1 (Ip H ms (0, 0) (pre.map (·.val))).2) ∧ aq W Zb 220 (pv H.1 H.2) ∧ aq W Zs 23 #[.slice G m f, .slice C n e] ∧ Below w.heap.size w W ∧ w6.heap.size ≤ W.heap.size ∧ True) (OwnFrom.and dH (OwnFrom.and dH (OwnFrom.and dH (OwnFrom.and (ownFrom_below (Nat.le_refl _) Om) (OwnFrom.and pH KN))))) ⟨YU, YV, YW, E, Nat.le_refl _, trivial⟩ rfl rfl ?_ ?_
 ·intro kR Q2 pre v W2 ⟨YU, YV, YW, E, hz, YX⟩ hl hout;have hv := v.isLt
  obtain ⟨j, hj⟩ : ∃ j, j = v.val := ⟨_, rfl⟩
  obtain ⟨e1, Zd⟩ : ∃ e1, e1 = min 16 (m - 16 * j) := ⟨_, rfl⟩
  have hjn : 16 * j < m := Om
  obtain rfl := hA Om;have hpw : jY ga oa 16 m v.val = .slice (some ⟨ga, oa + 16 * j, none⟩) e1 e1 := by unfold jY; rw [Zd, hj]
  rw [hpw];have HP := vr (HG.wk E) j e1 Zd;have hpl := HP.1
  obtain ⟨y, hyy⟩ : ∃ y, y = Ip H ms (0, 0) (pre.map (·.val)) := ⟨_, rfl⟩
  have hyo : ok y := by rw [hyy]; exact tI hhk _ _ hy
  rw [← hyy] at YU;have XW := Ext.refl W2;refine fW ?_; intro ZT Zg;refine dd ?_;refine af (dC (n := 16) (z := .int .u8 0) (bytes := 1) rfl rfl Tn.u Kr rfl rfl rfl rfl Om Om) rfl ?_;rintro _ w7 ⟨Zh, rfl, Y0, Y2, ex⟩;obtain ⟨YU,YV,YW,E,HP,XW⟩ := iz ex YU YV YW E HP XW;replace Y0 := Y0.congr (cs' := dc (List.replicate 16 0)) Kr;refine au 2 ?_;refine ae (Zg ?_);refine fW ?_; intro ZU Zi;refine dd ?_;refine aU ?_;refine af (iy (o := 0) rfl rfl Tn.u Kr Y0 HP.2 (by rw [List.length_map, hpl]; exact (Nat.min_eq_left Om).symm) (by rw [List.length_map, hpl, aV, List.length_replicate]; omega) aJ) rfl ?_;rintro _ w8 ⟨rfl, D8, cg⟩;replace YU := YU.aw cg Om; replace YV := YV.aw cg Om; replace YW := YW.aw cg Om; replace E := E.aw cg Om; replace XW := XW.aw cg Y2; rw [vp] at D8; have HW := aX D8 (cJ Om);refine au 1 ?_;refine ae (Zi ?_);refine xI Kr 7 rfl ?_; intro Zj ex Zk;obtain ⟨YU,YV,YW,E,XW,HW⟩ := iz ex YU YV YW E XW HW;refine zm [0, 1, 4] ?_;refine bC 2 rfl func175 rfl (lF _ HW) ?_;rintro e w9 ⟨rfl, ex⟩;obtain ⟨YU,YV,YW,E,XW⟩ := fR ex YU YV YW E XW;refine aU ?_;refine bC 3 rfl func177 rfl (kK _ _ _ _ hyo.1 hyo.2 (tu _ _) (uy _ _) _) ?_;rintro e Zu ⟨rfl, ex⟩;obtain ⟨YU,YV,YW,E,XW⟩ := fR ex YU YV YW E XW;refine aU ?_;refine bC 5 rfl func178 rfl (oL _ _ _ _ (Ou hyo.1 (tu _ _)) (Ou hyo.2 (uy _ _)) hhk.1 hhk.2 _) ?_;rintro e Zv ⟨rfl, ex⟩;obtain ⟨YU,YV,YW,E,XW⟩ := fR ex YU YV YW E XW;refine aU ?_;refine aR 6 Kr ?_; refine bE rfl (bI (o := 0) rfl rfl Kr YU Nb (bu rfl)) rfl ?_;rintro _ Zw ⟨rfl, Ze, cg⟩;refine ⟨.inl rfl, ?_⟩;have Cz := (aI.of XW [YZ]).bD (aI.one cg);refine aU ?_;have ZI := Cz.size;have hcz := aI.one cg;refine hout (kb Cz So) (xX Cz Om Om So So) ⟨?_, YV.bD hcz So, YW.bD hcz So, E.PV hcz So, Om, trivial⟩;rw [List.map_append, List.map_singleton, zx, ← hyy, ← hj];exact Ze.congr rfl
 intro D1 ZJ W2 _ Zl ⟨YU, YV, YW, E, hz, Zx⟩ hKD;obtain rfl := Zl;have hfin : ((List.finRange M).map (·.val)) = List.range M := List.ext_getElem (by simp) (fun i h1 h2 => by simp);rw [hfin, hM, ← hml] at YU
 obtain ⟨y0, Zm⟩ : ∃ y0, y0 = ab H ms (0, 0) := ⟨_, rfl⟩
 have hyo : ok y0 := by rw [Zm]; exact tI hhk _ _ (show ok (0, 0) from ⟨Om, Om⟩)
 rw [show Ip H ms (0, 0) (List.range ((ms.length + 15) / 16)) = y0 from Zm.symm] at YU;have YX : vB W2 D1 := hKD;have ZV := YX.lt;have ZW : YZ < D1 := Om
 refine au 7 ?_;refine ae (Y3 ?_);refine fF ?_; intro Zy Za;refine au 13 ?_;refine ak (aC rfl rfl Tn.u Kr (j := 1) rfl Om) ?_;refine au 7 ?_
 obtain ⟨ga, oa, hA⟩ : ∃ g o, 0 < n → C = some ⟨g, o, none⟩ := by
  rcases Nat.eq_zero_or_pos n with h | h
  ·exact ⟨0, 0, fun h' => Om⟩
  obtain ⟨g, o, h1, _⟩ := HC.get (k := 0) h;exact ⟨g, o, fun _ => h1⟩
 refine aB func176 rfl (oF 16 n e C _ Om) ?_;rintro e w6 ⟨b1, b2, rfl, ZE, ZF, C1, C2, ex⟩;obtain ⟨YU,YV,YW,E,YX⟩ := fR ex YU YV YW E YX;obtain ⟨M, hM⟩ : ∃ M, M = (n + 15) / 16 := ⟨_, rfl⟩; have ZG := C1.lt; have ZH := C2.lt; have hy : ok y0 := hyo;refine aU ?_;refine qW (n := 4) (S := fun xs => xs = List.finRange M) Om rfl (enters func228 rfl rfl) (lK 3 ga oa e 16 n M b1 b2 C _ Om hA Om Om Om (by intro j hj; omega) C1 C2) xn.trans (fun W l o o' hl ho _ _ => su W l o o' Om Om ho) (fun pre W => aq W YZ 220 (pv (Ip H ss y0 (pre.map (·.val))).1 (Ip H ss y0 (pre.map (·.val))).2) ∧ aq W Zb 220 (pv H.1 H.2) ∧ aq W Zs 23 #[.slice G m f, .slice C n e] ∧ Below w.heap.size w W ∧ w6.heap.size ≤ W.heap.size ∧ vB W D1) (OwnFrom.and dH (OwnFrom.and dH (OwnFrom.and dH (OwnFrom.and (ownFrom_below (Nat.le_refl _) Om) (OwnFrom.and pH (PQ Om)))))) ⟨YU, YV, YW, E, Nat.le_refl _, YX⟩ rfl rfl ?_ ?_
 ·intro kR Q2 pre v W2 ⟨YU, YV, YW, E, hz, YX⟩ hl hout;have hv := v.isLt
  obtain ⟨j, hj⟩ : ∃ j, j = v.val := ⟨_, rfl⟩
  obtain ⟨e1, Zd⟩ : ∃ e1, e1 = min 16 (n - 16 * j) := ⟨_, rfl⟩
  have hjn : 16 * j < n := Om
  obtain rfl := hA Om;have hpw : jY ga oa 16 n v.val = .slice (some ⟨ga, oa + 16 * j, none⟩) e1 e1 := by unfold jY; rw [Zd, hj]
  rw [hpw];have HP := vr (HC.wk E) j e1 Zd;have hpl := HP.1
  obtain ⟨y, hyy⟩ : ∃ y, y = Ip H ss y0 (pre.map (·.val)) := ⟨_, rfl⟩
  have hyo : ok y := by rw [hyy]; exact tI hhk _ _ hy
  rw [← hyy] at YU;have XW := Ext.refl W2;refine fW ?_; intro ZX Zn;refine dd ?_;refine af (dC (n := 16) (z := .int .u8 0) (bytes := 1) rfl rfl Tn.u Kr rfl rfl rfl rfl Om Om) rfl ?_;rintro _ w7 ⟨Zh, rfl, Y0, Y2, ex⟩;obtain ⟨YU,YV,YW,E,HP,XW⟩ := iz ex YU YV YW E HP XW;replace Y0 := Y0.congr (cs' := dc (List.replicate 16 0)) Kr;refine au 2 ?_;refine ae (Zn ?_);refine fW ?_; intro ZY Zo;refine dd ?_;refine aU ?_;refine af (iy (o := 0) rfl rfl Tn.u Kr Y0 HP.2 (by rw [List.length_map, hpl]; exact (Nat.min_eq_left Om).symm) (by rw [List.length_map, hpl, aV, List.length_replicate]; omega) aJ) rfl ?_;rintro _ w8 ⟨rfl, D8, cg⟩;replace YU := YU.aw cg Om; replace YV := YV.aw cg Om; replace YW := YW.aw cg Om; replace E := E.aw cg Om; replace XW := XW.aw cg Y2; rw [vp] at D8; have HW := aX D8 (cJ Om);refine au 1 ?_;refine ae (Zo ?_);refine xI Kr 7 rfl ?_; intro Zj ex Zk;obtain ⟨YU,YV,YW,E,XW,HW⟩ := iz ex YU YV YW E XW HW;refine zm [0, 1, 4] ?_;refine bC 2 rfl func175 rfl (lF _ HW) ?_;rintro e w9 ⟨rfl, ex⟩;obtain ⟨YU,YV,YW,E,XW⟩ := fR ex YU YV YW E XW;refine aU ?_;refine bC 3 rfl func177 rfl (kK _ _ _ _ hyo.1 hyo.2 (tu _ _) (uy _ _) _) ?_;rintro e Zu ⟨rfl, ex⟩;obtain ⟨YU,YV,YW,E,XW⟩ := fR ex YU YV YW E XW;refine aU ?_;refine bC 5 rfl func178 rfl (oL _ _ _ _ (Ou hyo.1 (tu _ _)) (Ou hyo.2 (uy _ _)) hhk.1 hhk.2 _) ?_;rintro e Zv ⟨rfl, ex⟩;obtain ⟨YU,YV,YW,E,XW⟩ := fR ex YU YV YW E XW;refine aU ?_;refine aR 6 Kr ?_; refine bE rfl (bI (o := 0) rfl rfl Kr YU Nb (bu rfl)) rfl ?_;rintro _ Zw ⟨rfl, Ze, cg⟩;refine ⟨.inl rfl, ?_⟩;have Cz := (aI.of XW [YZ]).bD (aI.one cg);refine aU ?_;have ZI := Cz.size;have hcz := aI.one cg;refine hout (kb Cz So) (xX Cz Om Om So So) ⟨?_, YV.bD hcz So, YW.bD hcz So, E.PV hcz So, Om, YX.bD Cz So⟩;rw [List.map_append, List.map_singleton, zx, ← hyy, ← hj];exact Ze.congr rfl
 intro D2 ZJ W2 _ Zl ⟨YU, YV, YW, E, hz, Zx⟩ hKD;obtain rfl := Zl;have hfin : ((List.finRange M).map (·.val)) = List.range M := List.ext_getElem (by simp) (fun i h1 h2 => by simp);rw [hfin, hM, ← Qt] at YU;rw [show Ip H ss y0 (List.range ((ss.length + 15) / 16)) = ab H ss y0 from rfl] at YU;have YY : vB W2 D2 := hKD;replace YX : vB W2 D1 := Zx;have hne : D2 ≠ D1 := Om
 refine au 7 ?_;refine ae (Za ?_);refine fF ?_; intro Zz Zp;refine aU ?_
 obtain ⟨y, hyy⟩ : ∃ y, y = ab H ss y0 := ⟨_, rfl⟩
 have hyo : ok y := by rw [hyy]; exact tI hhk _ _ hyo
 have hlo : ok (LX H y m n) := M6 _ _ hhk;rw [← hyy] at YU;refine aD Kr 14 rfl ?_; intro ZK ex ZL;obtain ⟨YU,YV,E,YX,YY⟩ := fR ex YU YV E YX YY;refine zm [0, 1, 2] ?_;refine my 3 rfl (bc rfl Tn.u Tn.u (show _ = ((m : Nat) : Int) from IntWalk.u64_in _ ⟨Om, Om⟩)) ?_;refine dF 4 rfl (fun _ => cS rfl rfl (show _ = ((m * 8 : Nat) : Int) from IntWalk.u64_in _ ⟨Om, Om⟩)) ?_;refine zm [5, 6] ?_;refine my 7 rfl (bc rfl Tn.u Tn.u (show _ = ((n : Nat) : Int) from IntWalk.u64_in _ ⟨Om, Om⟩)) ?_;refine dF 8 rfl (fun _ => cS rfl rfl (show _ = ((n * 8 : Nat) : Int) from IntWalk.u64_in _ ⟨Om, Om⟩)) ?_;refine dF 9 rfl (fun _ => aA rfl (cells := pv (m * 8) (n * 8)) Kr) ?_;refine zm [11] ?_;refine bC 10 rfl func177 rfl (kK y.1 y.2 (m * 8) (n * 8) hyo.1 hyo.2 Om Om _) ?_;rintro e Zu ⟨rfl, ex⟩;obtain ⟨YU,E,YX,YY⟩ := bG ex YU E YX YY;refine aU ?_;refine bC 12 rfl func178 rfl (oL (y.1 ^^^ m * 8) (y.2 ^^^ n * 8) H.1 H.2 (Ou hyo.1 Om) (Ou hyo.2 Om) hhk.1 hhk.2 _) ?_;rintro e Zv ⟨rfl, ex⟩;obtain ⟨YU,E,YX,YY⟩ := bG ex YU E YX YY;refine aU ?_;refine aR 13 Kr ?_; refine bE rfl (bI (o := 0) rfl rfl Kr YU Nb (bu rfl)) rfl ?_;rintro _ Zw ⟨rfl, Ze, cg⟩;refine ⟨.inl rfl, ?_⟩;have hcz := aI.one cg; replace YX := YX.bD hcz So; replace YY := YY.bD hcz So; replace E := E.aw cg Om; replace YU := Ze.congr (cs' := pv (LX H y m n).1 (LX H y m n).2) rfl;refine aU ?_;refine aD Kr 8 rfl ?_; intro ZM ex ZN;obtain ⟨YU,E,YX,YY⟩ := bG ex YU E YX YY;refine zm [0, 1, 2] ?_;refine bC 3 rfl func179 rfl (vl (n := 1) _ (HA.wk E) (HB.wk E)) ?_;rintro e _ ⟨_, _, rfl, ZO, ex⟩;refine aU ?_;obtain ⟨E,YX,YY⟩ := bh ex E YX YY;have ZP := ZO.bs;refine bC 4 rfl func175 rfl (lF _ ZP) ?_;rintro e _ ⟨rfl, ex⟩;obtain ⟨E,YX,YY⟩ := bh ex E YX YY;refine aU ?_;refine bC 5 rfl func177 rfl (kK _ _ _ _ hlo.1 hlo.2 (tu _ _) (uy _ _) _) ?_;rintro e _ ⟨rfl, ex⟩;refine aU ?_;obtain ⟨E,YX,YY⟩ := bh ex E YX YY;have ZQ := E.size;refine bC 6 rfl func180 rfl (El _ _ _) ?_;rintro e gT ⟨Zh, rfl, Y2, Y0, ex⟩;obtain ⟨E,YX,YY⟩ := bh ex E YX YY;refine zm [7] ?_;refine hretDD rfl YY YX hne ?_
 have hT : tag key nn ss ms = pb ((LX H y m n).1 ^^^ pf (Ck key nn 1) 16) ((LX H y m n).2 ^^^ ps (Ck key nn 1) 16) 8 := by unfold tag; rw [← hH, ← Zm, ← hyy, hml, Qt]
 rw [hT];have hPl := nk ((LX H y m n).1 ^^^ pf (Ck key nn 1) 16) ((LX H y m n).2 ^^^ ps (Ck key nn 1) 16) 8
 obtain ⟨P, hP⟩ : ∃ P, P = pb ((LX H y m n).1 ^^^ pf (Ck key nn 1) 16) ((LX H y m n).2 ^^^ ps (Ck key nn 1) 16) 8 := ⟨_, rfl⟩
 rw [← hP] at Y0 hPl ⊢;have RB : Row gT w.heap.size 5 (cf Zh) 16 16 (P.map bv) := Row.new Y0 (base := w.heap.size) Om (by show (dc P).size = 16; rw [aV, hPl]) (by unfold maxLen; omega);have Zq : w.heap.size ≤ D1 := Om
 have Zr : w.heap.size ≤ D2 := Om
 have Zf : ((gT.putObj D2 (.deferred none)).heap)[D1]? = some (.deferred (some [])) := (World.putObj_heap_other (Ne.symm hne)).trans YX;exact ⟨_, 16, rfl, ownsRow_putObj (ownsRow_putObj RB _ YY rfl) _ Zf rfl, (E.trans (belowK_b (w := w) (Nat.le_refl _) gT D2 _ _ Zr YY rfl rfl)).trans (belowK_b (w := w) (Nat.le_refl _) _ D1 _ _ Zq Zf rfl rfl)⟩
end Go.Proofs.YtgfafidlkldeaaaGreat
