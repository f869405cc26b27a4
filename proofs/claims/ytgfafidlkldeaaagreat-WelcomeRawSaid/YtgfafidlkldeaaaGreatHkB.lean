/- hpke: pairs, shared secrets, Wrap, Unwrap, the lock, and boxes too short. No conditions: contracts of the program's functions. -/
import Derived.Test.YtgfafidlkldeaaaGreatDhA
import Derived.Test.YtgfafidlkldeaaaGreatAu
import Derived.Test.YtgfafidlkldeaaaGreatHkA
import Derived.Test.YtgfafidlkldeaaaGreatFieldQ
import Derived.Test.YtgfafidlkldeaaaGreatKdfB
import Derived.Test.YtgfafidlkldeaaaGreatSl
set_option linter.unusedVariables false
set_option linter.unusedSimpArgs false
set_option maxHeartbeats 4000000
set_option maxRecDepth 4000
namespace Go.Proofs.YtgfafidlkldeaaaGreat
section
open Go.RowKit Tryz
attribute [local irreducible] Y Ef WL WC WK WQ WM cE WN WF dc
def cj (u : Fp.F) (N : Nat) : Nat → (Fp.F × Fp.F) × (Fp.F × Fp.F)
 | 0 => ((1, 0), (u, 1))
 | i + 1 => if N / 2 ^ (254 - i) % 2 = 1 then ((Ii (cj u N i).2.1 (cj u N i).2.2 (cj u N i).1.1 (cj u N i).1.2 u).2, (Ii (cj u N i).2.1 (cj u N i).2.2 (cj u N i).1.1 (cj u N i).1.2 u).1)
   else Ii (cj u N i).1.1 (cj u N i).1.2 (cj u N i).2.1 (cj u N i).2.2 u
theorem En {u : Fp.F} {N i : Nat} (h : N / 2 ^ (254 - i) % 2 = 1) : cj u N (i + 1) = ((Ii (cj u N i).2.1 (cj u N i).2.2 (cj u N i).1.1 (cj u N i).1.2 u).2, (Ii (cj u N i).2.1 (cj u N i).2.2 (cj u N i).1.1 (cj u N i).1.2 u).1) := by
 rw [cj, if_pos h]
theorem FK {u : Fp.F} {N i : Nat} (h : ¬ N / 2 ^ (254 - i) % 2 = 1) : cj u N (i + 1) = Ii (cj u N i).1.1 (cj u N i).1.2 (cj u N i).2.1 (cj u N i).2.2 u := by
 rw [cj, if_neg h]
def rk (N : Nat) (u : Fp.F) : Fp.F := (cj u N 255).1.1 * Fp.inv (cj u N 255).1.2
theorem xp (A : Oa) (c : Nat) (es : Lb) (f3 : Nat → Nat) (u : Fp.F) (w : World) (HA : Bs w A 32 es) (U : FE (fe f3) u) :
  Ct 238 #[.slice A 32 c, .agg (fe f3)] w fun e w' => ∃ g, e = .returned (.slice (some ⟨g, 0, none⟩) 32 32) ∧ w.heap.size ≤ g ∧ ao w' g 5 (cT (Fp.le 32 (rk (Fp.num es) u).val)) ∧ Ext w w' := by
 have hle := HA.1
 have E := Ext.refl w
 have VQ := HA
 refine ai 49 func238 rfl rfl rfl rfl ?_
 intro _ hret
 refine aU ?_
 intro w1 g3 (B3 : ao _ _ _ (fe f3)) VY ex
 replace E := E.ext ex
 refine aU ?_
 refine fu 0 (fun n' L wr => ∃ (b g5 g6 : Nat) (p1 p2 q1 q2 : Nat → Nat), L = [(0, .slice A 32 c), (3, .pointer (some ⟨g3, 0, none⟩)), (5, .pointer (some ⟨g5, 0, none⟩)), (6, .pointer (some ⟨g6, 0, none⟩)), (7, .int .i64 (b : Int))] ∧ n' = 1 + b ∧ (b ≤ 254 ∧ w.heap.size ≤ g5 ∧ w.heap.size ≤ g6 ∧ g3 < g5 ∧ g3 < g6 ∧ g5 ≠ g6 ∧ Ext w wr ∧ ao wr g3 134 (fe f3) ∧ ao wr g5 300 (pr p1 p2) ∧ ao wr g6 300 (pr q1 q2) ∧ FE (fe p1) (cj u (Fp.num es) (254 - b)).1.1 ∧ FE (fe p2) (cj u (Fp.num es) (254 - b)).1.2 ∧ FE (fe q1) (cj u (Fp.num es) (254 - b)).2.1 ∧ FE (fe q2) (cj u (Fp.num es) (254 - b)).2.2)) rfl ?_ ?_
 ·rintro G n' L wr ⟨b, g5, g6, p1, p2, q1, q2, rfl, rfl, _, Vz, VA, VG, VH, n56, E, B3, B5, B6, P1, P2, Q1, Q2⟩ VI
  obtain ⟨i, hi⟩ : ∃ i, i = 254 - b := ⟨_, rfl⟩
  have hbi : b = 254 - i := by omega
  rw [← hi] at P1 P2 Q1 Q2
  have hnb := AM es b Om
  obtain ⟨b1, VR, x, rfl, hx, VB⟩ := VQ.byte (k := b / 8) Om
  have hcx := (E.cell (eL VB)).trans VB
  have hxl := x.toNat_lt
  rw [← hx.out] at hnb
  have hxd : x.toNat / 2 ^ (b % 8) < 256 := Nat.lt_of_le_of_lt (Nat.div_le_self _ _) Om
  refine au 5 ?_
  refine ak (dr rfl rfl Om (show IntKind.i64.wrap ((b : Int).tdiv 8) = ((b / 8 : Nat) : Int) from bj rfl Om)) ?_
  refine ak (aw rfl rfl Tn.u Kr (j := b / 8) rfl Om) ?_
  refine ak (af rfl Tn.u rfl hcx) ?_
  refine au 1 ?_
  refine ak (cK rfl rfl Om (show ((b : Int).tmod 8) = ((b % 8 : Nat) : Int) from rfl)) ?_
  refine ak (bZ rfl rfl Om (ED _ _ Om)) ?_
  refine ak (cM rfl rfl (Lf _ hxd)) ?_
  refine aU ?_
  refine al rfl (fun VS => ?_) (fun VS => ?_)
  ·have hlad := En (u := u) (N := Fp.num es) (i := i) (by rw [← hbi]; omega)
   refine au 1 ?_
   refine ak (Iv rfl B6) ?_
   refine ak (Iv rfl B5) ?_
   refine ak (cX rfl B3) ?_
   refine aB func259 rfl (qn q1 q2 p1 p2 f3 _ _ _ _ u _ Q1 Q2 P1 P2 U) ?_
   rintro e w6 ⟨h1, h2, h3, h4, rfl, G1, G2, G3, G4, ex⟩
   obtain ⟨E,B3,B5,B6⟩ := bO ex E B3 B5 B6
   refine au 4 ?_
   refine ag (ah rfl rfl (by rw [cn]; kernel_rfl) B6 (by rw [cn, cn]) (kx _ _)) rfl ?_
   rintro _ w7 ⟨rfl, D6, cg⟩
   replace B3 := B3.aE cg Om; replace B5 := B5.aE cg Om; replace E := E.aE cg VA
   refine ag (ah rfl rfl (by rw [cn]; kernel_rfl) B5 (by rw [cn, cn]) (kx _ _)) rfl ?_
   rintro _ w8 ⟨rfl, D5, cg⟩
   replace B3 := B3.aE cg Om; replace D6 := D6.aE cg Om; replace E := E.aE cg Vz
   refine aU ?_
   refine al rfl (fun VL => ?_) (fun VL => ?_)
   ·refine aU ?_
    refine bV ?_
    obtain ⟨j, rfl⟩ : ∃ j, b = j + 1 := ⟨b - 1, by omega⟩
    rw [show (((j + 1 : Nat) : Int) - 1) = (j : Int) by omega]
    have hij : 254 - j = i + 1 := by omega
    refine VI _ _ ⟨j, g5, g6, h3, h4, h1, h2, rfl, rfl, by omega, Vz, VA, VG, VH, n56, E, B3, D5, D6, by rw [hij, hlad]; exact G3, by rw [hij, hlad]; exact G4, by rw [hij, hlad]; exact G1, by rw [hij, hlad]; exact G2⟩ Om Ls
   ·refine aU ?_
    refine aC Kr 8 rfl ?_; intro VT ex VU
    obtain ⟨E,D5⟩ := ba ex E D5
    refine zm [0] ?_
    refine my 1 rfl (sY rfl D5) ?_
    refine zm [2] ?_
    refine my 3 rfl (sj rfl D5) ?_
    refine bD 4 rfl func145 rfl (jg G4 _) ?_
    rintro e w9 ⟨c9, rfl, F9, ex⟩
    replace E := E.ext ex
    refine aU ?_
    refine bD 5 rfl func144 rfl (bB G3 F9 _) ?_
    rintro e VV ⟨c10, rfl, Vy, ex⟩
    refine aU ?_
    replace E := E.ext ex
    replace Vy := Vy.congr (show _ = rk (Fp.num es) u by unfold rk; rw [show (255 : Nat) = i + 1 by omega, hlad]); have hsz := E.size
    refine bD 6 rfl func155 rfl (jB Vy _) ?_
    rintro e VW ⟨VM, rfl, VN, VO, ex⟩
    replace E := E.ext ex
    refine zm [7] ?_
    refine bK ?_
    refine hret rfl ?_
    exact ⟨VM, rfl, by omega, VO, E⟩
  ·have hlad := FK (u := u) (N := Fp.num es) (i := i) (by rw [← hbi]; omega)
   refine au 1 ?_
   refine ak (Iv rfl B5) ?_
   refine ak (Iv rfl B6) ?_
   refine ak (cX rfl B3) ?_
   refine aB func259 rfl (qn p1 p2 q1 q2 f3 _ _ _ _ u _ P1 P2 Q1 Q2 U) ?_
   rintro e w6 ⟨h1, h2, h3, h4, rfl, G1, G2, G3, G4, ex⟩
   obtain ⟨E,B3,B5,B6⟩ := bO ex E B3 B5 B6
   refine au 4 ?_
   refine ag (ah rfl rfl (by rw [cn]; kernel_rfl) B5 (by rw [cn, cn]) (kx _ _)) rfl ?_
   rintro _ w7 ⟨rfl, D5, cg⟩
   replace B3 := B3.aE cg Om; replace B6 := B6.aE cg Om; replace E := E.aE cg Vz
   refine ag (ah rfl rfl (by rw [cn]; kernel_rfl) B6 (by rw [cn, cn]) (kx _ _)) rfl ?_
   rintro _ w8 ⟨rfl, D6, cg⟩
   replace B3 := B3.aE cg Om; replace D5 := D5.aE cg Om; replace E := E.aE cg VA
   refine aU ?_
   refine al rfl (fun VL => ?_) (fun VL => ?_)
   ·refine aU ?_
    refine bV ?_
    obtain ⟨j, rfl⟩ : ∃ j, b = j + 1 := ⟨b - 1, by omega⟩
    rw [show (((j + 1 : Nat) : Int) - 1) = (j : Int) by omega]
    have hij : 254 - j = i + 1 := by omega
    refine VI _ _ ⟨j, g5, g6, h1, h2, h3, h4, rfl, rfl, by omega, Vz, VA, VG, VH, n56, E, B3, D5, D6, by rw [hij, hlad]; exact G1, by rw [hij, hlad]; exact G2, by rw [hij, hlad]; exact G3, by rw [hij, hlad]; exact G4⟩ Om Ls
   ·refine aU ?_
    refine aC Kr 8 rfl ?_; intro VT ex VU
    obtain ⟨E,D5⟩ := ba ex E D5
    refine zm [0] ?_
    refine my 1 rfl (sY rfl D5) ?_
    refine zm [2] ?_
    refine my 3 rfl (sj rfl D5) ?_
    refine bD 4 rfl func145 rfl (jg G2 _) ?_
    rintro e w9 ⟨c9, rfl, F9, ex⟩
    replace E := E.ext ex
    refine aU ?_
    refine bD 5 rfl func144 rfl (bB G1 F9 _) ?_
    rintro e VV ⟨c10, rfl, Vy, ex⟩
    refine aU ?_
    replace E := E.ext ex
    replace Vy := Vy.congr (show _ = rk (Fp.num es) u by unfold rk; rw [show (255 : Nat) = i + 1 by omega, hlad]); have hsz := E.size
    refine bD 6 rfl func155 rfl (jB Vy _) ?_
    rintro e VW ⟨VM, rfl, VN, VO, ex⟩
    replace E := E.ext ex
    refine zm [7] ?_
    refine bK ?_
    refine hret rfl ?_
    exact ⟨VM, rfl, by omega, VO, E⟩
 ·intro G VI
  refine aU ?_
  refine dH Kr 10 rfl ?_; intro VX ex VZ
  obtain ⟨E,B3⟩ := ba ex E B3
  have VJ := E
  have Vw := B3
  have X0 := Ext.refl VX
  refine dL 1 rfl Kr (aq rfl (cells := fe (fun _ => 0)) Kr) rfl ?_
  refine dL 3 rfl Kr (cX rfl Vw) rfl ?_
  refine dJ (fl := [rz 6 5 300 (pr (fun _ => 0) (fun _ => 0)), rz 7 6 300 (pr (fun _ => 0) (fun _ => 0))]) rfl ?_
  refine ll 0 (some 8) func143 ?_
  intro _ ex exb
  obtain ⟨E,B3,X0⟩ := bC ex E B3 X0
  refine ⟨_, (de 1 _ Om), ?_⟩
  rintro e _ ⟨_, rfl, F2, ex⟩
  refine ⟨_, rfl, ex, ?_⟩
  obtain ⟨E,B3,X0⟩ := bC ex E B3 X0
  obtain ⟨f2, rfl, F2⟩ := F2.fe
  refine DW (dst := some 10) 2 rfl Kr (aq rfl (cells := pr f2 (fun _ => 0)) Kr) rfl (bQ (by decide) (bQ (by decide) aP)) ?_
  refine ll 4 (some 12) func143 ?_
  intro _ ex exb
  obtain ⟨E,B3,X0⟩ := bC ex E B3 X0
  refine ⟨_, (de 1 _ Om), ?_⟩
  rintro e _ ⟨_, rfl, F4, ex⟩
  refine ⟨_, rfl, ex, ?_⟩
  obtain ⟨E,B3,X0⟩ := bC ex E B3 X0
  obtain ⟨f4, rfl, F4⟩ := F4.fe
  refine DW (dst := some 13) 5 rfl Kr (aq rfl (cells := pr f3 f4) Kr) rfl (bQ (by decide) (bQ (by decide) aP)) ?_
  refine ji ⟨(bQ (cv rfl Kr) (bQ (cv rfl Kr) aP)), by decide, by decide, (bQ (⟨rfl, by decide⟩) (bQ (⟨rfl, by decide⟩) aP)), (bQ (bm Kr) (bQ (bm Kr) aP))⟩ Kr ?_
  rintro _ _ _ ex ⟨⟨g5, rfl, VC⟩, VD⟩ ⟨⟨g6, rfl, VE⟩, VF⟩ Vx
  replace VD := VD g5 rfl
  replace VF := VF g6 rfl
  have VK : g5 ≠ g6 := fun e => Vx g5 rfl (by rw [e]; rfl)
  obtain ⟨E,B3,X0⟩ := bC ex E B3 X0
  have Vz := Nat.le_trans VJ.size VD; have VG := Nat.lt_of_lt_of_le Vw.lt VD
  have VA := Nat.le_trans VJ.size VF; have VH := Nat.lt_of_lt_of_le Vw.lt VF
  refine dp 8 Kr ?_
  refine eN rfl (ah rfl rfl (by rw [cn]; kernel_rfl) VC (by rw [cn, cn]) (kx _ _)) rfl ?_
  rintro _ _ ⟨rfl, VC, cg⟩
  replace X0 := X0.aE cg VD
  refine ⟨X0, ?_⟩
  replace E := VJ.ext X0
  replace B3 := Vw.ext X0
  replace VE := VE.aE cg Om
  refine dp 9 Kr ?_
  refine eN rfl (ah rfl rfl (by rw [cn]; kernel_rfl) VE (by rw [cn, cn]) (kx _ _)) rfl ?_
  rintro _ _ ⟨rfl, VE, cg⟩
  replace X0 := X0.aE cg VF
  refine ⟨X0, ?_⟩
  replace E := VJ.ext X0
  replace B3 := Vw.ext X0
  replace VC := VC.aE cg Om
  refine eK Kr ?_
  refine au 7 ?_
  refine dE ?_; intro V0 VP
  refine gn ?_
  refine ae (VP ?_)
  exact VI _ _ ⟨254, g5, g6, f2, (fun _ => 0), f3, f4, rfl, rfl, by omega, Vz, VA, VG, VH, by omega, E, B3, VC, VE, F2, FE.zero, U, F4⟩ Ls
end
section
open Go.RowKit Tryz
attribute [local irreducible] Y Ef WL WC WK WQ WM cE WN WF dc
def mu (xs : Lb) : List UInt8 := ((Fp.pad xs).set 0 (UInt8.ofNat (((Fp.pad xs).getD 0 0).toNat / 8 * 8))).set 31 (UInt8.ofNat (((Fp.pad xs).getD 31 0).toNat % 64 + 64))
theorem rJ (xs : Lb) : (mu xs).length = 32 := by unfold mu; rw [List.length_set, List.length_set, Fp.cQ]
theorem Kd : ∀ x : Fin 256, bits .andNot .u8 ((x.val : Nat) : Int) 7 = ((x.val / 8 * 8 : Nat) : Int) := by decide +kernel
theorem DT : ∀ x : Fin 256, bits .and .u8 ((x.val : Nat) : Int) 63 = ((x.val % 64 : Nat) : Int) := by decide +kernel
theorem Pz : ∀ x : Fin 64, bits .or .u8 ((x.val : Nat) : Int) 64 = ((x.val + 64 : Nat) : Int) := by decide +kernel
theorem Gi (l : Lb) (i : Nat) (h : i < l.length) : (cT l)[i]? = some (.int .u8 ((l.getD i 0).toNat : Int)) := by
 simp [cT, bv, h]
theorem fI (l : Lb) (i : Nat) (x : UInt8) : (cT l).setIfInBounds i (.int .u8 (x.toNat : Int)) = cT (l.set i x) := by
 simp [cT, bv, List.map_set]
theorem sP {n : Nat} (h : n < 256) : ((UInt8.ofNat n).toNat : Int) = (n : Int) := by rw [UInt8.toNat_ofNat']; omega
theorem Db (A : Oa) (n c : Nat) (xs : Lb) (w : World) (HA : Bs w A n xs) :
  Ct 239 #[.slice A n c] w fun e w' => ∃ g, e = .returned (.slice (some ⟨g, 0, none⟩) 32 32) ∧ Bs w' (some ⟨g, 0, none⟩) 32 (mu xs) ∧ Ext w w' := by
 have hl := HA.1
 have hpl := Fp.cQ xs
 have HT : Bs w A (min n 32) (xs.take 32) := by
  have h := HA.take (Nat.min_le_left n 32)
  have e : xs.take (min n 32) = xs.take 32 := by
   rcases Nat.le_total n 32 with h | h
   ·rw [Nat.min_eq_left h, List.take_of_length_le Om, List.take_of_length_le Om]
   ·rw [Nat.min_eq_right h]
  rwa [e] at h
 obtain ⟨x0, Vw⟩ : ∃ x, x = ((Fp.pad xs).getD 0 0).toNat := ⟨_, rfl⟩
 obtain ⟨x1, Vx⟩ : ∃ x, x = ((Fp.pad xs).getD 31 0).toNat := ⟨_, rfl⟩
 have h0 : x0 < 256 := Vw ▸ UInt8.toNat_lt _
 have h1 : x1 < 256 := Vx ▸ UInt8.toNat_lt _
 refine ai 21 func239 rfl rfl rfl rfl ?_
 intro _ hret
 refine aU ?_
 refine ag (du (n := 32) (z := .int .u8 0) (bytes := 1) rfl rfl Tn.u Kr rfl rfl rfl rfl Om Om) rfl ?_
 rintro _ _ ⟨g, rfl, B1, hg, ex⟩
 have E1 := ex; replace B1 := B1.congr (show _ = cT (gD 32) from rfl)
 refine aU ?_
 refine ag (fT rfl rfl Tn.u Kr B1 (HT.wk E1).2 (by rw [List.length_map, HT.1]) (by rw [List.length_map, HT.1, aW]; simp [gD]; omega) aM) rfl ?_
 rintro _ _ ⟨rfl, B2, cg⟩
 have E2 := E1.aE cg hg; replace B2 := Ej xs B2
 refine au 5 ?_
 refine ak (aw rfl rfl Tn.u Kr (j := 0) rfl Om) ?_
 refine ak (af rfl Tn.u rfl (B2.get (Gi _ 0 Om))) ?_
 refine ak (vB rfl rfl (show bits .andNot .u8 _ 7 = ((x0 / 8 * 8 : Nat) : Int) by rw [← Vw]; exact Kd ⟨x0, h0⟩)) ?_
 refine ak (aw rfl rfl Tn.u Kr (j := 0) rfl Om) ?_
 rw [← sP (n := x0 / 8 * 8) Om]
 refine ag (av rfl rfl rfl Kr B2 (by rw [aW]; omega)) rfl ?_
 rintro _ _ ⟨rfl, B3, cg⟩
 have E3 := E2.aE cg hg; rw [fI] at B3
 refine au 6 ?_
 refine ak (aw rfl rfl Tn.u Kr (j := 31) rfl Om) ?_
 refine ak (af rfl Tn.u rfl (B3.get (Gi _ 31 (by rw [List.length_set]; omega)))) ?_
 refine ak (cM rfl rfl (show bits .and .u8 _ 63 = ((x1 % 64 : Nat) : Int) by rw [List.getD_eq_getElem?_getD, List.getElem?_set_ne Om, ← List.getD_eq_getElem?_getD, ← Vx]; exact DT ⟨x1, h1⟩)) ?_
 refine ak (iH rfl rfl (Pz ⟨x1 % 64, by omega⟩)) ?_
 refine ak (aw rfl rfl Tn.u Kr (j := 31) rfl Om) ?_
 rw [← sP (n := x1 % 64 + 64) Om]
 refine ag (av rfl rfl rfl Kr B3 (by rw [aW, List.length_set]; omega)) rfl ?_
 rintro _ _ ⟨rfl, B4, cg⟩
 have E4 := E3.aE cg hg; rw [fI] at B4
 refine aU ?_
 refine hret rfl ?_
 exact ⟨g, rfl, bw (xs := mu xs) (B4.congr (by unfold mu; rw [← Vw, ← Vx])) (rJ xs), E4⟩
theorem rV (A : Oa) (n c : Nat) (xs : Lb) (f : FuncId) (us : List Value) (p : UInt8 → Bool) (fn : Func) (b : Code) (w : World) (HA : Bs w A n xs) (hn : n ≤ 1000000) (hf : Tryz.prog.funcs[f]? = some fn) (hb : fn.body = some b) (hnm : (fn.name == "runtime.NumGoroutine") = false)
  (hp : ∀ (x : UInt8) (w1 : World), Ext w w1 → Ct f ([Value.int .u8 (x.toNat : Int)] ++ us).toArray w1 fun e w' => e = .returned (.bool (p x)) ∧ Ext w1 w') :
  Ct 267 #[.slice A n c, .func (.func f) #[] us.toArray] w fun e w' => ∃ z : Int, e = .returned (.int .i64 z) ∧ (0 ≤ z ↔ xs.any p = true) ∧ Ext w w' := by
 have hl := HA.1
 refine ai 19 func267 rfl rfl rfl rfl ?_
 intro _ hret
 refine aU ?_
 refine az (fun n' L wr => ∃ i : Nat, L = [(0, .slice A n c), (1, .func (.func f) #[] us.toArray), (7, .int .i64 (n : Int)), (8, .int .i64 (i : Int))] ∧ n' = n - i ∧ (i ≤ n ∧ Ext w wr ∧ (xs.take i).any p = false)) _ _ ⟨0, rfl, rfl, by omega, Ext.refl _, rfl⟩ Ls ?_
 rintro _ n' L wr ⟨i, rfl, rfl, _, E, hno⟩ Vx
 refine aU ?_
 refine al rfl (fun Vy => ?_) (fun Vy => ?_)
 ·obtain ⟨b1, Vz, x, rfl, hx, hcx⟩ := (HA.wk E).byte (k := i) Om
  have htk : xs.take (i + 1) = xs.take i ++ [x] := by
   rw [List.take_succ_eq_append_getElem Om, hx.out, List.getD_eq_getElem?_getD, List.getElem?_eq_getElem Om]; rfl
  refine au 16 ?_
  refine ak (af rfl Tn.u rfl hcx) ?_
  refine ag (kA (Φ := fun v w' => v = .bool (p x) ∧ Ext _ w') (xs := [_]) (vs := [.int .u8 (x.toNat : Int)]) rfl hf hb hnm rfl (hp x _ E) (fun _ _ h => ⟨_, h.1, rfl, h.2⟩)) rfl ?_
  rintro _ _ ⟨rfl, ex⟩
  have E2 := E.ext ex
  refine aU ?_
  refine bA rfl (fun Vw => ?_) (fun Vw => ?_)
  ·refine aU ?_
   refine hret rfl ?_
   refine ⟨i, rfl, ⟨fun _ => ?_, fun _ => by omega⟩, E2⟩
   rw [List.any_eq_true]
   exact ⟨x, List.mem_of_mem_take (i := i + 1) (by rw [htk]; simp), Vw⟩
  ·refine au 7 ?_
   refine ae ?_
   refine Vx _ _ ⟨i + 1, rfl, rfl, by omega, E2, by rw [htk, List.any_append, hno]; simpa using Vw⟩ Om Ls
 ·refine aU ?_
  refine hret rfl ?_
  refine ⟨-1, rfl, ⟨fun h => absurd h Om, fun h => ?_⟩, E⟩
  rw [List.take_of_length_le Om] at hno
  rw [hno] at h
  cases h
theorem nL (A : Oa) (n c : Nat) (xs : Lb) (f : FuncId) (us : List Value) (p : UInt8 → Bool) (fn : Func) (b : Code) (w : World) (HA : Bs w A n xs) (hn : n ≤ 1000000) (hf : Tryz.prog.funcs[f]? = some fn) (hb : fn.body = some b) (hnm : (fn.name == "runtime.NumGoroutine") = false)
  (hp : ∀ (x : UInt8) (w1 : World), Ext w w1 → Ct f ([Value.int .u8 (x.toNat : Int)] ++ us).toArray w1 fun e w' => e = .returned (.bool (p x)) ∧ Ext w1 w') :
  Ct 250 #[.slice A n c, .func (.func f) #[] us.toArray] w fun e w' => e = .returned (.bool (xs.any p)) ∧ Ext w w' := by
 refine ai 9 func250 rfl rfl rfl rfl ?_
 intro _ hret
 refine aU ?_
 refine aB func267 rfl (rV A n c xs f us p fn b _ HA hn hf hb hnm hp) ?_
 rintro e _ ⟨_, rfl, hz, ex⟩
 refine aU ?_
 refine hret rfl ?_
 exact ⟨(oD hz.symm).symm, ex⟩
theorem xw (x : UInt8) (w : World) : Ct 251 #[.int .u8 (x.toNat : Int)] w fun e w' => e = .returned (.bool (decide (x ≠ 0))) ∧ Ext w w' := by
 refine ai 5 func251 rfl rfl rfl rfl ?_
 intro _ hret
 refine aU ?_
 refine hret rfl ?_
 exact ⟨cV ⟨fun h e => h (by rw [e]; rfl), fun h e => h (UInt8.toNat_inj.1 (by simpa using e))⟩, Ext.refl _⟩
end
section
open Go.RowKit Tryz
attribute [local irreducible] Y Ef WL WC WK WQ WM cE WN WF dc
def pN (xs ys : Lb) : List UInt8 × Nat := if xs.length ≠ 32 then ([], 1) else if ys.length ≠ 32 then ([], 3) else (Fp.le 32 (rk (Fp.num (mu xs)) (Fp.of (Fp.OQ ys))).val, 0)
def AK (xs ys : Lb) : List UInt8 × Nat := if (pN xs ys).2 ≠ 0 then ([], (pN xs ys).2) else if (pN xs ys).1.any (fun x => decide (x ≠ 0)) then ((pN xs ys).1, 0) else ([], 9)
def Nr (w : World) (r : List UInt8 × Nat) (e : Ending) (w' : World) : Prop := ∃ A k c, e = .returned (.tuple #[.slice A k c, .int .u8 (r.2 : Int)]) ∧ Bs w' A k r.1 ∧ (∀ b o, A = some ⟨b, o, none⟩ → w.heap.size ≤ b) ∧ Ext w w'
theorem sr (A B : Oa) (n c m d : Nat) (xs ys : Lb) (w : World) (HA : Bs w A n xs) (HB : Bs w B m ys) :
  Ct 198 #[.slice A n c, .slice B m d] w (Nr w (pN xs ys)) := by
 have hx := HA.1; have hy := HB.1
 refine bu 19 func198 rfl rfl rfl rfl ?_
 intro _ hret
 refine aU ?_
 refine al rfl (fun Vw => ?_) (fun Vw => ?_)
 ·refine aU ?_
  refine hret rfl rfl ?_
  exact ⟨none, 0, 0, by rw [pN, if_pos Om]; rfl, by rw [pN, if_pos Om]; exact Bs.nil _ _, fun _ _ h => (by cases h), Ext.refl _⟩
 ·refine aU ?_
  refine al rfl (fun Vx => ?_) (fun Vx => ?_)
  ·refine aU ?_
   refine hret rfl rfl ?_
   exact ⟨none, 0, 0, by rw [pN, if_neg Om, if_pos Om]; rfl, by rw [pN, if_neg Om, if_pos Om]; exact Bs.nil _ _, fun _ _ h => (by cases h), Ext.refl _⟩
  ·have hM : pN xs ys = (Fp.le 32 (rk (Fp.num (mu xs)) (Fp.of (Fp.OQ ys))).val, 0) := by rw [pN, if_neg Om, if_neg Om]
   refine aU ?_
   refine aB func239 rfl (Db A n c xs _ HA) ?_
   rintro e _ ⟨_, rfl, H1, ex⟩
   replace HB := HB.ext ex
   have E1 := ex
   refine aU ?_
   refine aB func240 rfl (JM B m d ys _ HB) ?_
   rintro e _ ⟨_, rfl, F2, ex⟩
   refine aU ?_
   replace H1 := H1.ext ex
   obtain ⟨f2, rfl, F2⟩ := F2.fe; have E2 := E1.ext ex
   refine aB func238 rfl (xp _ 32 _ f2 _ _ H1 F2) ?_
   rintro e _ ⟨g3, rfl, _, B3, ex⟩
   have E3 := E2.ext ex; have hs := E2.size
   refine aU ?_
   refine hret rfl rfl ?_
   exact ⟨some ⟨g3, 0, none⟩, 32, 32, by rw [hM]; rfl, by rw [hM]; exact bw B3 (Fp.cS 32 _), fun b o h => by injection h with h; injection h with h; omega, E3⟩
theorem qy (A : Oa) (n c : Nat) (xs : Lb) (w : World) (HA : Bs w A n xs) :
  Ct 138 #[.slice A n c] w (Nr w (pN xs (Fp.le 32 9))) := by
 refine bu 10 func138 rfl rfl rfl rfl ?_
 intro _ hret
 refine aU ?_
 refine aB func143 rfl (de 9 _ Om) ?_
 rintro e _ ⟨_, rfl, F1, ex⟩
 refine aU ?_
 replace HA := HA.ext ex
 have E1 := ex
 refine aB func155 rfl (jB F1 _) ?_
 rintro e _ ⟨_, rfl, _, B2, ex⟩
 refine aU ?_
 replace HA := HA.ext ex
 have E2 := E1.ext ex; have H2 := bw B2 (Fp.cS 32 _)
 refine aB func198 rfl (sr A _ n c 32 32 xs (Fp.le 32 9) _ HA H2) ?_
 rintro e _ ⟨A3, k3, c3, rfl, H3, hf, ex⟩
 have E3 := E2.ext ex; have hs := E2.size
 refine aU ?_
 refine hret rfl rfl ?_
 exact ⟨A3, k3, c3, rfl, H3, fun b o h => by have := hf b o h; omega, E3⟩
theorem uj (A B : Oa) (n c m d : Nat) (xs ys : Lb) (w : World) (HA : Bs w A n xs) (HB : Bs w B m ys) :
  Ct 219 #[.slice A n c, .slice B m d] w (Nr w (AK xs ys)) := by
 refine bu 23 func219 rfl rfl rfl rfl ?_
 intro _ hret
 refine aU ?_
 refine aB func198 rfl (sr A B n c m d xs ys _ HA HB) ?_
 rintro e w1 ⟨A1, k1, c1, rfl, H1, hf, ex⟩
 have E1 := ex; have Vx := H1.1; have hk : k1 ≤ 32 := by rw [← Vx]; unfold pN; split <;> (try split) <;> simp [Fp.cS]
 refine aU ?_
 refine al rfl (fun Vy => ?_) (fun Vy => ?_)
 ·refine aU ?_
  refine hret rfl rfl ?_
  exact ⟨none, 0, 0, by rw [AK, if_pos Om], by rw [AK, if_pos Om]; exact Bs.nil _ _, fun _ _ h => (by cases h), E1⟩
 ·refine aU ?_
  refine aB func250 rfl (nL A1 k1 c1 _ 251 [] (fun x => decide (x ≠ 0)) _ _ _ H1 Om func251 rfl rfl (fun x w1 _ => xw x w1)) ?_
  rintro e _ ⟨rfl, ex⟩
  have E2 := E1.ext ex; have H2 := H1.ext ex
  refine aU ?_
  refine bA rfl (fun Vw => ?_) (fun Vw => ?_)
  ·have hno : ¬ (pN xs ys).1.any (fun x => decide (x ≠ 0)) = true := by simpa using Vw
   refine aU ?_
   refine hret rfl rfl ?_
   exact ⟨none, 0, 0, by rw [AK, if_neg Om, if_neg hno]; rfl, by rw [AK, if_neg Om, if_neg hno]; exact Bs.nil _ _, fun _ _ h => (by cases h), E2⟩
  ·have hno : (pN xs ys).1.any (fun x => decide (x ≠ 0)) = true := by simpa using Vw
   refine aU ?_
   refine hret rfl rfl ?_
   exact ⟨A1, k1, c1, by rw [AK, if_neg Om, if_pos hno]; rfl, by rw [AK, if_neg Om, if_pos hno]; exact H2, hf, E2⟩
end
section
open Go.RowKit Tryz
attribute [local irreducible] Y Ef WL WC WK WQ WM cE WN WF dc
open Hk
theorem oG (A : Oa) (n c : Nat) (xss : List (List UInt8)) (w : World) (ha : pK w A n xss) (hn : n ≤ 70368744177664) (hlen : xss.flatten.length ≤ 70368744177664) :
  Ct 184 #[.slice A n c] w fun e w' => ∃ A' k c', e = .returned (.slice A' k c') ∧ Row w' w.heap.size 5 A' k c' (xss.flatten.map bv) ∧ Ext w w' :=
 (fR A n c xss w ha hn hlen).mono fun _ _ ⟨A', k, c', h1, h2, h3⟩ => ⟨A', k, c', h1, h2, h3⟩
namespace Hk
def Lg : ByteArray := ⟨#[75, 69, 77, 0, 32]⟩
def yx : ByteArray := ⟨#[72, 80, 75, 69, 0, 32, 0, 1, 0, 1]⟩
def Qi : ByteArray := ⟨#[100, 107, 112, 95, 112, 114, 107]⟩
def Qn : ByteArray := ⟨#[115, 107]⟩
def Qw : ByteArray := ⟨#[101, 97, 101, 95, 112, 114, 107]⟩
def Qm : ByteArray := ⟨#[115, 104, 97, 114, 101, 100, 95, 115, 101, 99, 114, 101, 116]⟩
def OP : ByteArray := ⟨#[112, 115, 107, 95, 105, 100, 95, 104, 97, 115, 104]⟩
def inf : ByteArray := ⟨#[105, 110, 102, 111, 95, 104, 97, 115, 104]⟩
def sec : ByteArray := ⟨#[115, 101, 99, 114, 101, 116]⟩
def OK : ByteArray := ⟨#[107, 101, 121]⟩
def OI : ByteArray := ⟨#[98, 97, 115, 101, 95, 110, 111, 110, 99, 101]⟩
def Eg (xs : Lb) : List UInt8 := exp Lg (ext Lg [] Qi xs) Qn [] 32
def tv (xs : Lb) : List UInt8 := (pN (Eg xs) (Fp.le 32 9)).1
def Qj (d enc pb : Lb) : List UInt8 := exp Lg (ext Lg [] Qw d) Qm (enc ++ pb) 32
def xE (xs ys : Lb) : List UInt8 × Nat := if (AK xs ys).2 ≠ 0 then ([], (AK xs ys).2) else (Qj (AK xs ys).1 ys (pN xs (Fp.le 32 9)).1, 0)
def ctx (is : Lb) : List UInt8 := 0 :: (ext yx [] OP [] ++ ext yx [] inf is)
def II (s is : Lb) : List UInt8 := exp yx (ext yx s sec []) OK (ctx is) 16
def JH (s is : Lb) : List UInt8 := exp yx (ext yx s sec []) OI (ctx is) 12
end Hk
theorem zB (nm lb : ByteArray) (xs is : Lb) (k : Nat) : (Hk.exp nm xs lb is k).length = k := Kdf.lQ _ _ _
theorem eX (nm lb : ByteArray) (xs ys : Lb) : (Hk.ext nm xs lb ys).length = 32 := Mac.dN _ _
theorem DP {xs : Lb} (hx : xs.length = 32) : (pN xs (Fp.le 32 9)).1.length = 32 ∧ (pN xs (Fp.le 32 9)).2 = 0 := by
 rw [pN, if_neg Om, if_neg (by rw [Fp.cS]; omega)]; exact ⟨Fp.cS _ _, rfl⟩
theorem oW (xs : Lb) : (Eg xs).length = 32 := zB _ _ _ _ _
theorem dq (xs : Lb) : (tv xs).length = 32 := (DP (oW xs)).1
theorem sa (A : Oa) (n c : Nat) (xs : Lb) (w : World) (HA : Bs w A n xs) (hn : n ≤ 10000) :
  Ct 66 #[.slice A n c] w fun e w' => ∃ A1 c1 A2 c2, e = .returned (.tuple #[.slice A1 32 c1, .slice A2 32 c2]) ∧ Bs w' A1 32 (Eg xs) ∧ Bs w' A2 32 (tv xs) ∧ 32 ≤ c1 ∧ Ext w w' := by
 have E := Ext.refl w
 refine bu 14 func66 rfl rfl rfl rfl ?_
 intro _ hret
 refine aU ?_
 refine aB func137 rfl (fB Lg Qi none A 0 0 n c [] xs _ (Bs.nil _ _) Om HA hn (by decide) (by decide)) ?_
 rintro e _ ⟨A1, c1, rfl, H1, ex⟩
 replace E := E.ext ex
 refine aU ?_
 refine aB func136 rfl (iE Lg Qn A1 none 32 c1 0 0 32 _ [] _ H1 Om (Bs.nil _ _) Om (by decide) (by decide) Om) ?_
 rintro e _ ⟨A2, c2, rfl, H2, Vw, ex⟩
 replace E := E.ext ex
 refine aU ?_
 refine aB func138 rfl (qy A2 32 c2 _ _ H2) ?_
 rintro e _ ⟨A3, k3, c3, rfl, H3, _, ex⟩
 obtain ⟨E,H2⟩ := ba ex E H2
 have hl : k3 = 32 := by rw [← H3.1]; exact (DP H2.1).1
 refine aU ?_
 refine hret rfl rfl ?_
 subst hl; exact ⟨A2, c2, A3, c3, rfl, H2, H3, Vw, E⟩
theorem wG (A B C : Oa) (n c m d k q : Nat) (xs ys zs : Lb) (w : World) (HA : Bs w A n xs) (hn : n ≤ 1000) (HB : Bs w B m ys) (hm : m ≤ 1000) (HC : Bs w C k zs) (hk : k ≤ 1000) :
  Ct 220 #[.slice A n c, .slice B m d, .slice C k q] w fun e w' => ∃ A' c', e = .returned (.slice A' 32 c') ∧ Bs w' A' 32 (Qj xs ys zs) ∧ Ext w w' := by
 have E := Ext.refl w
 have Vx := HB.1; have Vy := HC.1
 refine ai 14 func220 rfl rfl rfl rfl ?_
 intro _ hret
 refine aU ?_
 refine aB func137 rfl (fB Lg Qw none A 0 0 n c [] xs _ (Bs.nil _ _) Om HA Om (by decide) (by decide)) ?_
 rintro e _ ⟨A1, c1, rfl, H1, ex⟩
 obtain ⟨HB,HC,E⟩ := bC ex HB HC E
 refine aU ?_
 refine ag (aK (z := .slice none 0 0) Tn.u Kr rfl rfl rfl rfl rfl) rfl ?_
 rintro _ _ ⟨_, rfl, B2, _, ex⟩
 obtain ⟨HB,HC,E,H1⟩ := bO ex HB HC E H1
 have S2 := mM B2 HB HC
 refine aB func184 rfl (oG _ 2 2 [ys, zs] _ S2 Om So) ?_
 rintro e _ ⟨A3, k3, c3, rfl, R3, ex⟩
 refine aU ?_
 obtain ⟨E,H1⟩ := ba ex E H1
 have H3 := R3.bs; have Vw := H3.1; rw [show [ys, zs].flatten = ys ++ zs by simp] at H3 Vw; rw [List.length_append] at Vw
 refine aB func136 rfl (iE Lg Qm A1 A3 32 c1 k3 c3 32 _ (ys ++ zs) _ H1 Om H3 Om (by decide) (by decide) Om) ?_
 rintro e _ ⟨A4, c4, rfl, H4, _, ex⟩
 replace E := E.ext ex
 refine aU ?_
 refine hret rfl ?_
 exact ⟨A4, c4, rfl, H4, E⟩
theorem Fh (xs ys : Lb) : (pN xs ys).2 < 256 := by
 unfold pN; split
 ·show 1 < 256; omega
 ·split
  ·show 3 < 256; omega
  ·show 0 < 256; omega
theorem Gs (xs ys : Lb) : (AK xs ys).2 < 256 := by
 unfold AK; split
 ·exact Fh _ _
 ·split
  ·show 0 < 256; omega
  ·show 9 < 256; omega
theorem Bc (xs ys : Lb) : (pN xs ys).1.length ≤ 32 := by
 unfold pN; split
 ·exact Nat.zero_le _
 ·split
  ·exact Nat.zero_le _
  ·exact Nat.le_of_eq (Fp.cS _ _)
theorem IA {xs ys : Lb} : (AK xs ys).1.length ≤ 32 := by
 unfold AK; split
 ·exact Nat.zero_le _
 ·split
  ·exact Bc _ _
  ·exact Nat.zero_le _
theorem xA (A B : Oa) (n c m d : Nat) (xs ys : Lb) (w : World) (HA : Bs w A n xs) (_hn : n ≤ 1000) (HB : Bs w B m ys) (hm : m ≤ 1000) :
  Ct 165 #[.slice A n c, .slice B m d] w fun e w' => ∃ A' k c', e = .returned (.tuple #[.slice A' k c', .int .u8 ((xE xs ys).2 : Int)]) ∧ Bs w' A' k (xE xs ys).1 ∧ k ≤ 32 ∧ Ext w w' := by
 have E := Ext.refl w
 refine bu 28 func165 rfl rfl rfl rfl ?_
 intro _ hret
 refine aU ?_
 refine aB func219 rfl (uj A B n c m d xs ys _ HA HB) ?_
 rintro e _ ⟨A1, k1, c1, rfl, H1, _, ex⟩
 obtain ⟨HA,HB,E⟩ := bC ex HA HB E
 have Vx := H1.1; have Vy := IA (xs := xs) (ys := ys)
 refine aU ?_
 refine al rfl (fun Vw => ?_) (fun Vw => ?_)
 ·refine aU ?_
  refine hret rfl rfl ?_
  exact ⟨none, 0, 0, by rw [xE, if_pos Om], by rw [xE, if_pos Om]; exact Bs.nil _ _, by omega, E⟩
 ·refine aU ?_
  refine aB func138 rfl (qy A n c xs _ HA) ?_
  rintro e _ ⟨A2, k2, c2, rfl, H2, _, ex⟩
  obtain ⟨HB,E,H1⟩ := bC ex HB E H1
  have Vz := H2.1; have VA := Bc xs (Fp.le 32 9)
  refine aU ?_
  refine aB func220 rfl (wG A1 B A2 k1 c1 m d k2 c2 _ ys _ _ H1 Om HB hm H2 Om) ?_
  rintro e _ ⟨A3, c3, rfl, H3, ex⟩
  replace E := E.ext ex
  refine aU ?_
  refine hret rfl rfl ?_
  exact ⟨A3, 32, c3, by rw [xE, if_neg Om]; rfl, by rw [xE, if_neg Om]; exact H3, by omega, E⟩
end
end Go.Proofs.YtgfafidlkldeaaaGreat
