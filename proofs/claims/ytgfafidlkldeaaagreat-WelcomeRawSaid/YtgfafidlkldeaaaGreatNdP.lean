/- The law NodeChecks: which leaves are checked. -/
import Derived.Test.YtgfafidlkldeaaaGreatScC
import Derived.Test.YtgfafidlkldeaaaGreatCurA
import Derived.Test.YtgfafidlkldeaaaGreatAu
import Derived.Test.YtgfafidlkldeaaaGreatScA
import Derived.Test.YtgfafidlkldeaaaGreatFieldQ
import Derived.Test.YtgfafidlkldeaaaGreatVc7
import Derived.Test.YtgfafidlkldeaaaGreatShaBits
import Derived.Test.YtgfafidlkldeaaaGreatBigC
import Derived.Test.YtgfafidlkldeaaaGreatMsB
set_option linter.unusedVariables false
set_option linter.unusedSimpArgs false
set_option maxHeartbeats 4000000
set_option maxRecDepth 4000
namespace Go.Proofs.YtgfafidlkldeaaaGreat
section
open Go.RowKit Tryz
attribute [local irreducible] Y Ef WL WC WK WQ WM cE WN WF dc
theorem Ji {P : Fp.F × Fp.F} (oP : Ed.On P) (n b : Nat) : (if n / 2 ^ b % 2 = 1 then Ed.add (Ed.add (Ed.mul (n / 2 ^ (b + 1)) P) (Ed.mul (n / 2 ^ (b + 1)) P)) P else Ed.add (Ed.mul (n / 2 ^ (b + 1)) P) (Ed.mul (n / 2 ^ (b + 1)) P)) = Ed.mul (n / 2 ^ b) P := by
 have e : n / 2 ^ b = 2 * (n / 2 ^ (b + 1)) + n / 2 ^ b % 2 := by
  rw [Nat.pow_succ, ← Nat.div_div_eq_div_mul]; omega
 have Vw : n / 2 ^ b % 2 < 2 := Nat.mod_lt _ Om
 generalize n / 2 ^ (b + 1) = q at *
 generalize n / 2 ^ b % 2 = r at *
 rw [e, ← Ed.mul_two oP]
 by_cases h : r = 1
 ·subst h; rw [if_pos rfl]; rfl
 ·rw [if_neg h]
  have hr : r = 0 := by omega
  subst hr; rfl
theorem vA {cs : Array Value} {P : Fp.F × Fp.F} (hP : PP cs P) (oP : Ed.On P) (n : Nat) (hn : n < Sc.L) (w : World) :
  Ct 71 #[.agg cs, .agg (ws (Sc.wd n))] w fun e w' => ∃ es, e = .returned (.agg es) ∧ PT es (Ed.mul n P) ∧ Ext w w' := by
 obtain ⟨p1, p2, p3, p4, b, rfl, hP⟩ := hP.pc
 have VI : n / 2 ^ 253 = 0 := Nat.div_eq_of_lt (Nat.lt_trans hn Ed.Et)
 have E := Ext.refl w
 refine aH (s := 21) 31 func71 rfl rfl rfl underlying136 rfl Kr rfl ?_
 intro _ hret
 refine aU ?_
 intro w1 g2 (B2 : ao _ _ _ (pc p1 p2 p3 p4 b)) VO ex
 replace E := E.ext ex
 have VP := B2.lt
 refine aU ?_
 intro w2 g3 (B3 : ao _ _ _ (ws (Sc.wd n))) VQ ex
 obtain ⟨E,B2⟩ := ba ex E B2
 have VR := B3.lt
 refine aU ?_
 intro w3 g4 (B4 : ao _ _ _ (pc zf zf zf zf false)) VS ex
 obtain ⟨E,B2,B3⟩ := bC ex E B2 B3
 refine aU ?_
 refine fu 0 (fun n' L wr => ∃ (k g5 g6 : Nat) (cp co : Array Value) (fd : Nat → Nat), L = [(2, .pointer (some ⟨g2, 0, none⟩)), (3, .pointer (some ⟨g3, 0, none⟩)), (4, .pointer (some ⟨g4, 0, none⟩)), (5, .pointer (some ⟨g5, 0, none⟩)), (6, .pointer (some ⟨g6, 0, none⟩)), (7, .int .i64 (k : Int))] ∧ n' = 1 + k ∧ (k ≤ 252 ∧ w.heap.size ≤ g4 ∧ w.heap.size ≤ g5 ∧ g2 ≠ g5 ∧ g3 ≠ g5 ∧ g4 ≠ g5 ∧ g6 ≠ g5 ∧ PT cp P ∧ PT co (Ed.mul (n / 2 ^ (k + 1)) P) ∧ FE (fe fd) (Ed.d + Ed.d) ∧ Ext w wr ∧ ao wr g2 136 cp ∧ ao wr g3 141 (ws (Sc.wd n)) ∧ ao wr g4 136 (pc zf zf zf zf false) ∧ ao wr g5 136 co ∧ ao wr g6 134 (fe fd))) rfl ?_ ?_
 ·rintro G n' L wr ⟨k, g5, g6, cp, co, fd, rfl, rfl, _, Vx, Vy, Vz, VA, VB, VC, Pp, Po, Fd, E, B2, B3, B4, B5, B6⟩ VD
  obtain ⟨a1, a2, a3, a4, rfl, q, A1, A2, A3, A4, Rq⟩ := Po.get
  obtain ⟨r1, r2, r3, r4, rfl, u, R1, R2, R3, R4, Ru⟩ := Pp.get
  have om := Ed.ui oP (n / 2 ^ (k + 1))
  have hbm := Ji oP n k
  refine au 2 ?_
  refine ak (Iu rfl B5) ?_
  refine ak (Iu rfl B5) ?_
  refine ak (cX rfl B6) ?_
  refine aB func152 rfl (wF A1 A2 A3 A4 A1 A2 A3 A4 Fd Rq Rq om om _ _ _) ?_
  rintro e _ ⟨_, rfl, Vw, ex⟩
  refine au 1 ?_
  obtain ⟨E,B2,B3,B4,B5,B6⟩ := iP ex E B2 B3 B4 B5 B6
  obtain ⟨d1, d2, d3, d4, rfl, v, D1, D2, D3, D4, Rv⟩ := Vw.get
  refine ag (ah rfl rfl (by rw [br]; kernel_rfl) B5 (by rw [br, br]) (jI _ _ _ _ _)) rfl ?_
  rintro _ _ ⟨rfl, D5, cg⟩
  replace E := E.aE cg Vy; replace B2 := B2.aE cg Vz; replace B3 := B3.aE cg VA; replace B4 := B4.aE cg VB; replace B6 := B6.aE cg VC; replace B5 := D5
  refine au 5 ?_
  refine ak ((aY rfl Tn.u rfl (by rw [ar]; kernel_rfl) B3)) ?_
  refine aU ?_
  refine aB func153 rfl (Dn n k _ Om) ?_
  rintro e _ ⟨rfl, ex⟩
  obtain ⟨E,B2,B3,B4,B5,B6⟩ := iP ex E B2 B3 B4 B5 B6
  refine aU ?_
  refine al rfl (fun VJ => ?_) (fun VJ => ?_)
  ·refine au 1 ?_
   refine ak (Iu rfl B5) ?_
   refine ak (Iu rfl B2) ?_
   refine ak (cX rfl B6) ?_
   refine aB func152 rfl (wF D1 D2 D3 D4 R1 R2 R3 R4 Fd Rv Ru (Ed.ur om om) oP _ _ _) ?_
   rintro e _ ⟨_, rfl, VE, ex⟩
   refine au 1 ?_
   obtain ⟨E,B2,B3,B4,B5,B6⟩ := iP ex E B2 B3 B4 B5 B6
   rw [if_pos Om] at hbm; rw [hbm] at VE; obtain ⟨e1, e2, e3, e4, rfl, _⟩ := VE.get
   refine ag (ah rfl rfl (by rw [br]; kernel_rfl) B5 (by rw [br, br]) (jI _ _ _ _ _)) rfl ?_
   rintro _ _ ⟨rfl, D5, cg⟩
   replace E := E.aE cg Vy; replace B2 := B2.aE cg Vz; replace B3 := B3.aE cg VA; replace B4 := B4.aE cg VB; replace B6 := B6.aE cg VC; replace B5 := D5; replace Vw := VE
   refine au 6 ?_
   refine ak (eS rfl rfl (show IntKind.i64.wrap ((k : Int) - 1) = (k : Int) - 1 from bc Om Om)) ?_
   refine aU ?_
   refine al rfl (fun VF => ?_) (fun VF => ?_)
   ·refine aU ?_
    refine bV ?_
    obtain ⟨j, rfl⟩ : ∃ j, k = j + 1 := ⟨k - 1, by omega⟩
    rw [show (((j + 1 : Nat) : Int) - 1) = (j : Int) by omega]
    refine VD _ _ ⟨j, g5, g6, _, _, fd, rfl, rfl, by omega, Vx, Vy, Vz, VA, VB, VC, Pp, Vw, Fd, E, B2, B3, B4, B5, B6⟩ Om Ls
   ·obtain rfl : k = 0 := by omega
    rw [Nat.pow_zero, Nat.div_one] at Vw
    refine au 4 ?_
    refine ak (Iu rfl B5) ?_
    refine ag (ah rfl rfl (by rw [br]; kernel_rfl) B4 (by rw [br, br]) (jI _ _ _ _ _)) rfl ?_
    rintro _ VK ⟨rfl, VG, cg⟩
    replace E := E.aE cg Vx
    refine aU ?_
    refine bK ?_
    refine hret rfl VG (br _ _ _ _ _) ?_
    exact ⟨_, rfl, Vw, E⟩
  ·rw [if_neg Om] at hbm
   rw [hbm] at Vw
   refine au 6 ?_
   refine ak (eS rfl rfl (show IntKind.i64.wrap ((k : Int) - 1) = (k : Int) - 1 from bc Om Om)) ?_
   refine aU ?_
   refine al rfl (fun VF => ?_) (fun VF => ?_)
   ·refine aU ?_
    refine bV ?_
    obtain ⟨j, rfl⟩ : ∃ j, k = j + 1 := ⟨k - 1, by omega⟩
    rw [show (((j + 1 : Nat) : Int) - 1) = (j : Int) by omega]
    refine VD _ _ ⟨j, g5, g6, _, _, fd, rfl, rfl, by omega, Vx, Vy, Vz, VA, VB, VC, Pp, Vw, Fd, E, B2, B3, B4, B5, B6⟩ Om Ls
   ·obtain rfl : k = 0 := by omega
    rw [Nat.pow_zero, Nat.div_one] at Vw
    refine au 4 ?_
    refine ak (Iu rfl B5) ?_
    refine ag (ah rfl rfl (by rw [br]; kernel_rfl) B4 (by rw [br, br]) (jI _ _ _ _ _)) rfl ?_
    rintro _ VK ⟨rfl, VG, cg⟩
    replace E := E.aE cg Vx
    refine aU ?_
    refine bK ?_
    refine hret rfl VG (br _ _ _ _ _) ?_
    exact ⟨_, rfl, Vw, E⟩
 ·intro G VD
  refine au 2 ?_
  refine ak (Iu rfl B2) ?_
  refine aB func148 rfl (tu hP _) ?_
  rintro e _ ⟨c4, rfl, P4, ex⟩
  obtain ⟨E,B2,B3,B4⟩ := bO ex E B2 B3 B4
  refine au 1 ?_
  refine ag (ah rfl rfl (by rw [P4.size]; kernel_rfl) B2 (by rw [br, P4.size]) P4.one) rfl ?_
  rintro _ _ ⟨rfl, D2, cg⟩
  replace E := E.aE cg Om; replace B3 := B3.aE cg Om; replace B4 := B4.aE cg Om; replace B2 := D2
  refine aU ?_
  refine aB func149 rfl (nE _) ?_
  rintro e _ ⟨c6, rfl, P6, ex⟩
  obtain ⟨E,B2,B3,B4⟩ := bO ex E B2 B3 B4
  refine aU ?_
  refine aB func150 rfl (yd _) ?_
  rintro e _ ⟨_, rfl, F7, ex⟩
  obtain ⟨E,B2,B3,B4⟩ := bO ex E B2 B3 B4
  refine aU ?_
  refine aB func150 rfl (yd _) ?_
  rintro e _ ⟨_, rfl, F8, ex⟩
  obtain ⟨E,B2,B3,B4⟩ := bO ex E B2 B3 B4
  refine aU ?_
  refine aB func151 rfl (ez F7 F8 _) ?_
  rintro e _ ⟨_, rfl, F9, ex⟩
  obtain ⟨E,B2,B3,B4⟩ := bO ex E B2 B3 B4
  obtain ⟨f9, rfl, F9⟩ := F9.fe
  have VL := B2.lt; have VM := B3.lt; have VN := B4.lt
  refine aU ?_
  intro VT g5 (B5 : ao _ _ _ (pc zf zf zf zf false)) VU ex
  obtain ⟨E,B2,B3,B4⟩ := bO ex E B2 B3 B4
  have VV := B5.lt
  refine aU ?_
  intro VW g6 (B6 : ao _ _ _ (fe zf)) VX ex
  obtain ⟨E,B2,B3,B4,B5⟩ := er ex E B2 B3 B4 B5
  refine ag (ah rfl rfl (by rw [P6.size]; kernel_rfl) B5 (by rw [br, P6.size]) P6.one) rfl ?_
  rintro _ _ ⟨rfl, D5, cg⟩
  replace E := E.aE cg Om; replace B2 := B2.aE cg Om; replace B3 := B3.aE cg Om; replace B4 := B4.aE cg Om; replace B6 := B6.aE cg Om; replace B5 := D5
  refine ag (ah rfl rfl (by rw [aj]; kernel_rfl) B6 (by rw [aj, aj]) (bh _)) rfl ?_
  rintro _ _ ⟨rfl, D6, cg⟩
  replace E := E.aE cg Om; replace B2 := B2.aE cg Om; replace B3 := B3.aE cg Om; replace B4 := B4.aE cg Om; replace B5 := B5.aE cg Om; replace B6 := D6
  refine au 7 ?_
  refine dE ?_; intro VY VH
  refine gn ?_
  refine ae (VH ?_)
  exact VD _ _ ⟨252, g5, g6, c4, c6, f9, rfl, rfl, by omega, by omega, by omega, by omega, by omega, by omega, by omega, P4, P6.congr (by rw [VI]; rfl), F9, E, B2, B3, B4, B5, B6⟩ Ls
end
section
section
open Go.RowKit Tryz
namespace Sc
end Sc
attribute [local irreducible] Y Ef WL WC WK WQ WM cE WN WF dc
end
section
open Go.RowKit Tryz
attribute [local irreducible] Y Ef WL WC WK WQ WM cE WN WF dc
namespace Sg
theorem Gk : ∀ x : Fin 256, bits .andNot .u8 ((x.val : Nat) : Int) 7 = ((x.val / 8 * 8 : Nat) : Int) := by decide +kernel
theorem Mw : ∀ x : Fin 256, bits .and .u8 ((x.val : Nat) : Int) 63 = ((x.val % 64 : Nat) : Int) := by decide +kernel
theorem OG : ∀ x : Fin 64, bits .or .u8 ((x.val : Nat) : Int) 64 = ((x.val + 64 : Nat) : Int) := by decide +kernel
def gR (h : Lb) : List UInt8 := (h.set 0 (UInt8.ofNat ((h.getD 0 0).toNat / 8 * 8))).set 31 (UInt8.ofNat ((h.getD 31 0).toNat % 64 + 64))
theorem rG (h : Lb) : (gR h).length = h.length := by unfold gR; simp
theorem xa (h : Lb) : (gR h).drop 32 = h.drop 32 := by
 unfold gR; rw [List.drop_set_of_lt Om, List.drop_set_of_lt Om]
def raw (seed : Lb) : Nat := Fp.num ((gR (Lng.sum seed)).take 32)
def sec (seed : Lb) : Nat := raw seed % Sc.L
def pre (seed : Lb) : List UInt8 := (Lng.sum seed).drop 32
theorem zu (seed : Lb) : (pre seed).length = 32 := by unfold pre; rw [List.length_drop, Lng.bP]
theorem Hf (seed : Lb) : sec seed < Sc.L := Nat.mod_lt _ Sc.Bk
def OT (xs : Lb) : Nat := Fp.num (Lng.sum xs) % Sc.L
theorem yZ (xs : Lb) : OT xs < Sc.L := Nat.mod_lt _ Sc.Bk
theorem vp (xs : Lb) : Fp.num ((Lng.sum xs).take 64) % Sc.L = OT xs := by rw [List.take_of_length_le (by rw [Lng.bP]; omega)]; rfl
def tv (seed : Lb) : List UInt8 := Ed.enc (Ed.mul (sec seed) Ed.B)
end Sg
theorem pT (A : Oa) (n c : Nat) (xs : Lb) (w : World) (HA : Bs w A n xs) (hn : n ≤ 800000) :
  Ct 154 #[.slice A n c] w fun e w' => ∃ g, e = .returned (.tuple #[.agg (ws (Sc.wd (Sg.sec xs))), .slice (some ⟨g, 32, none⟩) 32 32]) ∧ Bs w' (some ⟨g, 32, none⟩) 32 (Sg.pre xs) ∧ w.heap.size ≤ g ∧ Ext w w' := by
 have E := Ext.refl w
 have hxl := HA.1
 obtain ⟨h, hh⟩ : ∃ h, h = Lng.sum xs := ⟨_, rfl⟩
 have hl : h.length = 64 := by rw [hh, Lng.bP]
 obtain ⟨x0, Vw⟩ : ∃ x, x = (h.getD 0 0).toNat := ⟨_, rfl⟩
 obtain ⟨x1, Vx⟩ : ∃ x, x = (h.getD 31 0).toNat := ⟨_, rfl⟩
 have h0 : x0 < 256 := Vw ▸ UInt8.toNat_lt _
 have h1 : x1 < 256 := Vx ▸ UInt8.toNat_lt _
 have ht : (h.set 0 (UInt8.ofNat (x0 / 8 * 8))).set 31 (UInt8.ofNat (x1 % 64 + 64)) = Sg.gR h := by unfold Sg.gR; rw [Vw, Vx]
 have hs : Fp.num (((Sg.gR h).take 32).take 64) % Sc.L = Sg.sec xs := by
  rw [List.take_take, show min 64 32 = 32 from rfl, hh]; rfl
 have hp : (Sg.gR h).drop 32 = Sg.pre xs := by rw [Sg.xa, hh]; rfl
 have htl : (Sg.gR h).length = 64 := by rw [Sg.rG, hl]
 refine dn (s := 4) 25 func154 rfl rfl rfl underlying141 rfl Kr rfl ?_
 intro _ hret
 refine aU ?_
 intro w1 g2 (B2 : ao _ _ _ (ws z4)) Vy ex
 replace E := E.ext ex
 refine aU ?_
 refine ag (aK (z := .slice none 0 0) Tn.u Kr rfl rfl rfl rfl rfl) rfl ?_
 rintro _ _ ⟨_, rfl, B3, _, ex⟩
 obtain ⟨E,B2⟩ := ba ex E B2
 have S3 := kQ B3 (HA.ext E); have Vz := B2.lt
 refine aB func194 rfl (tR _ 1 1 _ _ S3 Om So) ?_
 rintro e _ ⟨g4, rfl, _, B4, ex⟩
 obtain ⟨E,B2⟩ := ba ex E B2
 rw [show [xs].flatten = xs by simp, ← hh] at B4
 refine au 7 ?_
 refine ak (aw rfl rfl Tn.u Kr (j := 0) rfl Om) ?_
 refine ak (af rfl Tn.u rfl (B4.get (jU (i := 0) Om))) ?_
 refine ak (vB rfl rfl (show bits .andNot .u8 _ 7 = ((x0 / 8 * 8 : Nat) : Int) by rw [← Vw]; exact Sg.Gk ⟨x0, h0⟩)) ?_
 refine ak (aw rfl rfl Tn.u Kr (j := 0) rfl Om) ?_
 rw [← yB (n := x0 / 8 * 8) Om]
 refine ag (av rfl rfl rfl Kr B4 (by rw [aW]; omega)) rfl ?_
 rintro _ _ ⟨rfl, D4, cg⟩
 rw [lu] at D4; replace E := E.aE cg Om; replace B2 := B2.aE cg Om
 refine au 6 ?_
 refine ak (aw rfl rfl Tn.u Kr (j := 31) rfl Om) ?_
 refine ak (af rfl Tn.u rfl (D4.get (jU (i := 31) (by rw [List.length_set]; omega)))) ?_
 refine ak (cM rfl rfl (show bits .and .u8 _ 63 = ((x1 % 64 : Nat) : Int) by rw [List.getD_eq_getElem?_getD, List.getElem?_set_ne Om, ← List.getD_eq_getElem?_getD, ← Vx]; exact Sg.Mw ⟨x1, h1⟩)) ?_
 refine ak (iH rfl rfl (Sg.OG ⟨x1 % 64, by omega⟩)) ?_
 refine ak (aw rfl rfl Tn.u Kr (j := 31) rfl Om) ?_
 rw [← yB (n := x1 % 64 + 64) Om]
 refine ag (av rfl rfl rfl Kr D4 (by rw [aW, List.length_set]; omega)) rfl ?_
 rintro _ _ ⟨rfl, D5, cg⟩
 rw [lu, ht] at D5; replace E := E.aE cg Om; replace B2 := B2.aE cg Om; have VA : w.heap.size ≤ g4 := Om; have H5 := bw D5 htl
 refine aU ?_
 refine aC Kr 7 rfl ?_; intro VB ex VC
 obtain ⟨E,B2,H5⟩ := bC ex E B2 H5
 refine zm [0] ?_
 refine dk 1 rfl (fun _ => kv (s := 1) rfl rfl Tn.u Kr (j := 32) rfl Om) ?_
 refine zm [3] ?_
 refine dk 4 rfl (fun _ => nO (s := 1) rfl rfl Tn.u Kr (j := 32) rfl Om) ?_
 refine bD 2 rfl func193 rfl (qm _ 32 64 ((Sg.gR h).take 32) _ (H5.take Om) Om) ?_
 rintro e _ ⟨rfl, ex⟩
 refine au 1 ?_
 obtain ⟨E,B2,H5⟩ := bC ex E B2 H5
 rw [hs]
 refine bk 5 Kr ?_; refine bH rfl (ah rfl rfl (by rw [ar]; kernel_rfl) B2 (by rw [ar, ar]) (dI _)) rfl ?_
 rintro _ _ ⟨rfl, D2, cg⟩
 refine ⟨.inl rfl, ?_⟩
 have E4 := E.aE cg Vy; have H7 := H5.aE cg fun b off e => by { injection e with e; injection e with e _; omega }
 refine zm [6] ?_
 refine hret rfl rfl D2 (ar _) ?_
 exact ⟨g4, rfl, by have := H7.cut (k := 32) (cap := 64) Om Om; rw [hp] at this; exact this, VA, E4⟩
theorem yg (A : Oa) (n c : Nat) (xs : Lb) (w : World) (HA : Bs w A n xs) (hn : n ≤ 800000) :
  Ct 72 #[.slice A n c] w fun e w' => e = .returned (.agg (ws (Sc.wd (if xs.length = 32 then Sg.sec xs else 0)))) ∧ Ext w w' := by
 have E := Ext.refl w
 have hl := HA.1
 have Vw : ws z4 = ws (Sc.wd 0) := iu fun j _ => by unfold z4 Sc.wd; simp
 refine aH (s := 4) 15 func72 rfl rfl rfl underlying141 rfl Kr rfl ?_
 intro _ hret
 refine aU ?_
 intro w1 g2 (B2 : ao _ _ _ (ws z4)) Vx ex
 replace E := E.ext ex
 refine aU ?_
 refine al rfl (fun Vy => ?_) (fun Vy => ?_)
 ·refine au 2 ?_
  refine ak (aq rfl (cells := ws z4) Kr) ?_
  refine ag (ah rfl rfl (by rw [ar]; kernel_rfl) B2 (by simp only [ar]) (dI _)) rfl ?_
  rintro _ _ ⟨rfl, D2, cg⟩
  replace E := E.aE cg Vx; rw [Vw] at D2
  refine aU ?_
  refine hret rfl D2 (ar _) ?_
  exact ⟨by rw [if_neg (show ¬ xs.length = 32 by omega)], E⟩
 ·refine aU ?_
  refine aB func154 rfl (pT A n c xs _ (HA.ext E) hn) ?_
  rintro e _ ⟨_, rfl, _, _, ex⟩
  obtain ⟨E,B2⟩ := ba ex E B2
  have Vz := B2.lt
  refine aU ?_
  intro w5 g3 (B3 : ao _ _ _ (ws z4)) VA ex
  obtain ⟨E,B2⟩ := ba ex E B2
  refine ag (ah rfl rfl (by rw [ar]; kernel_rfl) B3 (by rw [ar, ar]) (dI _)) rfl ?_
  rintro _ _ ⟨rfl, D3, cg⟩
  replace E := E.aE cg Om; replace B2 := B2.aE cg Om
  refine au 5 ?_
  refine ak ((aY rfl Tn.u rfl (by rw [ar]; kernel_rfl) D3)) ?_
  refine ag (ah rfl rfl (by rw [ar]; kernel_rfl) B2 (by rw [ar, ar]) (dI _)) rfl ?_
  rintro _ _ ⟨rfl, D2, cg⟩
  replace E := E.aE cg Om
  refine aU ?_
  refine hret rfl D2 (ar _) ?_
  exact ⟨by rw [if_pos (show xs.length = 32 by omega)], E⟩
def nQ (xs : Lb) : List UInt8 × Nat := if xs.length = 32 then (Sg.tv xs, 0) else ([], 1)
theorem qj (A : Oa) (n c : Nat) (xs : Lb) (w : World) (HA : Bs w A n xs) (hn : n ≤ 800000) :
  Ct 29 #[.slice A n c] w fun e w' => ∃ A' k c', e = .returned (.tuple #[.slice A' k c', .int .u8 ((nQ xs).2 : Int)]) ∧ Bs w' A' k (nQ xs).1 ∧ k ≤ 32 ∧ k ≤ c' ∧ Ext w w' := by
 have E := Ext.refl w
 have hl := HA.1
 refine bu 12 func29 rfl rfl rfl rfl ?_
 intro _ hret
 refine aU ?_
 refine al rfl (fun Vw => ?_) (fun Vw => ?_)
 ·refine aU ?_
  refine hret rfl rfl ?_
  exact ⟨none, 0, 0, by unfold nQ; rw [if_neg (show ¬ xs.length = 32 by omega)]; rfl, by unfold nQ; rw [if_neg (show ¬ xs.length = 32 by omega)]; exact Bs.nil _ _, by omega, by omega, E⟩
 ·refine aU ?_
  refine aB func70 rfl (sS _) ?_
  rintro e _ ⟨_, rfl, P1, ex⟩
  replace E := E.ext ex
  refine aU ?_
  refine aB func72 rfl (yg A n c xs _ (HA.ext E) hn) ?_
  rintro e _ ⟨rfl, ex⟩
  refine au 1 ?_
  replace E := E.ext ex
  rw [if_pos (show xs.length = 32 by omega)]
  refine aB func71 rfl (vA P1.pp Ed.No (Sg.sec xs) (Sg.Hf xs) _) ?_
  rintro e _ ⟨_, rfl, P3, ex⟩
  replace E := E.ext ex
  refine aU ?_
  refine aB func73 rfl (rr P3.pp _) ?_
  rintro e _ ⟨g4, rfl, _, B4, ex⟩
  replace E := E.ext ex
  refine aU ?_
  refine hret rfl rfl ?_
  exact ⟨some ⟨g4, 0, none⟩, 32, 32, by unfold nQ; rw [if_pos (show xs.length = 32 by omega)]; rfl, by unfold nQ; rw [if_pos (show xs.length = 32 by omega)]; exact bw B4 (Ed.ig _), by omega, by omega, E⟩
end
section
open Go.RowKit Tryz
attribute [local irreducible] Y Ef WL WC WK WQ WM cE WN WF dc
namespace Sg
end Sg
end
section
namespace Sg
end Sg
end
section
open Go.RowKit Tryz
attribute [local irreducible] Y Ef WL WC WK WQ WM cE WN WF dc
end
end
section
section
open Go.RowKit Tryz
attribute [local irreducible] Y Ef WL WC WK WQ WM cE WN WF dc
namespace Sg
def xI (s t : Lb) : Nat := OT (pre s ++ t)
def pU (s t : Lb) : List UInt8 := Ed.enc (Ed.mul (xI s t) Ed.B)
def Mn (s t : Lb) : Nat := OT (pU s t ++ tv s ++ t)
def sum (s t : Lb) : Nat := (xI s t + Mn s t * sec s % Sc.L) % Sc.L
def sig (s t : Lb) : List UInt8 := pU s t ++ Fp.le 32 (sum s t)
theorem jF (s t : Lb) : (pU s t).length = 32 := Ed.ig _
theorem jP (s t : Lb) : (sig s t).length = 64 := by unfold sig; rw [List.length_append, jF, Fp.cS]
theorem dq (s : Lb) : (tv s).length = 32 := Ed.ig _
end Sg
def jv (s t : Lb) : List UInt8 × Nat := if s.length = 32 then (Sg.sig s t, 0) else ([], 1)
theorem Bs.OW {w : World} {g o n : Nat} {xs : Lb} (h : Bs w (some ⟨g, o, none⟩) n xs) (hn : 0 < n) : g < w.heap.size := by
 obtain ⟨b', o', e', Vw, _⟩ := h.get hn
 injection e' with e'
 injection e' with e1 _ _
 omega
theorem Bs.yQ {w w' : World} {A : Oa} {n g : Nat} {xs : Lb} {w0 : World} (h : Bs w A n xs) (cg : lA w g w') (h0 : Bs w0 A n xs) (hg : w0.heap.size ≤ g) : Bs w' A n xs := by
 rcases Nat.eq_zero_or_pos n with hn | hn
 ·subst hn; exact ⟨h.1, .inl (by rw [List.eq_nil_of_length_eq_zero h.1]; rfl)⟩
 ·refine h.aE cg fun b o e => ?_
  obtain ⟨b', o', e', Vw, _⟩ := h0.get hn
  rw [e] at e'
  injection e' with e'
  injection e' with e1 _ _
  omega
theorem xz (A : Oa) (n c : Nat) (xss : List (List UInt8)) (w : World) (ha : pK w A n xss) (hn : n ≤ 70368744177664) (hlen : xss.flatten.length ≤ 70368744177664) :
  Ct 184 #[.slice A n c] w fun e w' => ∃ A' k c', e = .returned (.slice A' k c') ∧ Row w' w.heap.size 5 A' k c' (xss.flatten.map bv) ∧ Ext w w' :=
 (fR A n c xss w ha hn hlen).mono fun _ _ ⟨A', k, c', h1, h2, h3⟩ => ⟨A', k, c', h1, h2, h3⟩
theorem HY (A : Oa) (n c : Nat) (xs : Lb) (B : Oa) (m d : Nat) (ts : Lb) (w : World) (HA : Bs w A n xs) (HB : Bs w B m ts) (hn : n ≤ 100000) (hm : m ≤ 100000) :
  Ct 134 #[.slice A n c, .slice B m d] w fun e w' => ∃ A' k c', e = .returned (.tuple #[.slice A' k c', .int .u8 ((jv xs ts).2 : Int)]) ∧ Bs w' A' k (jv xs ts).1 ∧ k ≤ c' ∧ Ext w w' := by
 have E := Ext.refl w
 have hlA := HA.1; have hlB := HB.1
 refine bu 50 func134 rfl rfl rfl rfl ?_
 intro _ hret
 refine aU ?_
 refine aB func29 rfl (qj A n c xs _ (HA.ext E) Om) ?_
 rintro e _ ⟨_, _, _, rfl, H1, _, _, ex⟩
 replace E := E.ext ex
 refine aU ?_
 refine al rfl (fun Vx => ?_) (fun Vx => ?_)
 ·have hne : ¬ xs.length = 32 := fun h => by unfold nQ at Vx; rw [if_pos h] at Vx; exact Vx rfl
  refine aU ?_
  refine hret rfl rfl ?_
  exact ⟨none, 0, 0, by unfold jv nQ; rw [if_neg hne, if_neg hne], by unfold jv; rw [if_neg hne]; exact Bs.nil _ _, by omega, E⟩
 ·have Vz : xs.length = 32 := Classical.byContradiction fun h => by unfold nQ at Vx; rw [if_neg h] at Vx; exact absurd Vx (by decide)
  have hpe : (nQ xs).1 = Sg.tv xs := by unfold nQ; rw [if_pos Vz]
  rw [hpe] at H1
  refine aU ?_
  refine aB func154 rfl (pT A n c xs _ (HA.ext E) Om) ?_
  rintro e _ ⟨_, rfl, H2, _, ex⟩
  obtain ⟨E,H1⟩ := ba ex E H1
  have VT := E.size; have VA := H1; have VE := H2
  refine aU ?_
  intro w3 g8 (B8 : ao _ _ _ (ws z4)) VU ex
  obtain ⟨E,H1,H2⟩ := bC ex E H1 H2
  refine ag (ah rfl rfl (by rw [ar]; kernel_rfl) B8 (by rw [ar, ar]) (dI _)) rfl ?_
  rintro _ _ ⟨rfl, D8, cg⟩
  replace E := E.aE cg Om; replace H1 := H1.yQ cg VA Om; replace H2 := H2.yQ cg VE Om; replace B8 := D8
  refine aU ?_
  refine ag (aK (z := .slice none 0 0) Tn.u Kr rfl rfl rfl rfl rfl) rfl ?_
  rintro _ _ ⟨_, rfl, B9, _, ex⟩
  obtain ⟨E,H1,H2,B8⟩ := bO ex E H1 H2 B8
  have S9 := mM B9 H2 (HB.ext E)
  refine aB func194 rfl (tR _ 2 2 _ _ S9 Om (by have := Sg.zu xs; simp; omega)) ?_
  rintro e _ ⟨_, rfl, _, VB, ex⟩
  refine aU ?_
  obtain ⟨E,H1,B8⟩ := bC ex E H1 B8
  rw [show [Sg.pre xs, ts].flatten = Sg.pre xs ++ ts by simp] at VB
  refine aB func193 rfl (qm _ 64 64 _ _ (bw VB (Lng.bP _)) Om) ?_
  rintro e _ ⟨rfl, ex⟩
  refine au 1 ?_
  obtain ⟨E,H1,B8⟩ := bC ex E H1 B8
  rw [Sg.vp]
  have VF := B8.lt; have VA := H1
  refine aU ?_
  intro w8 VV (Vw : ao _ _ _ (ws z4)) VG ex
  obtain ⟨E,H1,B8⟩ := bC ex E H1 B8
  refine ag (ah rfl rfl (by rw [ar]; kernel_rfl) Vw (by rw [ar, ar]) (dI _)) rfl ?_
  rintro _ _ ⟨rfl, VH, cg⟩
  replace E := E.aE cg Om; replace B8 := B8.aE cg Om; replace H1 := H1.yQ cg VA Om; replace Vw := VH
  refine aU ?_
  refine aC Kr 5 rfl ?_; intro VW ex VX
  obtain ⟨E,H1,B8,Vw⟩ := bO ex E H1 B8 Vw
  refine my 1 rfl ((aY rfl Tn.u rfl (by rw [ar]; kernel_rfl) Vw)) ?_
  refine bD 0 rfl func70 rfl (sS _) ?_
  rintro e _ ⟨_, rfl, PB, ex⟩
  obtain ⟨E,H1,B8,Vw⟩ := bO ex E H1 B8 Vw
  refine aU ?_
  refine bD 2 rfl func71 rfl (vA PB.pp Ed.No (Sg.xI xs ts) (Sg.yZ _) _) ?_
  rintro e _ ⟨_, rfl, PR, ex⟩
  obtain ⟨E,H1,B8,Vw⟩ := bO ex E H1 B8 Vw
  refine aU ?_
  refine bD 3 rfl func73 rfl (rr PR.pp _) ?_
  rintro e VI ⟨VJ, rfl, _, VK, ex⟩
  obtain ⟨E,H1,B8,Vw⟩ := bO ex E H1 B8 Vw
  have H3 : Bs VI (some ⟨VJ, 0, none⟩) 32 (Sg.pU xs ts) := bw VK (Ed.ig _)
  refine zm [4] ?_
  refine ag (aK (z := .slice none 0 0) Tn.u Kr rfl rfl rfl rfl rfl) rfl ?_
  rintro _ _ ⟨_, rfl, VL, _, ex⟩
  obtain ⟨E,H1,B8,Vw,H3⟩ := er ex E H1 B8 Vw H3
  have VM := lJ VL H3 H1 (HB.ext E)
  refine aB func194 rfl (tR _ 3 3 _ _ VM Om (by have := Sg.jF xs ts; have := Sg.dq xs; simp; omega)) ?_
  rintro e _ ⟨_, rfl, _, VC, ex⟩
  refine aU ?_
  obtain ⟨E,B8,Vw,H3⟩ := bO ex E B8 Vw H3
  rw [show [Sg.pU xs ts, Sg.tv xs, ts].flatten = Sg.pU xs ts ++ Sg.tv xs ++ ts by simp] at VC
  refine aB func193 rfl (qm _ 64 64 _ _ (bw VC (Lng.bP _)) Om) ?_
  rintro e _ ⟨rfl, ex⟩
  refine au 1 ?_
  obtain ⟨E,B8,Vw,H3⟩ := bO ex E B8 Vw H3
  rw [Sg.vp]
  have VN := B8.lt; have VD := Vw.lt; have VY := Bs.OW H3 Om
  refine aU ?_
  intro VZ V0 (Vy : ao _ _ _ (ws z4)) VO ex
  obtain ⟨E,B8,Vw,H3⟩ := bO ex E B8 Vw H3
  refine ag (ah rfl rfl (by rw [ar]; kernel_rfl) Vy (by rw [ar, ar]) (dI _)) rfl ?_
  rintro _ _ ⟨rfl, VP, cg⟩
  replace E := E.aE cg Om; replace B8 := B8.aE cg Om; replace Vw := Vw.aE cg Om; replace H3 := H3.aE cg (fun b o e => by injection e with e; injection e with e1 _ _; omega); replace Vy := VP
  refine aU ?_
  refine aC Kr 11 rfl ?_; intro V4 ex V5
  obtain ⟨E,B8,Vw,H3,Vy⟩ := er ex E B8 Vw H3 Vy
  refine zm [0] ?_
  refine my 1 rfl ((aY rfl Tn.u rfl (by rw [ar]; kernel_rfl) Vw)) ?_
  refine my 2 rfl ((aY rfl Tn.u rfl (by rw [ar]; kernel_rfl) Vy)) ?_
  refine my 3 rfl ((aY rfl Tn.u rfl (by rw [ar]; kernel_rfl) B8)) ?_
  refine bD 4 rfl func196 rfl (FQ (Sg.Mn xs ts) (Sg.sec xs) _ (Sg.yZ _) (Sg.Hf _)) ?_
  rintro e _ ⟨rfl, ex⟩
  obtain ⟨E,H3⟩ := ba ex E H3
  refine aU ?_
  refine bD 5 rfl func195 rfl (EW (Sg.xI xs ts) (Sg.Mn xs ts * Sg.sec xs % Sc.L) _ (Sg.yZ _) (Nat.mod_lt _ Sc.Bk)) ?_
  rintro e _ ⟨rfl, ex⟩
  obtain ⟨E,H3⟩ := ba ex E H3
  refine aU ?_
  refine bD 6 rfl func197 rfl (zJ (Sg.sum xs ts) _) ?_
  rintro e _ ⟨_, rfl, _, VQ, ex⟩
  refine aU ?_
  obtain ⟨E,H3⟩ := ba ex E H3
  have H5 := bw VQ (Fp.cS 32 _)
  refine bk 7 Kr ?_; refine bH rfl (aK (z := .slice none 0 0) Tn.u Kr rfl rfl rfl rfl rfl) rfl ?_
  rintro _ _ ⟨_, rfl, VR, _, ex⟩
  refine ⟨.inr ex, ?_⟩
  obtain ⟨E,H3,H5⟩ := bC ex E H3 H5
  have VS := mM VR H3 H5
  refine bD 8 rfl func184 rfl (xz _ 2 2 _ _ VS Om (by have := Sg.jF xs ts; simp [Fp.cS]; omega)) ?_
  rintro e _ ⟨A6, k6, c6, rfl, R6, ex⟩
  replace E := E.ext ex
  rw [show [Sg.pU xs ts, Fp.le 32 (Sg.sum xs ts)].flatten = Sg.sig xs ts by simp [Sg.sig]] at R6
  refine zm [9, 10] ?_
  refine hret rfl rfl ?_
  exact ⟨A6, k6, c6, by unfold jv; rw [if_pos Vz]; rfl, by unfold jv; rw [if_pos Vz]; exact R6.bs, R6.cap, E⟩
end
section
open Go.RowKit Tryz
attribute [local irreducible] Y Ef WL WC WK WQ WM cE WN WF dc
theorem Fk {A : Oa} {n c : Nat} {xs : Lb} {w : World} (HA : Bs w A n xs) (h : xs.length = 32) :
  Ct 29 #[.slice A n c] w fun e w' => ∃ A' c', e = .returned (.tuple #[.slice A' 32 c', .int .u8 0]) ∧ Bs w' A' 32 (Sg.tv xs) ∧ 32 ≤ c' ∧ Ext w w' :=
 (qj A n c xs w HA (by have := HA.1; omega)).mono fun _ _ ⟨A', k, c', h1, h2, _, h4, h5⟩ => by
  have e : nQ xs = (Sg.tv xs, 0) := by unfold nQ; rw [if_pos h]
  rw [e] at h1 h2
  have hk : k = 32 := h2.1.symm.trans (Sg.dq xs)
  subst hk
  exact ⟨A', c', h1, h2, h4, h5⟩
end
end
section
open Go.RowKit Tryz
attribute [local irreducible] Y Ef WL WC WK WQ WM cE WN WF dc
namespace Sg
def text (l t : Lb) : List UInt8 := Wire.vec (Kdf.FL ++ l) ++ Wire.vec t
theorem vX (l t : Lb) : (text l t).length ≤ l.length + t.length + 16 := by
 have h1 := Wire.ck (Kdf.FL ++ l).length; have h2 := Wire.ck t.length
 unfold text
 simp only [List.length_append, Wire.mC]
 simp only [List.length_append] at h1
 have : Kdf.FL.length = 8 := rfl
 omega
end Sg
theorem qT (s : ByteArray) (B : Oa) (m d : Nat) (ts : Lb) (w : World) (HB : Bs w B m ts) (hs : s.size ≤ 1000) (hm : m ≤ 90000) :
  Ct 135 #[.string s, .slice B m d] w fun e w' => ∃ A' k c', e = .returned (.slice A' k c') ∧ Row w' w.heap.size 5 A' k c' ((Sg.text s.data.toList ts).map bv) ∧ Ext w w' := by
 have E := Ext.refl w
 have Vy := Wire.ck (8 + s.size)
 have hcs : (⟨#[77, 76, 83, 32, 49, 46, 48, 32]⟩ : ByteArray).size = 8 := rfl
 refine ai 11 func135 rfl rfl rfl rfl ?_
 intro _ hret
 refine au 8 ?_
 refine ak (qi rfl rfl Om) ?_
 refine ag (nJ rfl Tn.u Tn.u Tn.u) rfl ?_
 rintro _ _ ⟨_, c2, rfl, H2, _, ex⟩
 obtain ⟨HB,E⟩ := ba ex HB E
 rw [tG, dV] at H2
 refine aB func162 rfl (dz none _ 0 0 _ c2 [] _ _ (Bs.nil _ _) Om (by rw [dV]; exact H2) (by rw [dV]; omega)) ?_
 rintro e _ ⟨A3, k3, c3, rfl, R3, Vw, ex⟩
 obtain ⟨HB,E⟩ := ba ex HB E
 have H3 := R3.bs; rw [dV] at Vw
 refine aU ?_
 have Vx := E.size
 refine aB func162 rfl (dz A3 B k3 c3 m d _ ts _ H3 Om HB Om) ?_
 rintro e _ ⟨A4, k4, c4, rfl, R4, _, ex⟩
 replace E := E.ext ex
 refine aU ?_
 refine hret rfl ?_
 exact ⟨A4, k4, c4, rfl, (R4.congr rfl (by simp [Sg.text])).lower Vx, E⟩
theorem sd (A : Oa) (n c : Nat) (xs : Lb) (s : ByteArray) (B : Oa) (m d : Nat) (ts : Lb) (w : World) (HA : Bs w A n xs) (HB : Bs w B m ts) (hn : n ≤ 100000) (hs : s.size ≤ 1000) (hm : m ≤ 90000) :
  Ct 63 #[.slice A n c, .string s, .slice B m d] w fun e w' => ∃ A' k c', e = .returned (.tuple #[.slice A' k c', .int .u8 ((jv xs (Sg.text s.data.toList ts)).2 : Int)]) ∧ Bs w' A' k (jv xs (Sg.text s.data.toList ts)).1 ∧ k ≤ c' ∧ Ext w w' := by
 have E := Ext.refl w
 have hlt := Sg.vX s.data.toList ts
 have hsl : s.data.toList.length = s.size := by simp
 have hlB := HB.1
 refine bu 15 func63 rfl rfl rfl rfl ?_
 intro _ hret
 refine aU ?_
 refine aB func135 rfl (qT s B m d ts _ HB hs hm) ?_
 rintro e _ ⟨A2, k2, c2, rfl, R2, ex⟩
 refine aU ?_
 obtain ⟨HA,E⟩ := ba ex HA E
 have H2 := R2.bs; have Vx := H2.1
 refine aB func134 rfl (HY A n c xs A2 k2 c2 _ _ HA H2 hn Om) ?_
 rintro e _ ⟨A3, k3, c3, rfl, H3, Vw, ex⟩
 replace E := E.ext ex
 refine aU ?_
 refine hret rfl rfl ?_
 exact ⟨A3, k3, c3, rfl, H3, Vw, E⟩
theorem AX {A : Oa} {n c : Nat} {xs : Lb} {s : ByteArray} {B : Oa} {m d : Nat} {ts : Lb} {w : World} (HA : Bs w A n xs) (HB : Bs w B m ts) (h : xs.length = 32) (hs : s.size ≤ 1000) (hm : m ≤ 90000) :
  Ct 63 #[.slice A n c, .string s, .slice B m d] w fun e w' => ∃ A' c', e = .returned (.tuple #[.slice A' 64 c', .int .u8 0]) ∧ Bs w' A' 64 (Sg.sig xs (Sg.text s.data.toList ts)) ∧ 64 ≤ c' ∧ Ext w w' :=
 (sd A n c xs s B m d ts w HA HB (by have := HA.1; omega) hs hm).mono fun _ _ ⟨A', k, c', h1, h2, h4, h5⟩ => by
  have e : jv xs (Sg.text s.data.toList ts) = (Sg.sig xs (Sg.text s.data.toList ts), 0) := by unfold jv; rw [if_pos h]
  rw [e] at h1 h2
  have hk : k = 64 := h2.1.symm.trans (Sg.jP xs _)
  subst hk
  exact ⟨A', c', h1, h2, h4, h5⟩
end
section
open Go.RowKit Tryz
attribute [local irreducible] Y Ef WL WC WK WQ WM cE WN WF dc WJ gJ
open Wire Nd
def Jo : ByteArray := ⟨#[76, 101, 97, 102, 78, 111, 100, 101, 84, 66, 83]⟩
theorem Fj : Jo.size ≤ 1000 := by decide
def pn (l : bT) (z : Int) : Prop := l.src = 1 ∨ 0 ≤ z ∧ z < 65536
instance (l : bT) (z : Int) : Decidable (pn l z) := by unfold pn; infer_instance
def u64 (z : Int) : Nat := (z % 18446744073709551616).toNat
theorem EF (z : Int) : IntKind.u64.wrap z = ((u64 z : Nat) : Int) := by
 rw [nR]; unfold u64; omega
theorem Nv (z : Int) : u64 z < 18446744073709551616 := by unfold u64; omega
def gC (l : bT) (gs : Lb) (z : Int) : List UInt8 := if l.src = 1 then dD l else dD l ++ vec gs ++ be 4 (u64 z)
theorem FN {l : bT} {gs : Lb} {z : Int} (hs : (dD l).length ≤ 80000) (hg : gs.length ≤ 100) : (gC l gs z).length ≤ 80200 := by
 have h := dR gs
 have hb : (be 4 (u64 z)).length = 4 := lD 4 _
 unfold gC
 split
 ·omega
 ·simp only [List.length_append]; omega
def fF (w : World) (cs : Array Value) (l : bT) : Prop := ky (fun h xs => kP w h xs ∧ h.n ≤ h.c) cs l
theorem fF.at {w : World} {cs : Array Value} {l : bT} (h : fF w cs l) : dO w cs l := ky.imp h fun _ _ b => b.1
section
variable {cs : Array Value} {l : bT} {B : Oa} {m d : Nat} {gs : Lb} {z : Int}
theorem xS (w : World) (H : dO w cs l) (hf : l.Fit) (HB : Bs w B m gs) (hm : m ≤ 1000) :
  Ct 141 #[.agg cs, .slice B m d, .int .i64 z] w fun e w' => ∃ A' k c', e = .returned (.tuple #[.slice A' k c', .bool (decide (pn l z))]) ∧ Row w' w.heap.size 5 A' k c' ((gC l gs z).map bv) ∧ Ext w w' := by
 have hU := kF hf
 have HL := H
 obtain ⟨h0, h1, h2, h4, h5, rfl, hs, b0, b1, b2, b4, b5⟩ := H
 have E := Ext.refl w
 refine bu 27 func141 rfl rfl rfl rfl ?_
 intro _ hret
 refine aU ?_
 intro _ _ B3 _ ex
 replace E := E.ext ex
 refine aU ?_
 have Vx := E.size
 refine aB func199 rfl (nF _ (Bs.nil _ none) Om (HL.ext E) hf) ?_
 rintro e _ ⟨A2, k2, c2, rfl, R2, ex⟩
 obtain ⟨E,B3⟩ := ba ex E B3
 have Vy := R2.bs.1; rw [List.nil_append] at Vy R2
 refine aU ?_
 refine al rfl (fun Vz => ?_) (fun Vz => ?_)
 ·refine aU ?_
  refine hret rfl rfl ?_
  exact ⟨A2, k2, c2, by rw [decide_eq_true (show pn l z from .inl Om)], (R2.lower Vx).congr rfl (by unfold gC; rw [if_pos Om]), E⟩
 ·refine aU ?_
  refine aB func162 rfl (tC R2.bs (HB.ext E) Om Om) ?_
  rintro e _ ⟨A3, k3, c3, rfl, R3, _, ex⟩
  replace E := E.ext ex
  refine au 2 ?_
  refine ak (bg rfl Tn.u Tn.u (EF z)) ?_
  have Vw := E.size
  refine aB func131 rfl (gT A3 k3 c3 4 (u64 z) _ _ R3.bs Om Om (Nv z)) ?_
  rintro e _ ⟨A4, c4, rfl, R4, ex⟩
  replace E := E.ext ex
  refine au 3 ?_
  refine aR (aQ rfl) rfl (fun v0 => ?_) (fun v0 => ?_)
  ·refine aU ?_
   refine hret rfl rfl ?_
   exact ⟨A4, _, c4, by rw [decide_eq_decide.2 (show z < 65536 ↔ pn l z from ⟨fun h => .inr ⟨by omega, h⟩, fun h => by rcases h with h | h <;> omega⟩)], (R4.lower Vw).congr rfl (by unfold gC; rw [if_neg Om]), E⟩
  ·refine aU ?_
   refine hret rfl rfl ?_
   exact ⟨A4, _, c4, by rw [decide_eq_false (show ¬ pn l z from fun h => by rcases h with h | h <;> omega)], (R4.lower Vw).congr rfl (by unfold gC; rw [if_neg Om]), E⟩
end
end
section
open Go.RowKit
attribute [local irreducible] Y Ef WL WC WK WQ WM cE WN WF dc WJ gJ
open Wire Nd
theorem vJ {l : bT} (h : (⟨0, l, AW.zero⟩ : Node).Small) : (dD l).length ≤ 900 := by
 obtain ⟨f0, f1, f2, f4, _⟩ := h
 have f0 : l.box.length ≤ 200 := f0
 have f1 : l.sign.length ≤ 200 := f1
 have f2 : l.ident.length ≤ 200 := f2
 have f4 : l.parent.length ≤ 200 := f4
 have h0 := dR l.box; have h1 := dR l.sign; have h2 := dR l.ident; have h4 := dR l.parent
 unfold dD
 simp only [List.length_append, List.length_singleton]
 split
 ·omega
 ·simp only [List.length_nil]; omega
end
end Go.Proofs.YtgfafidlkldeaaaGreat
