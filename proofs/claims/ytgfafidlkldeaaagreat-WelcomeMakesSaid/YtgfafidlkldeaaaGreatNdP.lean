/- The law NodeChecks: which leaves are checked. -/
import Derived.Test.YtgfafidlkldeaaaGreatScC
import Derived.Test.YtgfafidlkldeaaaGreatCurA
import Derived.Test.YtgfafidlkldeaaaGreatAu
import Derived.Test.YtgfafidlkldeaaaGreatScA
import Derived.Test.YtgfafidlkldeaaaGreatFieldQ
import Derived.Test.YtgfafidlkldeaaaGreatVc7
import Derived.Test.YtgfafidlkldeaaaGreatShaBits
import Derived.Test.YtgfafidlkldeaaaGreatBigC
import Derived.Test.YtgfafidlkldeaaaGreatMsC
set_option linter.unusedVariables false
set_option linter.unusedSimpArgs false
set_option maxHeartbeats 4000000
set_option maxRecDepth 4000
namespace Go.Proofs.YtgfafidlkldeaaaGreat
section
open Go.RowKit Tryz
attribute [local irreducible] Y Ef WL WC WK WQ WM cx WN WF cT
theorem Gb {P : Fp.F × Fp.F} (oP : Ed.On P) (n b : Nat) : (if n / 2 ^ b % 2 = 1 then Ed.add (Ed.add (Ed.mul (n / 2 ^ (b + 1)) P) (Ed.mul (n / 2 ^ (b + 1)) P)) P else Ed.add (Ed.mul (n / 2 ^ (b + 1)) P) (Ed.mul (n / 2 ^ (b + 1)) P)) = Ed.mul (n / 2 ^ b) P := by
 have e : n / 2 ^ b = 2 * (n / 2 ^ (b + 1)) + n / 2 ^ b % 2 := by
  rw [Nat.pow_succ, ← Nat.div_div_eq_div_mul]; omega
 have Vl : n / 2 ^ b % 2 < 2 := Nat.mod_lt _ Om
 generalize n / 2 ^ (b + 1) = q at *
 generalize n / 2 ^ b % 2 = r at *
 rw [e, ← Ed.mul_two oP]
 by_cases h : r = 1
 ·subst h; rw [if_pos rfl]; rfl
 ·rw [if_neg h]
  have hr : r = 0 := by omega
  subst hr; rfl
theorem tY {cs : Array Value} {P : Fp.F × Fp.F} (hP : PP cs P) (oP : Ed.On P) (n : Nat) (hn : n < Sc.L) (w : World) :
  Ct 71 #[.agg cs, .agg (ws (Sc.wd n))] w fun e w' => ∃ es, e = .returned (.agg es) ∧ PT es (Ed.mul n P) ∧ Ext w w' := by
 obtain ⟨p1, p2, p3, p4, b, rfl, hP⟩ := hP.pc
 have Vx : n / 2 ^ 253 = 0 := Nat.div_eq_of_lt (Nat.lt_trans hn Ed.CU)
 have E := Ext.refl w
 refine aI (s := 21) 31 func71 rfl rfl rfl underlying136 rfl Kr rfl ?_
 intro _ hret
 refine aU ?_
 intro w1 g2 (B2 : ao _ _ _ (pc p1 p2 p3 p4 b)) VD ex
 replace E := E.ext ex
 have VE := B2.lt
 refine aU ?_
 intro w2 g3 (B3 : ao _ _ _ (ws (Sc.wd n))) VF ex
 obtain ⟨E,B2⟩ := aY ex E B2
 have VG := B3.lt
 refine aU ?_
 intro w3 g4 (B4 : ao _ _ _ (pc zf zf zf zf false)) VH ex
 obtain ⟨E,B2,B3⟩ := bC ex E B2 B3
 refine aU ?_
 refine eY 0 (fun n' L wr => ∃ (k g5 g6 : Nat) (cp co : Array Value) (fd : Nat → Nat), L = [(2, .pointer (some ⟨g2, 0, none⟩)), (3, .pointer (some ⟨g3, 0, none⟩)), (4, .pointer (some ⟨g4, 0, none⟩)), (5, .pointer (some ⟨g5, 0, none⟩)), (6, .pointer (some ⟨g6, 0, none⟩)), (7, .int .i64 (k : Int))] ∧ n' = 1 + k ∧ (k ≤ 252 ∧ w.heap.size ≤ g4 ∧ w.heap.size ≤ g5 ∧ g2 ≠ g5 ∧ g3 ≠ g5 ∧ g4 ≠ g5 ∧ g6 ≠ g5 ∧ PT cp P ∧ PT co (Ed.mul (n / 2 ^ (k + 1)) P) ∧ FE (fe fd) (Ed.d + Ed.d) ∧ Ext w wr ∧ ao wr g2 136 cp ∧ ao wr g3 141 (ws (Sc.wd n)) ∧ ao wr g4 136 (pc zf zf zf zf false) ∧ ao wr g5 136 co ∧ ao wr g6 134 (fe fd))) rfl ?_ ?_
 ·rintro G n' L wr ⟨k, g5, g6, cp, co, fd, rfl, rfl, _, Vm, Vn, Vo, Vp, Vq, Vr, Pp, Po, Fd, E, B2, B3, B4, B5, B6⟩ Vs
  obtain ⟨a1, a2, a3, a4, rfl, q, A1, A2, A3, A4, Rq⟩ := Po.get
  obtain ⟨r1, r2, r3, r4, rfl, u, R1, R2, R3, R4, Ru⟩ := Pp.get
  have om := Ed.rP oP (n / 2 ^ (k + 1))
  have hbm := Gb oP n k
  refine au 2 ?_
  refine ak (Gw rfl B5) ?_
  refine ak (Gw rfl B5) ?_
  refine ak (cN rfl B6) ?_
  refine aL func152 rfl (sZ A1 A2 A3 A4 A1 A2 A3 A4 Fd Rq Rq om om _ _ _) ?_
  rintro e _ ⟨_, rfl, Vl, ex⟩
  refine au 1 ?_
  obtain ⟨E,B2,B3,B4,B5,B6⟩ := gL ex E B2 B3 B4 B5 B6
  obtain ⟨d1, d2, d3, d4, rfl, v, D1, D2, D3, D4, Rv⟩ := Vl.get
  refine af (ag rfl rfl (by rw [bz]; kernel_rfl) B5 (by rw [bz, bz]) (iI _ _ _ _ _)) rfl ?_
  rintro _ _ ⟨rfl, D5, cg⟩
  replace E := E.aw cg Vn; replace B2 := B2.aw cg Vo; replace B3 := B3.aw cg Vp; replace B4 := B4.aw cg Vq; replace B6 := B6.aw cg Vr; replace B5 := D5
  refine au 5 ?_
  refine ak ((aV rfl Tn.u rfl (by rw [ar]; kernel_rfl) B3)) ?_
  refine aU ?_
  refine aL func153 rfl (AV n k _ Om) ?_
  rintro e _ ⟨rfl, ex⟩
  obtain ⟨E,B2,B3,B4,B5,B6⟩ := gL ex E B2 B3 B4 B5 B6
  refine aU ?_
  refine al rfl (fun Vy => ?_) (fun Vy => ?_)
  ·refine au 1 ?_
   refine ak (Gw rfl B5) ?_
   refine ak (Gw rfl B2) ?_
   refine ak (cN rfl B6) ?_
   refine aL func152 rfl (sZ D1 D2 D3 D4 R1 R2 R3 R4 Fd Rv Ru (Ed.sR om om) oP _ _ _) ?_
   rintro e _ ⟨_, rfl, Vt, ex⟩
   refine au 1 ?_
   obtain ⟨E,B2,B3,B4,B5,B6⟩ := gL ex E B2 B3 B4 B5 B6
   rw [if_pos Om] at hbm; rw [hbm] at Vt; obtain ⟨e1, e2, e3, e4, rfl, _⟩ := Vt.get
   refine af (ag rfl rfl (by rw [bz]; kernel_rfl) B5 (by rw [bz, bz]) (iI _ _ _ _ _)) rfl ?_
   rintro _ _ ⟨rfl, D5, cg⟩
   replace E := E.aw cg Vn; replace B2 := B2.aw cg Vo; replace B3 := B3.aw cg Vp; replace B4 := B4.aw cg Vq; replace B6 := B6.aw cg Vr; replace B5 := D5; replace Vl := Vt
   refine au 6 ?_
   refine ak (eK rfl rfl (show IntKind.i64.wrap ((k : Int) - 1) = (k : Int) - 1 from br Om Om)) ?_
   refine aU ?_
   refine al rfl (fun Vu => ?_) (fun Vu => ?_)
   ·refine aU ?_
    refine bZ ?_
    obtain ⟨j, rfl⟩ : ∃ j, k = j + 1 := ⟨k - 1, by omega⟩
    rw [show (((j + 1 : Nat) : Int) - 1) = (j : Int) by omega]
    refine Vs _ _ ⟨j, g5, g6, _, _, fd, rfl, rfl, by omega, Vm, Vn, Vo, Vp, Vq, Vr, Pp, Vl, Fd, E, B2, B3, B4, B5, B6⟩ Om Ls
   ·obtain rfl : k = 0 := by omega
    rw [Nat.pow_zero, Nat.div_one] at Vl
    refine au 4 ?_
    refine ak (Gw rfl B5) ?_
    refine af (ag rfl rfl (by rw [bz]; kernel_rfl) B4 (by rw [bz, bz]) (iI _ _ _ _ _)) rfl ?_
    rintro _ Vz ⟨rfl, Vv, cg⟩
    replace E := E.aw cg Vm
    refine aU ?_
    refine cC ?_
    refine hret rfl Vv (bz _ _ _ _ _) ?_
    exact ⟨_, rfl, Vl, E⟩
  ·rw [if_neg Om] at hbm
   rw [hbm] at Vl
   refine au 6 ?_
   refine ak (eK rfl rfl (show IntKind.i64.wrap ((k : Int) - 1) = (k : Int) - 1 from br Om Om)) ?_
   refine aU ?_
   refine al rfl (fun Vu => ?_) (fun Vu => ?_)
   ·refine aU ?_
    refine bZ ?_
    obtain ⟨j, rfl⟩ : ∃ j, k = j + 1 := ⟨k - 1, by omega⟩
    rw [show (((j + 1 : Nat) : Int) - 1) = (j : Int) by omega]
    refine Vs _ _ ⟨j, g5, g6, _, _, fd, rfl, rfl, by omega, Vm, Vn, Vo, Vp, Vq, Vr, Pp, Vl, Fd, E, B2, B3, B4, B5, B6⟩ Om Ls
   ·obtain rfl : k = 0 := by omega
    rw [Nat.pow_zero, Nat.div_one] at Vl
    refine au 4 ?_
    refine ak (Gw rfl B5) ?_
    refine af (ag rfl rfl (by rw [bz]; kernel_rfl) B4 (by rw [bz, bz]) (iI _ _ _ _ _)) rfl ?_
    rintro _ Vz ⟨rfl, Vv, cg⟩
    replace E := E.aw cg Vm
    refine aU ?_
    refine cC ?_
    refine hret rfl Vv (bz _ _ _ _ _) ?_
    exact ⟨_, rfl, Vl, E⟩
 ·intro G Vs
  refine au 2 ?_
  refine ak (Gw rfl B2) ?_
  refine aL func148 rfl (qO hP _) ?_
  rintro e _ ⟨c4, rfl, P4, ex⟩
  obtain ⟨E,B2,B3,B4⟩ := bU ex E B2 B3 B4
  refine au 1 ?_
  refine af (ag rfl rfl (by rw [P4.size]; kernel_rfl) B2 (by rw [bz, P4.size]) P4.one) rfl ?_
  rintro _ _ ⟨rfl, D2, cg⟩
  replace E := E.aw cg Om; replace B3 := B3.aw cg Om; replace B4 := B4.aw cg Om; replace B2 := D2
  refine aU ?_
  refine aL func149 rfl (lF _) ?_
  rintro e _ ⟨c6, rfl, P6, ex⟩
  obtain ⟨E,B2,B3,B4⟩ := bU ex E B2 B3 B4
  refine aU ?_
  refine aL func150 rfl (vL _) ?_
  rintro e _ ⟨_, rfl, F7, ex⟩
  obtain ⟨E,B2,B3,B4⟩ := bU ex E B2 B3 B4
  refine aU ?_
  refine aL func150 rfl (vL _) ?_
  rintro e _ ⟨_, rfl, F8, ex⟩
  obtain ⟨E,B2,B3,B4⟩ := bU ex E B2 B3 B4
  refine aU ?_
  refine aL func151 rfl (dK F7 F8 _) ?_
  rintro e _ ⟨_, rfl, F9, ex⟩
  obtain ⟨E,B2,B3,B4⟩ := bU ex E B2 B3 B4
  obtain ⟨f9, rfl, F9⟩ := F9.fe
  have VA := B2.lt; have VB := B3.lt; have VC := B4.lt
  refine aU ?_
  intro VI g5 (B5 : ao _ _ _ (pc zf zf zf zf false)) VJ ex
  obtain ⟨E,B2,B3,B4⟩ := bU ex E B2 B3 B4
  have VK := B5.lt
  refine aU ?_
  intro VL g6 (B6 : ao _ _ _ (fe zf)) VM ex
  obtain ⟨E,B2,B3,B4,B5⟩ := gQ ex E B2 B3 B4 B5
  refine af (ag rfl rfl (by rw [P6.size]; kernel_rfl) B5 (by rw [bz, P6.size]) P6.one) rfl ?_
  rintro _ _ ⟨rfl, D5, cg⟩
  replace E := E.aw cg Om; replace B2 := B2.aw cg Om; replace B3 := B3.aw cg Om; replace B4 := B4.aw cg Om; replace B6 := B6.aw cg Om; replace B5 := D5
  refine af (ag rfl rfl (by rw [ai]; kernel_rfl) B6 (by rw [ai, ai]) (bh _)) rfl ?_
  rintro _ _ ⟨rfl, D6, cg⟩
  replace E := E.aw cg Om; replace B2 := B2.aw cg Om; replace B3 := B3.aw cg Om; replace B4 := B4.aw cg Om; replace B5 := B5.aw cg Om; replace B6 := D6
  refine au 7 ?_
  refine lk ?_; intro VN Vw
  refine gI ?_
  refine ae (Vw ?_)
  exact Vs _ _ ⟨252, g5, g6, c4, c6, f9, rfl, rfl, by omega, by omega, by omega, by omega, by omega, by omega, by omega, P4, P6.congr (by rw [Vx]; rfl), F9, E, B2, B3, B4, B5, B6⟩ Ls
end
section
section
open Go.RowKit Tryz
namespace Sc
end Sc
attribute [local irreducible] Y Ef WL WC WK WQ WM cx WN WF cT
end
section
open Go.RowKit Tryz
attribute [local irreducible] Y Ef WL WC WK WQ WM cx WN WF cT
namespace Sg
theorem Bv : ∀ x : Fin 256, bits .andNot .u8 ((x.val : Nat) : Int) 7 = ((x.val / 8 * 8 : Nat) : Int) := by decide +kernel
theorem KT : ∀ x : Fin 256, bits .and .u8 ((x.val : Nat) : Int) 63 = ((x.val % 64 : Nat) : Int) := by decide +kernel
theorem LO : ∀ x : Fin 64, bits .or .u8 ((x.val : Nat) : Int) 64 = ((x.val + 64 : Nat) : Int) := by decide +kernel
def gj (h : Lb) : List UInt8 := (h.set 0 (UInt8.ofNat ((h.getD 0 0).toNat / 8 * 8))).set 31 (UInt8.ofNat ((h.getD 31 0).toNat % 64 + 64))
theorem qi (h : Lb) : (gj h).length = h.length := by unfold gj; simp
theorem vd (h : Lb) : (gj h).drop 32 = h.drop 32 := by
 unfold gj; rw [List.drop_set_of_lt Om, List.drop_set_of_lt Om]
def raw (seed : Lb) : Nat := Fp.num ((gj (Lng.sum seed)).take 32)
def sec (seed : Lb) : Nat := raw seed % Sc.L
def pre (seed : Lb) : List UInt8 := (Lng.sum seed).drop 32
theorem wO (seed : Lb) : (pre seed).length = 32 := by unfold pre; rw [List.length_drop, Lng.bM]
theorem DD (seed : Lb) : sec seed < Sc.L := Nat.mod_lt _ Sc.xx
def My (xs : Lb) : Nat := Fp.num (Lng.sum xs) % Sc.L
theorem wB (xs : Lb) : My xs < Sc.L := Nat.mod_lt _ Sc.xx
theorem tq (xs : Lb) : Fp.num ((Lng.sum xs).take 64) % Sc.L = My xs := by rw [List.take_of_length_le (by rw [Lng.bM]; omega)]; rfl
def pU (seed : Lb) : List UInt8 := Ed.enc (Ed.mul (sec seed) Ed.B)
end Sg
theorem o0 (A : Oa) (n c : Nat) (xs : Lb) (w : World) (HA : Bs w A n xs) (hn : n ≤ 800000) :
  Ct 154 #[.slice A n c] w fun e w' => ∃ g, e = .returned (.tuple #[.agg (ws (Sc.wd (Sg.sec xs))), .slice (some ⟨g, 32, none⟩) 32 32]) ∧ Bs w' (some ⟨g, 32, none⟩) 32 (Sg.pre xs) ∧ w.heap.size ≤ g ∧ Ext w w' := by
 have E := Ext.refl w
 have hxl := HA.1
 obtain ⟨h, hh⟩ : ∃ h, h = Lng.sum xs := ⟨_, rfl⟩
 have hl : h.length = 64 := by rw [hh, Lng.bM]
 obtain ⟨x0, Vl⟩ : ∃ x, x = (h.getD 0 0).toNat := ⟨_, rfl⟩
 obtain ⟨x1, Vm⟩ : ∃ x, x = (h.getD 31 0).toNat := ⟨_, rfl⟩
 have h0 : x0 < 256 := Vl ▸ UInt8.toNat_lt _
 have h1 : x1 < 256 := Vm ▸ UInt8.toNat_lt _
 have ht : (h.set 0 (UInt8.ofNat (x0 / 8 * 8))).set 31 (UInt8.ofNat (x1 % 64 + 64)) = Sg.gj h := by unfold Sg.gj; rw [Vl, Vm]
 have hs : Fp.num (((Sg.gj h).take 32).take 64) % Sc.L = Sg.sec xs := by
  rw [List.take_take, show min 64 32 = 32 from rfl, hh]; rfl
 have hp : (Sg.gj h).drop 32 = Sg.pre xs := by rw [Sg.vd, hh]; rfl
 have htl : (Sg.gj h).length = 64 := by rw [Sg.qi, hl]
 refine cV (s := 4) 25 func154 rfl rfl rfl underlying141 rfl Kr rfl ?_
 intro _ hret
 refine aU ?_
 intro w1 g2 (B2 : ao _ _ _ (ws z4)) Vn ex
 replace E := E.ext ex
 refine aU ?_
 refine af (aB (z := .slice none 0 0) Tn.u Kr rfl rfl rfl rfl rfl) rfl ?_
 rintro _ _ ⟨_, rfl, B3, _, ex⟩
 obtain ⟨E,B2⟩ := aY ex E B2
 have S3 := lH B3 (HA.ext E); have Vo := B2.lt
 refine aL func194 rfl (sG _ 1 1 _ _ S3 Om So) ?_
 rintro e _ ⟨g4, rfl, _, B4, ex⟩
 obtain ⟨E,B2⟩ := aY ex E B2
 rw [show [xs].flatten = xs by simp, ← hh] at B4
 refine au 7 ?_
 refine ak (aD rfl rfl Tn.u Kr (j := 0) rfl Om) ?_
 refine ak (ah rfl Tn.u rfl (B4.get (iX (i := 0) Om))) ?_
 refine ak (vg rfl rfl (show bits .andNot .u8 _ 7 = ((x0 / 8 * 8 : Nat) : Int) by rw [← Vl]; exact Sg.Bv ⟨x0, h0⟩)) ?_
 refine ak (aD rfl rfl Tn.u Kr (j := 0) rfl Om) ?_
 rw [← xt (n := x0 / 8 * 8) Om]
 refine af (az rfl rfl rfl Kr B4 (by rw [aW]; omega)) rfl ?_
 rintro _ _ ⟨rfl, D4, cg⟩
 rw [j3] at D4; replace E := E.aw cg Om; replace B2 := B2.aw cg Om
 refine au 6 ?_
 refine ak (aD rfl rfl Tn.u Kr (j := 31) rfl Om) ?_
 refine ak (ah rfl Tn.u rfl (D4.get (iX (i := 31) (by rw [List.length_set]; omega)))) ?_
 refine ak (cD rfl rfl (show bits .and .u8 _ 63 = ((x1 % 64 : Nat) : Int) by rw [List.getD_eq_getElem?_getD, List.getElem?_set_ne Om, ← List.getD_eq_getElem?_getD, ← Vm]; exact Sg.KT ⟨x1, h1⟩)) ?_
 refine ak (jk rfl rfl (Sg.LO ⟨x1 % 64, by omega⟩)) ?_
 refine ak (aD rfl rfl Tn.u Kr (j := 31) rfl Om) ?_
 rw [← xt (n := x1 % 64 + 64) Om]
 refine af (az rfl rfl rfl Kr D4 (by rw [aW, List.length_set]; omega)) rfl ?_
 rintro _ _ ⟨rfl, D5, cg⟩
 rw [j3, ht] at D5; replace E := E.aw cg Om; replace B2 := B2.aw cg Om; have Vp : w.heap.size ≤ g4 := Om; have H5 := aZ D5 htl
 refine aU ?_
 refine aA Kr 7 rfl ?_; intro Vq ex Vr
 obtain ⟨E,B2,H5⟩ := bC ex E B2 H5
 refine zm [0] ?_
 refine cU 1 rfl (fun _ => pn (s := 1) rfl rfl Tn.u Kr (j := 32) rfl Om) ?_
 refine zm [3] ?_
 refine cU 4 rfl (fun _ => ph (s := 1) rfl rfl Tn.u Kr (j := 32) rfl Om) ?_
 refine bm 2 rfl func193 rfl (oE _ 32 64 ((Sg.gj h).take 32) _ (H5.take Om) Om) ?_
 rintro e _ ⟨rfl, ex⟩
 refine au 1 ?_
 obtain ⟨E,B2,H5⟩ := bC ex E B2 H5
 rw [hs]
 refine aM 5 Kr ?_; refine aO rfl (ag rfl rfl (by rw [ar]; kernel_rfl) B2 (by rw [ar, ar]) (dp _)) rfl ?_
 rintro _ _ ⟨rfl, D2, cg⟩
 refine ⟨.inl rfl, ?_⟩
 have E4 := E.aw cg Vn; have H7 := H5.aw cg fun b off e => by { injection e with e; injection e with e _; omega }
 refine zm [6] ?_
 refine hret rfl rfl D2 (ar _) ?_
 exact ⟨g4, rfl, by have := H7.cut (k := 32) (cap := 64) Om Om; rw [hp] at this; exact this, Vp, E4⟩
theorem vK (A : Oa) (n c : Nat) (xs : Lb) (w : World) (HA : Bs w A n xs) (hn : n ≤ 800000) :
  Ct 72 #[.slice A n c] w fun e w' => e = .returned (.agg (ws (Sc.wd (if xs.length = 32 then Sg.sec xs else 0)))) ∧ Ext w w' := by
 have E := Ext.refl w
 have hl := HA.1
 have Vl : ws z4 = ws (Sc.wd 0) := gJ fun j _ => by unfold z4 Sc.wd; simp
 refine aI (s := 4) 15 func72 rfl rfl rfl underlying141 rfl Kr rfl ?_
 intro _ hret
 refine aU ?_
 intro w1 g2 (B2 : ao _ _ _ (ws z4)) Vm ex
 replace E := E.ext ex
 refine aU ?_
 refine al rfl (fun Vn => ?_) (fun Vn => ?_)
 ·refine au 2 ?_
  refine ak (aJ rfl (cells := ws z4) Kr) ?_
  refine af (ag rfl rfl (by rw [ar]; kernel_rfl) B2 (by simp only [ar]) (dp _)) rfl ?_
  rintro _ _ ⟨rfl, D2, cg⟩
  replace E := E.aw cg Vm; rw [Vl] at D2
  refine aU ?_
  refine hret rfl D2 (ar _) ?_
  exact ⟨by rw [if_neg (show ¬ xs.length = 32 by omega)], E⟩
 ·refine aU ?_
  refine aL func154 rfl (o0 A n c xs _ (HA.ext E) hn) ?_
  rintro e _ ⟨_, rfl, _, _, ex⟩
  obtain ⟨E,B2⟩ := aY ex E B2
  have Vo := B2.lt
  refine aU ?_
  intro w5 g3 (B3 : ao _ _ _ (ws z4)) Vp ex
  obtain ⟨E,B2⟩ := aY ex E B2
  refine af (ag rfl rfl (by rw [ar]; kernel_rfl) B3 (by rw [ar, ar]) (dp _)) rfl ?_
  rintro _ _ ⟨rfl, D3, cg⟩
  replace E := E.aw cg Om; replace B2 := B2.aw cg Om
  refine au 5 ?_
  refine ak ((aV rfl Tn.u rfl (by rw [ar]; kernel_rfl) D3)) ?_
  refine af (ag rfl rfl (by rw [ar]; kernel_rfl) B2 (by rw [ar, ar]) (dp _)) rfl ?_
  rintro _ _ ⟨rfl, D2, cg⟩
  replace E := E.aw cg Om
  refine aU ?_
  refine hret rfl D2 (ar _) ?_
  exact ⟨by rw [if_pos (show xs.length = 32 by omega)], E⟩
def mz (xs : Lb) : List UInt8 × Nat := if xs.length = 32 then (Sg.pU xs, 0) else ([], 1)
theorem ot (A : Oa) (n c : Nat) (xs : Lb) (w : World) (HA : Bs w A n xs) (hn : n ≤ 800000) :
  Ct 29 #[.slice A n c] w fun e w' => ∃ A' k c', e = .returned (.tuple #[.slice A' k c', .int .u8 ((mz xs).2 : Int)]) ∧ Bn w.heap.size w' A' k (mz xs).1 ∧ k ≤ 32 ∧ k ≤ c' ∧ Ext w w' := by
 have E := Ext.refl w
 have hl := HA.1
 refine bK 12 func29 rfl rfl rfl rfl ?_
 intro _ hret
 refine aU ?_
 refine al rfl (fun Vl => ?_) (fun Vl => ?_)
 ·refine aU ?_
  refine hret rfl rfl ?_
  exact ⟨none, 0, 0, by unfold mz; rw [if_neg (show ¬ xs.length = 32 by omega)]; rfl, by unfold mz; rw [if_neg (show ¬ xs.length = 32 by omega)]; exact Bn.nil _ _, by omega, by omega, E⟩
 ·refine aU ?_
  refine aL func70 rfl (qN _) ?_
  rintro e _ ⟨_, rfl, P1, ex⟩
  replace E := E.ext ex
  refine aU ?_
  refine aL func72 rfl (vK A n c xs _ (HA.ext E) hn) ?_
  rintro e _ ⟨rfl, ex⟩
  refine au 1 ?_
  replace E := E.ext ex
  rw [if_pos (show xs.length = 32 by omega)]
  refine aL func71 rfl (tY P1.pp Ed.JN (Sg.sec xs) (Sg.DD xs) _) ?_
  rintro e _ ⟨_, rfl, P3, ex⟩
  replace E := E.ext ex
  refine aU ?_
  have Vm := E.size
  refine aL func73 rfl (py P3.pp _) ?_
  rintro e _ ⟨g4, rfl, _, B4, ex⟩
  replace E := E.ext ex
  refine aU ?_
  refine hret rfl rfl ?_
  exact ⟨some ⟨g4, 0, none⟩, 32, 32, by unfold mz; rw [if_pos (show xs.length = 32 by omega)]; rfl, by unfold mz; rw [if_pos (show xs.length = 32 by omega)]; exact ⟨aZ B4 (Ed.gk _), fun b o e => by injection e with e; injection e; omega⟩, by omega, by omega, E⟩
end
section
open Go.RowKit Tryz
attribute [local irreducible] Y Ef WL WC WK WQ WM cx WN WF cT
namespace Sg
end Sg
end
section
namespace Sg
end Sg
end
section
open Go.RowKit Tryz
attribute [local irreducible] Y Ef WL WC WK WQ WM cx WN WF cT
end
end
section
section
open Go.RowKit Tryz
attribute [local irreducible] Y Ef WL WC WK WQ WM cx WN WF cT
namespace Sg
def vp (s t : Lb) : Nat := My (pre s ++ t)
def pN (s t : Lb) : List UInt8 := Ed.enc (Ed.mul (vp s t) Ed.B)
def Jn (s t : Lb) : Nat := My (pN s t ++ pU s ++ t)
def sum (s t : Lb) : Nat := (vp s t + Jn s t * sec s % Sc.L) % Sc.L
def sig (s t : Lb) : List UInt8 := pN s t ++ Fp.le 32 (sum s t)
theorem iS (s t : Lb) : (pN s t).length = 32 := Ed.gk _
theorem jd (s t : Lb) : (sig s t).length = 64 := by unfold sig; rw [List.length_append, iS, Fp.cH]
theorem cK (s : Lb) : (pU s).length = 32 := Ed.gk _
end Sg
def iJ (s t : Lb) : List UInt8 × Nat := if s.length = 32 then (Sg.sig s t, 0) else ([], 1)
theorem Bs.wK {w w' : World} {A : Oa} {n g : Nat} {xs : Lb} {w0 : World} (h : Bs w A n xs) (cg : j7 w g w') (h0 : Bs w0 A n xs) (hg : w0.heap.size ≤ g) : Bs w' A n xs := by
 rcases Nat.eq_zero_or_pos n with hn | hn
 ·subst hn; exact ⟨h.1, .inl (by rw [List.eq_nil_of_length_eq_zero h.1]; rfl)⟩
 ·refine h.aw cg fun b o e => ?_
  obtain ⟨b', o', e', Vl, _⟩ := h0.get hn
  rw [e] at e'
  injection e' with e'
  injection e' with e1 _ _
  omega
theorem uc (A : Oa) (n c : Nat) (xss : List (List UInt8)) (w : World) (ha : sN w A n xss) (hn : n ≤ 70368744177664) (hlen : xss.flatten.length ≤ 70368744177664) :
  Ct 184 #[.slice A n c] w fun e w' => ∃ A' k c', e = .returned (.slice A' k c') ∧ Row w' w.heap.size 5 A' k c' (xss.flatten.map bv) ∧ Ext w w' :=
 (fp A n c xss w ha hn hlen).mono fun _ _ ⟨A', k, c', h1, h2, h3⟩ => ⟨A', k, c', h1, h2, h3⟩
theorem Di (A : Oa) (n c : Nat) (xs : Lb) (B : Oa) (m d : Nat) (ts : Lb) (w : World) (HA : Bs w A n xs) (HB : Bs w B m ts) (hn : n ≤ 100000) (hm : m ≤ 100000) :
  Ct 134 #[.slice A n c, .slice B m d] w fun e w' => ∃ A' k c', e = .returned (.tuple #[.slice A' k c', .int .u8 ((iJ xs ts).2 : Int)]) ∧ Bn w.heap.size w' A' k (iJ xs ts).1 ∧ k ≤ c' ∧ Ext w w' := by
 have E := Ext.refl w
 have hlA := HA.1; have hlB := HB.1
 refine bK 50 func134 rfl rfl rfl rfl ?_
 intro _ hret
 refine aU ?_
 refine aL func29 rfl (ot A n c xs _ (HA.ext E) Om) ?_
 rintro e _ ⟨_, _, _, rfl, ⟨H1, _⟩, _, _, ex⟩
 replace E := E.ext ex
 refine aU ?_
 refine al rfl (fun Vm => ?_) (fun Vm => ?_)
 ·have hne : ¬ xs.length = 32 := fun h => by unfold mz at Vm; rw [if_pos h] at Vm; exact Vm rfl
  refine aU ?_
  refine hret rfl rfl ?_
  exact ⟨none, 0, 0, by unfold iJ mz; rw [if_neg hne, if_neg hne], by unfold iJ; rw [if_neg hne]; exact Bn.nil _ _, by omega, E⟩
 ·have Vo : xs.length = 32 := Classical.byContradiction fun h => by unfold mz at Vm; rw [if_neg h] at Vm; exact absurd Vm (by decide)
  have hpe : (mz xs).1 = Sg.pU xs := by unfold mz; rw [if_pos Vo]
  rw [hpe] at H1
  refine aU ?_
  refine aL func154 rfl (o0 A n c xs _ (HA.ext E) Om) ?_
  rintro e _ ⟨_, rfl, H2, _, ex⟩
  obtain ⟨E,H1⟩ := aY ex E H1
  have VJ := E.size; have Vp := H1; have Vt := H2
  refine aU ?_
  intro w3 g8 (B8 : ao _ _ _ (ws z4)) VK ex
  obtain ⟨E,H1,H2⟩ := bC ex E H1 H2
  refine af (ag rfl rfl (by rw [ar]; kernel_rfl) B8 (by rw [ar, ar]) (dp _)) rfl ?_
  rintro _ _ ⟨rfl, D8, cg⟩
  replace E := E.aw cg Om; replace H1 := H1.wK cg Vp Om; replace H2 := H2.wK cg Vt Om; replace B8 := D8
  refine aU ?_
  refine af (aB (z := .slice none 0 0) Tn.u Kr rfl rfl rfl rfl rfl) rfl ?_
  rintro _ _ ⟨_, rfl, B9, _, ex⟩
  obtain ⟨E,H1,H2,B8⟩ := bU ex E H1 H2 B8
  have S9 := lP B9 H2 (HB.ext E)
  refine aL func194 rfl (sG _ 2 2 _ _ S9 Om (by have := Sg.wO xs; simp; omega)) ?_
  rintro e _ ⟨_, rfl, _, Vq, ex⟩
  refine aU ?_
  obtain ⟨E,H1,B8⟩ := bC ex E H1 B8
  rw [show [Sg.pre xs, ts].flatten = Sg.pre xs ++ ts by simp] at Vq
  refine aL func193 rfl (oE _ 64 64 _ _ (aZ Vq (Lng.bM _)) Om) ?_
  rintro e _ ⟨rfl, ex⟩
  refine au 1 ?_
  obtain ⟨E,H1,B8⟩ := bC ex E H1 B8
  rw [Sg.tq]
  have Vu := B8.lt; have Vp := H1
  refine aU ?_
  intro w8 VL (Vl : ao _ _ _ (ws z4)) Vv ex
  obtain ⟨E,H1,B8⟩ := bC ex E H1 B8
  refine af (ag rfl rfl (by rw [ar]; kernel_rfl) Vl (by rw [ar, ar]) (dp _)) rfl ?_
  rintro _ _ ⟨rfl, Vw, cg⟩
  replace E := E.aw cg Om; replace B8 := B8.aw cg Om; replace H1 := H1.wK cg Vp Om; replace Vl := Vw
  refine aU ?_
  refine aA Kr 5 rfl ?_; intro VM ex VN
  obtain ⟨E,H1,B8,Vl⟩ := bU ex E H1 B8 Vl
  refine my 1 rfl ((aV rfl Tn.u rfl (by rw [ar]; kernel_rfl) Vl)) ?_
  refine bm 0 rfl func70 rfl (qN _) ?_
  rintro e _ ⟨_, rfl, PB, ex⟩
  obtain ⟨E,H1,B8,Vl⟩ := bU ex E H1 B8 Vl
  refine aU ?_
  refine bm 2 rfl func71 rfl (tY PB.pp Ed.JN (Sg.vp xs ts) (Sg.wB _) _) ?_
  rintro e _ ⟨_, rfl, PR, ex⟩
  obtain ⟨E,H1,B8,Vl⟩ := bU ex E H1 B8 Vl
  refine aU ?_
  refine bm 3 rfl func73 rfl (py PR.pp _) ?_
  rintro e Vx ⟨Vy, rfl, _, Vz, ex⟩
  obtain ⟨E,H1,B8,Vl⟩ := bU ex E H1 B8 Vl
  have H3 : Bs Vx (some ⟨Vy, 0, none⟩) 32 (Sg.pN xs ts) := aZ Vz (Ed.gk _)
  refine zm [4] ?_
  refine af (aB (z := .slice none 0 0) Tn.u Kr rfl rfl rfl rfl rfl) rfl ?_
  rintro _ _ ⟨_, rfl, VA, _, ex⟩
  obtain ⟨E,H1,B8,Vl,H3⟩ := gQ ex E H1 B8 Vl H3
  have VB := jL VA H3 H1 (HB.ext E)
  refine aL func194 rfl (sG _ 3 3 _ _ VB Om (by have := Sg.iS xs ts; have := Sg.cK xs; simp; omega)) ?_
  rintro e _ ⟨_, rfl, _, Vr, ex⟩
  refine aU ?_
  obtain ⟨E,B8,Vl,H3⟩ := bU ex E B8 Vl H3
  rw [show [Sg.pN xs ts, Sg.pU xs, ts].flatten = Sg.pN xs ts ++ Sg.pU xs ++ ts by simp] at Vr
  refine aL func193 rfl (oE _ 64 64 _ _ (aZ Vr (Lng.bM _)) Om) ?_
  rintro e _ ⟨rfl, ex⟩
  refine au 1 ?_
  obtain ⟨E,B8,Vl,H3⟩ := bU ex E B8 Vl H3
  rw [Sg.tq]
  have VC := B8.lt; have Vs := Vl.lt; have VO := Bs.IW H3 Om
  refine aU ?_
  intro VP VQ (Vn : ao _ _ _ (ws z4)) VD ex
  obtain ⟨E,B8,Vl,H3⟩ := bU ex E B8 Vl H3
  refine af (ag rfl rfl (by rw [ar]; kernel_rfl) Vn (by rw [ar, ar]) (dp _)) rfl ?_
  rintro _ _ ⟨rfl, VE, cg⟩
  replace E := E.aw cg Om; replace B8 := B8.aw cg Om; replace Vl := Vl.aw cg Om; replace H3 := H3.aw cg (fun b o e => by injection e with e; injection e with e1 _ _; omega); replace Vn := VE
  refine aU ?_
  refine aA Kr 11 rfl ?_; intro VR ex VS
  obtain ⟨E,B8,Vl,H3,Vn⟩ := gQ ex E B8 Vl H3 Vn
  refine zm [0] ?_
  refine my 1 rfl ((aV rfl Tn.u rfl (by rw [ar]; kernel_rfl) Vl)) ?_
  refine my 2 rfl ((aV rfl Tn.u rfl (by rw [ar]; kernel_rfl) Vn)) ?_
  refine my 3 rfl ((aV rfl Tn.u rfl (by rw [ar]; kernel_rfl) B8)) ?_
  refine bm 4 rfl func196 rfl (Bu (Sg.Jn xs ts) (Sg.sec xs) _ (Sg.wB _) (Sg.DD _)) ?_
  rintro e _ ⟨rfl, ex⟩
  obtain ⟨E,H3⟩ := aY ex E H3
  refine aU ?_
  refine bm 5 rfl func195 rfl (AH (Sg.vp xs ts) (Sg.Jn xs ts * Sg.sec xs % Sc.L) _ (Sg.wB _) (Nat.mod_lt _ Sc.xx)) ?_
  rintro e _ ⟨rfl, ex⟩
  obtain ⟨E,H3⟩ := aY ex E H3
  refine aU ?_
  refine bm 6 rfl func197 rfl (vy (Sg.sum xs ts) _) ?_
  rintro e _ ⟨_, rfl, _, VF, ex⟩
  refine aU ?_
  obtain ⟨E,H3⟩ := aY ex E H3
  have H5 := aZ VF (Fp.cH 32 _)
  refine aM 7 Kr ?_; refine aO rfl (aB (z := .slice none 0 0) Tn.u Kr rfl rfl rfl rfl rfl) rfl ?_
  rintro _ _ ⟨_, rfl, VG, _, ex⟩
  refine ⟨.inr ex, ?_⟩
  obtain ⟨E,H3,H5⟩ := bC ex E H3 H5
  have VH := lP VG H3 H5
  have VI := E.size
  refine bm 8 rfl func184 rfl (uc _ 2 2 _ _ VH Om (by have := Sg.iS xs ts; simp [Fp.cH]; omega)) ?_
  rintro e _ ⟨A6, k6, c6, rfl, R6, ex⟩
  replace E := E.ext ex
  rw [show [Sg.pN xs ts, Fp.le 32 (Sg.sum xs ts)].flatten = Sg.sig xs ts by simp [Sg.sig]] at R6
  refine zm [9, 10] ?_
  refine hret rfl rfl ?_
  exact ⟨A6, k6, c6, by unfold iJ; rw [if_pos Vo]; rfl, by unfold iJ; rw [if_pos Vo]; exact R6.bn.lo VI, R6.cap, E⟩
end
section
open Go.RowKit Tryz
attribute [local irreducible] Y Ef WL WC WK WQ WM cx WN WF cT
theorem Aw {A : Oa} {n c : Nat} {xs : Lb} {w : World} (HA : Bs w A n xs) (h : xs.length = 32) :
  Ct 29 #[.slice A n c] w fun e w' => ∃ A' c', e = .returned (.tuple #[.slice A' 32 c', .int .u8 0]) ∧ Bn w.heap.size w' A' 32 (Sg.pU xs) ∧ 32 ≤ c' ∧ Ext w w' :=
 (ot A n c xs w HA (by have := HA.1; omega)).mono fun _ _ ⟨A', k, c', h1, h2, _, h4, h5⟩ => by
  have e : mz xs = (Sg.pU xs, 0) := by unfold mz; rw [if_pos h]
  rw [e] at h1 h2
  have hk : k = 32 := h2.1.1.symm.trans (Sg.cK xs)
  subst hk
  exact ⟨A', c', h1, h2, h4, h5⟩
end
end
section
open Go.RowKit Tryz
attribute [local irreducible] Y Ef WL WC WK WQ WM cx WN WF cT
namespace Sg
def text (l t : Lb) : List UInt8 := Wire.vec (Kdf.AZ ++ l) ++ Wire.vec t
theorem tA (l t : Lb) : (text l t).length ≤ l.length + t.length + 16 := by
 have h1 := Wire.bu (Kdf.AZ ++ l).length; have h2 := Wire.bu t.length
 unfold text
 simp only [List.length_append, Wire.gA]
 simp only [List.length_append] at h1
 have : Kdf.AZ.length = 8 := rfl
 omega
end Sg
theorem pt (s : ByteArray) (B : Oa) (m d : Nat) (ts : Lb) (w : World) (HB : Bs w B m ts) (hs : s.size ≤ 1000) (hm : m ≤ 90000) :
  Ct 135 #[.string s, .slice B m d] w fun e w' => ∃ A' k c', e = .returned (.slice A' k c') ∧ Row w' w.heap.size 5 A' k c' ((Sg.text s.data.toList ts).map bv) ∧ Ext w w' := by
 have E := Ext.refl w
 have Vn := Wire.bu (8 + s.size)
 have hcs : (⟨#[77, 76, 83, 32, 49, 46, 48, 32]⟩ : ByteArray).size = 8 := rfl
 refine aj 11 func135 rfl rfl rfl rfl ?_
 intro _ hret
 refine au 8 ?_
 refine ak (oD rfl rfl Om) ?_
 refine af (pO rfl Tn.u Tn.u Tn.u) rfl ?_
 rintro _ _ ⟨_, c2, rfl, H2, _, ex⟩
 obtain ⟨HB,E⟩ := aY ex HB E
 rw [r9, dB] at H2
 refine aL func162 rfl (di none _ 0 0 _ c2 [] _ _ (Bs.nil _ _) Om (by rw [dB]; exact H2) (by rw [dB]; omega)) ?_
 rintro e _ ⟨A3, k3, c3, rfl, R3, Vl, ex⟩
 obtain ⟨HB,E⟩ := aY ex HB E
 have H3 := R3.bs; rw [dB] at Vl
 refine aU ?_
 have Vm := E.size
 refine aL func162 rfl (di A3 B k3 c3 m d _ ts _ H3 Om HB Om) ?_
 rintro e _ ⟨A4, k4, c4, rfl, R4, _, ex⟩
 replace E := E.ext ex
 refine aU ?_
 refine hret rfl ?_
 exact ⟨A4, k4, c4, rfl, (R4.congr rfl (by simp [Sg.text])).lower Vm, E⟩
theorem qX (A : Oa) (n c : Nat) (xs : Lb) (s : ByteArray) (B : Oa) (m d : Nat) (ts : Lb) (w : World) (HA : Bs w A n xs) (HB : Bs w B m ts) (hn : n ≤ 100000) (hs : s.size ≤ 1000) (hm : m ≤ 90000) :
  Ct 63 #[.slice A n c, .string s, .slice B m d] w fun e w' => ∃ A' k c', e = .returned (.tuple #[.slice A' k c', .int .u8 ((iJ xs (Sg.text s.data.toList ts)).2 : Int)]) ∧ Bn w.heap.size w' A' k (iJ xs (Sg.text s.data.toList ts)).1 ∧ k ≤ c' ∧ Ext w w' := by
 have E := Ext.refl w
 have hlt := Sg.tA s.data.toList ts
 have Mu : s.data.toList.length = s.size := by simp
 have hlB := HB.1
 refine bK 15 func63 rfl rfl rfl rfl ?_
 intro _ hret
 refine aU ?_
 refine aL func135 rfl (pt s B m d ts _ HB hs hm) ?_
 rintro e _ ⟨A2, k2, c2, rfl, R2, ex⟩
 refine aU ?_
 obtain ⟨HA,E⟩ := aY ex HA E
 have H2 := R2.bs; have Vo := H2.1
 have Vl := E.size
 refine aL func134 rfl (Di A n c xs A2 k2 c2 _ _ HA H2 hn Om) ?_
 rintro e _ ⟨A3, k3, c3, rfl, ⟨H3, Vm⟩, Vn, ex⟩
 replace E := E.ext ex
 refine aU ?_
 refine hret rfl rfl ?_
 exact ⟨A3, k3, c3, rfl, Bn.lo ⟨H3, Vm⟩ Vl, Vn, E⟩
theorem xz {A : Oa} {n c : Nat} {xs : Lb} {s : ByteArray} {B : Oa} {m d : Nat} {ts : Lb} {w : World} (HA : Bs w A n xs) (HB : Bs w B m ts) (h : xs.length = 32) (hs : s.size ≤ 1000) (hm : m ≤ 90000) :
  Ct 63 #[.slice A n c, .string s, .slice B m d] w fun e w' => ∃ A' c', e = .returned (.tuple #[.slice A' 64 c', .int .u8 0]) ∧ Bn w.heap.size w' A' 64 (Sg.sig xs (Sg.text s.data.toList ts)) ∧ 64 ≤ c' ∧ Ext w w' :=
 (qX A n c xs s B m d ts w HA HB (by have := HA.1; omega) hs hm).mono fun _ _ ⟨A', k, c', h1, h2, h4, h5⟩ => by
  have e : iJ xs (Sg.text s.data.toList ts) = (Sg.sig xs (Sg.text s.data.toList ts), 0) := by unfold iJ; rw [if_pos h]
  rw [e] at h1 h2
  have hk : k = 64 := h2.1.1.symm.trans (Sg.jd xs _)
  subst hk
  exact ⟨A', c', h1, h2, h4, h5⟩
end
section
open Go.RowKit Tryz
attribute [local irreducible] Y Ef WL WC WK WQ WM cx WN WF cT WJ gZ
open Wire Nd
def FZ : ByteArray := ⟨#[76, 101, 97, 102, 78, 111, 100, 101, 84, 66, 83]⟩
theorem AS : FZ.size ≤ 1000 := by decide
def nL (l : bO) (z : Int) : Prop := l.src = 1 ∨ 0 ≤ z ∧ z < 65536
instance (l : bO) (z : Int) : Decidable (nL l z) := by unfold nL; infer_instance
def u64 (z : Int) : Nat := (z % 18446744073709551616).toNat
theorem AX (z : Int) : IntKind.u64.wrap z = ((u64 z : Nat) : Int) := by
 rw [mC]; unfold u64; omega
theorem Ke (z : Int) : u64 z < 18446744073709551616 := by unfold u64; omega
def fU (l : bO) (gs : Lb) (z : Int) : List UInt8 := if l.src = 1 then dt l else dt l ++ vec gs ++ be 4 (u64 z)
theorem BC {l : bO} {gs : Lb} {z : Int} (hs : (dt l).length ≤ 80000) (hg : gs.length ≤ 100) : (fU l gs z).length ≤ 80200 := by
 have h := dy gs
 have hb : (be 4 (u64 z)).length = 4 := gd 4 _
 unfold fU
 split
 ·omega
 ·simp only [List.length_append]; omega
def mG (w : World) (cs : Array Value) (l : bO) : Prop := ik (fun h xs => nI w h xs ∧ h.n ≤ h.c) cs l
theorem mG.at {w : World} {cs : Array Value} {l : bO} (h : mG w cs l) : dz w cs l := ik.imp h fun _ _ b => b.1
section
variable {cs : Array Value} {l : bO} {B : Oa} {m d : Nat} {gs : Lb} {z : Int}
theorem wD (w : World) (H : dz w cs l) (hf : l.Fit) (HB : Bs w B m gs) (hm : m ≤ 1000) :
  Ct 141 #[.agg cs, .slice B m d, .int .i64 z] w fun e w' => ∃ A' k c', e = .returned (.tuple #[.slice A' k c', .bool (decide (nL l z))]) ∧ Row w' w.heap.size 5 A' k c' ((fU l gs z).map bv) ∧ Ext w w' := by
 have hU := jn hf
 have HL := H
 obtain ⟨h0, h1, h2, h4, h5, rfl, hs, b0, b1, b2, b4, b5⟩ := H
 have E := Ext.refl w
 refine bK 27 func141 rfl rfl rfl rfl ?_
 intro _ hret
 refine aU ?_
 intro _ _ B3 _ ex
 replace E := E.ext ex
 refine aU ?_
 have Vm := E.size
 refine aL func199 rfl (lE _ (Bs.nil _ none) Om (HL.ext E) hf) ?_
 rintro e _ ⟨A2, k2, c2, rfl, R2, ex⟩
 obtain ⟨E,B3⟩ := aY ex E B3
 have Vn := R2.bs.1; rw [List.nil_append] at Vn R2
 refine aU ?_
 refine al rfl (fun Vo => ?_) (fun Vo => ?_)
 ·refine aU ?_
  refine hret rfl rfl ?_
  exact ⟨A2, k2, c2, by rw [decide_eq_true (show nL l z from .inl Om)], (R2.lower Vm).congr rfl (by unfold fU; rw [if_pos Om]), E⟩
 ·refine aU ?_
  refine aL func162 rfl (sB R2.bs (HB.ext E) Om Om) ?_
  rintro e _ ⟨A3, k3, c3, rfl, R3, _, ex⟩
  replace E := E.ext ex
  refine au 2 ?_
  refine ak (bg rfl Tn.u Tn.u (AX z)) ?_
  have Vl := E.size
  refine aL func131 rfl (eZ A3 k3 c3 4 (u64 z) _ _ R3.bs Om Om (Ke z)) ?_
  rintro e _ ⟨A4, c4, rfl, R4, ex⟩
  replace E := E.ext ex
  refine au 3 ?_
  refine bH (bj rfl) rfl (fun v0 => ?_) (fun v0 => ?_)
  ·refine aU ?_
   refine hret rfl rfl ?_
   exact ⟨A4, _, c4, by rw [decide_eq_decide.2 (show z < 65536 ↔ nL l z from ⟨fun h => .inr ⟨by omega, h⟩, fun h => by rcases h with h | h <;> omega⟩)], (R4.lower Vl).congr rfl (by unfold fU; rw [if_neg Om]), E⟩
  ·refine aU ?_
   refine hret rfl rfl ?_
   exact ⟨A4, _, c4, by rw [decide_eq_false (show ¬ nL l z from fun h => by rcases h with h | h <;> omega)], (R4.lower Vl).congr rfl (by unfold fU; rw [if_neg Om]), E⟩
end
end
section
open Go.RowKit
attribute [local irreducible] Y Ef WL WC WK WQ WM cx WN WF cT WJ gZ
open Wire Nd
theorem uW {l : bO} (h : (⟨0, l, Ak.zero⟩ : Node).Small) : (dt l).length ≤ 900 := by
 obtain ⟨f0, f1, f2, f4, _⟩ := h
 have f0 : l.box.length ≤ 200 := f0
 have f1 : l.sign.length ≤ 200 := f1
 have f2 : l.ident.length ≤ 200 := f2
 have f4 : l.parent.length ≤ 200 := f4
 have h0 := dy l.box; have h1 := dy l.sign; have h2 := dy l.ident; have h4 := dy l.parent
 unfold dt
 simp only [List.length_append, List.length_singleton]
 split
 ·omega
 ·simp only [List.length_nil]; omega
end
end Go.Proofs.YtgfafidlkldeaaaGreat
