/- A range over a function whose body is any code: judgements for what runs in a round. No conditions: plain lemmas of the model. -/
import Derived.Test.YtgfafidlkldeaaaGreatDhA
import Derived.Test.YtgfafidlkldeaaaGreatCurA
import Derived.Test.YtgfafidlkldeaaaGreatAu
import Derived.Test.YtgfafidlkldeaaaGreatFieldQ
import Derived.Test.YtgfafidlkldeaaaGreatVc7
import Derived.Test.YtgfafidlkldeaaaGreatSha3
import Derived.Test.YtgfafidlkldeaaaGreatChunkA
import Derived.Test.YtgfafidlkldeaaaGreatMsC
import Derived.Test.YtgfafidlkldeaaaGreatMsW
import Derived.Sort.LoopGhostIn
set_option linter.unusedVariables false
set_option linter.unusedSimpArgs false
set_option maxHeartbeats 4000000
set_option maxRecDepth 4000
namespace Go.Proofs.YtgfafidlkldeaaaGreat
variable {C args cs lb : Array Value} {s : ByteArray} {body c x : Code} {Q : Exit → Act → aa9 → Prop} {h5 : Hd} {z : Int} {gs seed ts ys : Lb} {S : List Nat} {b b1 b2 base g i id j k m n y : Nat} {hd : Nat → Hd} {N : Nd} {A : Oa} {P : Program} {YX t : TypeId} {W' w w' w0 : aa9} {l : bZ}
section
open Go.RowKit Tryz
attribute [local irreducible] Y Ef WL WC WK WQ WM cu WN WF db
theorem OP {P : Fp.F × Fp.F} (oP : Ed.On P) (n b : Nat) : (if n / 2 ^ b % 2 = 1 then Ed.add (Ed.add (Ed.mul (n / 2 ^ (b + 1)) P) (Ed.mul (n / 2 ^ (b + 1)) P)) P else Ed.add (Ed.mul (n / 2 ^ (b + 1)) P) (Ed.mul (n / 2 ^ (b + 1)) P)) = Ed.mul (n / 2 ^ b) P := by
 have e : n / 2 ^ b = 2 * (n / 2 ^ (b + 1)) + n / 2 ^ b % 2 := by rw [Nat.pow_succ, ← Nat.div_div_eq_div_mul]; omega
 have YU : n / 2 ^ b % 2 < 2 := Nat.mod_lt _ Om
 generalize n / 2 ^ (b + 1) = q at *
 generalize n / 2 ^ b % 2 = r at *
 rw [e, ← Ed.mul_two oP];by_cases h : r = 1
 ·subst h; rw [if_pos rfl]; rfl
 rw [if_neg h];have hr : r = 0 := Om
 subst hr; rfl
theorem pn {P : Fp.F × Fp.F} (hP : PP cs P) (oP : Ed.On P) (n : Nat) (hn : n < Sc.L) (w : aa9) :
  Ct 71 #[.agg cs, .agg (ws (Sc.wd n))] w fun e w' => ∃ es, e = .returned (.agg es) ∧ PT es (Ed.mul n P) ∧ Ext w w' := by
 obtain ⟨p1, p2, p3, p4, b, rfl, hP⟩ := hP.pc;have Zd : n / 2 ^ 253 = 0 := Nat.div_eq_of_lt (Nat.lt_trans hn Ed.sR);have E := Ext.refl w;refine aH (s := 21) 31 func71 rfl rfl rfl underlying136 rfl Kr rfl ?_;intro _ aa4;refine aU ?_;intro w1 g2 (B2 : aq _ _ _ (pc p1 p2 p3 p4 b)) Zj ex;replace E := E.ext ex;have Zk := B2.lt;refine aU ?_;intro w2 g3 (B3 : aq _ _ _ (ws (Sc.wd n))) Zl ex;obtain ⟨E,B2⟩ := aS ex E B2;have Zm := B3.lt;refine aU ?_;intro w3 g4 (B4 : aq _ _ _ (pc zf zf zf zf false)) Zn ex;obtain ⟨E,B2,B3⟩ := bh ex E B2 B3;refine aU ?_;refine gj 0 (fun n' L wr => ∃ (k g5 g6 : Nat) (cp co : Array Value) (fd : Nat → Nat), L = [(2, .pointer (cf g2)), (3, .pointer (cf g3)), (4, .pointer (cf g4)), (5, .pointer (cf g5)), (6, .pointer (cf g6)), (7, .int .i64 (k : Int))] ∧ n' = 1 + k ∧ (k ≤ 252 ∧ w.heap.size ≤ g4 ∧ w.heap.size ≤ g5 ∧ g2 ≠ g5 ∧ g3 ≠ g5 ∧ g4 ≠ g5 ∧ g6 ≠ g5 ∧ PT cp P ∧ PT co (Ed.mul (n / 2 ^ (k + 1)) P) ∧ FE (fe fd) (Ed.d + Ed.d) ∧ Ext w wr ∧ aq wr g2 136 cp ∧ aq wr g3 141 (ws (Sc.wd n)) ∧ aq wr g4 136 (pc zf zf zf zf false) ∧ aq wr g5 136 co ∧ aq wr g6 134 (fe fd))) rfl ?_ ?_
 ·rintro G n' L wr ⟨k, g5, g6, cp, co, fd, rfl, rfl, _, YV, YW, YX, YY, YZ, Y0, Pp, Po, Fd, E, B2, B3, B4, B5, B6⟩ Y2;obtain ⟨a1, a2, a3, a4, rfl, q, A1, A2, A3, A4, Rq⟩ := Po.get;obtain ⟨r1, r2, r3, r4, rfl, u, R1, R2, R3, R4, Ru⟩ := Pp.get;have om := Ed.eR oP (n / 2 ^ (k + 1));have hbm := OP oP n k;refine au 2 ?_;refine ak (Iu rfl B5) ?_;refine ak (Iu rfl B5) ?_;refine ak (cL rfl B6) ?_;refine aB func152 rfl (uB A1 A2 A3 A4 A1 A2 A3 A4 Fd Rq Rq om om _ _ _) ?_;rintro e _ ⟨_, rfl, YU, ex⟩;refine au 1 ?_;obtain ⟨E,B2,B3,B4,B5,B6⟩ := iz ex E B2 B3 B4 B5 B6;obtain ⟨d1, d2, d3, d4, rfl, v, D1, D2, D3, D4, Rv⟩ := YU.get;refine af (ag rfl rfl (by rw [aK]; kernel_rfl) B5 (by rw [aK, aK]) (fv _ _ _ _ _)) rfl ?_;rintro _ _ ⟨rfl, D5, cg⟩;replace E := E.aw cg YW; replace B2 := B2.aw cg YX; replace B3 := B3.aw cg YY; replace B4 := B4.aw cg YZ; replace B6 := B6.aw cg Y0; replace B5 := D5;refine au 5 ?_;refine ak ((aP rfl Tn.u rfl (by rw [ao]; kernel_rfl) B3)) ?_;refine aU ?_;refine aB func153 rfl (Kz n k _ Om) ?_;rintro e _ ⟨rfl, ex⟩;obtain ⟨E,B2,B3,B4,B5,B6⟩ := iz ex E B2 B3 B4 B5 B6;refine aa1 (fun Ze => ?_) (fun Ze => ?_)
  ·refine au 1 ?_;refine ak (Iu rfl B5) ?_;refine ak (Iu rfl B2) ?_;refine ak (cL rfl B6) ?_;refine aB func152 rfl (uB D1 D2 D3 D4 R1 R2 R3 R4 Fd Rv Ru (Ed.xe om om) oP _ _ _) ?_;rintro e _ ⟨_, rfl, Y3, ex⟩;refine au 1 ?_;obtain ⟨E,B2,B3,B4,B5,B6⟩ := iz ex E B2 B3 B4 B5 B6;rw [if_pos Om] at hbm; rw [hbm] at Y3; obtain ⟨e1, e2, e3, e4, rfl, _⟩ := Y3.get;refine af (ag rfl rfl (by rw [aK]; kernel_rfl) B5 (by rw [aK, aK]) (fv _ _ _ _ _)) rfl ?_;rintro _ _ ⟨rfl, D5, cg⟩;replace E := E.aw cg YW; replace B2 := B2.aw cg YX; replace B3 := B3.aw cg YY; replace B4 := B4.aw cg YZ; replace B6 := B6.aw cg Y0; replace B5 := D5; replace YU := Y3;refine au 6 ?_;refine ak (fG rfl rfl (show IntKind.i64.wrap ((k : Int) - 1) = (k : Int) - 1 from bj Om Om)) ?_;refine aa1 (fun Za => ?_) (fun Za => ?_)
   ·refine aU ?_;refine bW ?_
    obtain ⟨j, rfl⟩ : ∃ j, k = j + 1 := ⟨k - 1, Om⟩
    rw [show (((j + 1 : Nat) : Int) - 1) = (j : Int) by omega];refine Y2 _ _ ⟨j, g5, g6, _, _, fd, rfl, rfl, Om, YV, YW, YX, YY, YZ, Y0, Pp, YU, Fd, E, B2, B3, B4, B5, B6⟩ Om Ls
   obtain rfl : k = 0 := Om
   rw [Nat.pow_zero, Nat.div_one] at YU;refine au 4 ?_;refine ak (Iu rfl B5) ?_;refine af (ag rfl rfl (by rw [aK]; kernel_rfl) B4 (by rw [aK, aK]) (fv _ _ _ _ _)) rfl ?_;rintro _ Zf ⟨rfl, Zb, cg⟩;replace E := E.aw cg YV;refine aU ?_;refine bQ ?_;exact aa4 rfl Zb (aK _ _ _ _ _) ⟨_, rfl, YU, E⟩
  rw [if_neg Om] at hbm;rw [hbm] at YU;refine au 6 ?_;refine ak (fG rfl rfl (show IntKind.i64.wrap ((k : Int) - 1) = (k : Int) - 1 from bj Om Om)) ?_;refine aa1 (fun Za => ?_) (fun Za => ?_)
  ·refine aU ?_;refine bW ?_
   obtain ⟨j, rfl⟩ : ∃ j, k = j + 1 := ⟨k - 1, Om⟩
   rw [show (((j + 1 : Nat) : Int) - 1) = (j : Int) by omega];refine Y2 _ _ ⟨j, g5, g6, _, _, fd, rfl, rfl, Om, YV, YW, YX, YY, YZ, Y0, Pp, YU, Fd, E, B2, B3, B4, B5, B6⟩ Om Ls
  obtain rfl : k = 0 := Om
  rw [Nat.pow_zero, Nat.div_one] at YU;refine au 4 ?_;refine ak (Iu rfl B5) ?_;refine af (ag rfl rfl (by rw [aK]; kernel_rfl) B4 (by rw [aK, aK]) (fv _ _ _ _ _)) rfl ?_;rintro _ Zf ⟨rfl, Zb, cg⟩;replace E := E.aw cg YV;refine aU ?_;refine bQ ?_;exact aa4 rfl Zb (aK _ _ _ _ _) ⟨_, rfl, YU, E⟩
 intro G Y2;refine au 2 ?_;refine ak (Iu rfl B2) ?_;refine aB func148 rfl (jl hP _) ?_;rintro e _ ⟨c4, rfl, P4, ex⟩;obtain ⟨E,B2,B3,B4⟩ := bG ex E B2 B3 B4;refine au 1 ?_;refine af (ag rfl rfl (by rw [P4.size]; kernel_rfl) B2 (by rw [aK, P4.size]) P4.one) rfl ?_;rintro _ _ ⟨rfl, D2, cg⟩;replace E := E.aw cg Om; replace B3 := B3.aw cg Om; replace B4 := B4.aw cg Om; replace B2 := D2;refine aU ?_;refine aB func149 rfl (pZ _) ?_;rintro e _ ⟨c6, rfl, P6, ex⟩;obtain ⟨E,B2,B3,B4⟩ := bG ex E B2 B3 B4;refine aU ?_;refine aB func150 rfl (tq _) ?_;rintro e _ ⟨_, rfl, F7, ex⟩;obtain ⟨E,B2,B3,B4⟩ := bG ex E B2 B3 B4;refine aU ?_;refine aB func150 rfl (tq _) ?_;rintro e _ ⟨_, rfl, F8, ex⟩;obtain ⟨E,B2,B3,B4⟩ := bG ex E B2 B3 B4;refine aU ?_;refine aB func151 rfl (eB F7 F8 _) ?_;rintro e _ ⟨_, rfl, F9, ex⟩;obtain ⟨E,B2,B3,B4⟩ := bG ex E B2 B3 B4;obtain ⟨f9, rfl, F9⟩ := F9.fe;have Zg := B2.lt; have Zh := B3.lt; have Zi := B4.lt;refine aU ?_;intro Zo g5 (B5 : aq _ _ _ (pc zf zf zf zf false)) Zp ex;obtain ⟨E,B2,B3,B4⟩ := bG ex E B2 B3 B4;have Zq := B5.lt;refine aU ?_;intro Zr g6 (B6 : aq _ _ _ (fe zf)) Zs ex;obtain ⟨E,B2,B3,B4,B5⟩ := fR ex E B2 B3 B4 B5;refine af (ag rfl rfl (by rw [P6.size]; kernel_rfl) B5 (by rw [aK, P6.size]) P6.one) rfl ?_;rintro _ _ ⟨rfl, D5, cg⟩;replace E := E.aw cg Om; replace B2 := B2.aw cg Om; replace B3 := B3.aw cg Om; replace B4 := B4.aw cg Om; replace B6 := B6.aw cg Om; replace B5 := D5;refine af (ag rfl rfl (by rw [aj]; kernel_rfl) B6 (by rw [aj, aj]) (bg _)) rfl ?_;rintro _ _ ⟨rfl, D6, cg⟩;replace E := E.aw cg Om; replace B2 := B2.aw cg Om; replace B3 := B3.aw cg Om; replace B4 := B4.aw cg Om; replace B5 := B5.aw cg Om; replace B6 := D6;refine au 7 ?_;refine dB ?_; intro Zt Zc;refine iL ?_;refine ae (Zc ?_);exact Y2 _ _ ⟨252, g5, g6, c4, c6, f9, rfl, rfl, Om, Om, Om, Om, Om, Om, Om, P4, P6.congr (by rw [Zd]; rfl), F9, E, B2, B3, B4, B5, B6⟩ Ls
namespace Sg
theorem LG : ∀ x : Fin 256, bits .andNot .u8 ((x.val : Nat) : Int) 7 = ((x.val / 8 * 8 : Nat) : Int) := by decide +kernel
theorem SN : ∀ x : Fin 256, bits .and .u8 ((x.val : Nat) : Int) 63 = ((x.val % 64 : Nat) : Int) := by decide +kernel
theorem UF : ∀ x : Fin 64, bits .or .u8 ((x.val : Nat) : Int) 64 = ((x.val + 64 : Nat) : Int) := by decide +kernel
def iQ (h : Lb) : List UInt8 := (h.set 0 (UInt8.ofNat ((h.getD 0 0).toNat / 8 * 8))).set 31 (UInt8.ofNat ((h.getD 31 0).toNat % 64 + 64))
theorem uQ (h : Lb) : (iQ h).length = h.length := by unfold iQ; simp
theorem zF (h : Lb) : (iQ h).drop 32 = h.drop 32 := by unfold iQ; rw [List.drop_set_of_lt Om, List.drop_set_of_lt Om]
def raw (seed : Lb) : Nat := Fp.num ((iQ (Lng.sum seed)).take 32)
def sec (seed : Lb) : Nat := raw seed % Sc.L
def pre (seed : Lb) : List UInt8 := (Lng.sum seed).drop 32
theorem CO (seed : Lb) : (pre seed).length = 32 := by unfold pre; rw [List.length_drop, Lng.bT]
theorem NM (seed : Lb) : sec seed < Sc.L := Nat.mod_lt _ Sc.rW
def Dg (xs : Lb) : Nat := Fp.num (Lng.sum xs) % Sc.L
theorem xg (xs : Lb) : Dg xs < Sc.L := Nat.mod_lt _ Sc.rW
theorem uc (xs : Lb) : Fp.num ((Lng.sum xs).take 64) % Sc.L = Dg xs := by rw [List.take_of_length_le (by rw [Lng.bT]; omega)]; rfl
def iZ (seed : Lb) : List UInt8 := Ed.enc (Ed.mul (sec seed) Ed.B)
end Sg
theorem td (A : Oa) (n c : Nat) (xs : Lb) (w : aa9) (HA : Bs w A n xs) (hn : n ≤ 800000) :
  Ct 154 #[.slice A n c] w fun e w' => ∃ g, e = .returned (.tuple #[.agg (ws (Sc.wd (Sg.sec xs))), .slice (some ⟨g, 32, none⟩) 32 32]) ∧ Bs w' (some ⟨g, 32, none⟩) 32 (Sg.pre xs) ∧ w.heap.size ≤ g ∧ Ext w w' := by
 have E := Ext.refl w;have hxl := HA.1
 obtain ⟨h, hh⟩ : ∃ h, h = Lng.sum xs := ⟨_, rfl⟩
 have hl : h.length = 64 := by rw [hh, Lng.bT]
 obtain ⟨x0, YU⟩ : ∃ x, x = (h.getD 0 0).toNat := ⟨_, rfl⟩
 obtain ⟨x1, YV⟩ : ∃ x, x = (h.getD 31 0).toNat := ⟨_, rfl⟩
 have h0 : x0 < 256 := YU ▸ UInt8.toNat_lt _;have h1 : x1 < 256 := YV ▸ UInt8.toNat_lt _;have ht : (h.set 0 (UInt8.ofNat (x0 / 8 * 8))).set 31 (UInt8.ofNat (x1 % 64 + 64)) = Sg.iQ h := by unfold Sg.iQ; rw [YU, YV]
 have hs : Fp.num (((Sg.iQ h).take 32).take 64) % Sc.L = Sg.sec xs := by rw [List.take_take, show min 64 32 = 32 from rfl, hh]; rfl
 have hp : (Sg.iQ h).drop 32 = Sg.pre xs := by rw [Sg.zF, hh]; rfl
 have htl : (Sg.iQ h).length = 64 := by rw [Sg.uQ, hl]
 refine cF (s := 4) 25 func154 rfl rfl rfl underlying141 rfl Kr rfl ?_;intro _ aa4;refine aU ?_;intro w1 g2 (B2 : aq _ _ _ (ws z4)) YW ex;replace E := E.ext ex;refine aU ?_;refine af (aF (z := .slice none 0 0) Tn.u Kr rfl rfl rfl rfl rfl) rfl ?_;rintro _ _ ⟨_, rfl, B3, _, ex⟩;obtain ⟨E,B2⟩ := aS ex E B2;have S3 := nE B3 (HA.ext E); have YX := B2.lt;refine aB func194 rfl (sw _ 1 1 _ _ S3 Om So) ?_;rintro e _ ⟨g4, rfl, _, B4, ex⟩;obtain ⟨E,B2⟩ := aS ex E B2;rw [show [xs].flatten = xs by simp, ← hh] at B4;refine au 7 ?_;refine ak (aC rfl rfl Tn.u Kr (j := 0) rfl Om) ?_;refine ak (ah rfl Tn.u rfl (B4.get (lB (i := 0) Om))) ?_;refine ak (Bh rfl rfl (show bits .andNot .u8 _ 7 = ((x0 / 8 * 8 : Nat) : Int) by rw [← YU]; exact Sg.LG ⟨x0, h0⟩)) ?_;refine ak (aC rfl rfl Tn.u Kr (j := 0) rfl Om) ?_;rw [← wV (n := x0 / 8 * 8) Om];refine af (az rfl rfl rfl Kr B4 (by rw [aV]; omega)) rfl ?_;rintro _ _ ⟨rfl, D4, cg⟩;rw [ng] at D4; replace E := E.aw cg Om; replace B2 := B2.aw cg Om;refine au 6 ?_;refine ak (aC rfl rfl Tn.u Kr (j := 31) rfl Om) ?_;refine ak (ah rfl Tn.u rfl (D4.get (lB (i := 31) (by rw [List.length_set]; omega)))) ?_;refine ak (cT rfl rfl (show bits .and .u8 _ 63 = ((x1 % 64 : Nat) : Int) by rw [List.getD_eq_getElem?_getD, List.getElem?_set_ne Om, ← List.getD_eq_getElem?_getD, ← YV]; exact Sg.SN ⟨x1, h1⟩)) ?_;refine ak (jZ rfl rfl (Sg.UF ⟨x1 % 64, Om⟩)) ?_;refine ak (aC rfl rfl Tn.u Kr (j := 31) rfl Om) ?_;rw [← wV (n := x1 % 64 + 64) Om];refine af (az rfl rfl rfl Kr D4 (by rw [aV, List.length_set]; omega)) rfl ?_;rintro _ _ ⟨rfl, D5, cg⟩;rw [ng, ht] at D5; replace E := E.aw cg Om; replace B2 := B2.aw cg Om; have YY : w.heap.size ≤ g4 := Om; have H5 := aX D5 htl;refine aU ?_;refine aD Kr 7 rfl ?_; intro YZ ex Y0;obtain ⟨E,B2,H5⟩ := bh ex E B2 H5;refine zm [0] ?_;refine dF 1 rfl (fun _ => j8 (s := 1) rfl rfl Tn.u Kr (j := 32) rfl Om) ?_;refine zm [3] ?_;refine dF 4 rfl (fun _ => oI (s := 1) rfl rfl Tn.u Kr (j := 32) rfl Om) ?_;refine bC 2 rfl func193 rfl (qe _ 32 64 ((Sg.iQ h).take 32) _ (H5.take Om) Om) ?_;rintro e _ ⟨rfl, ex⟩;refine au 1 ?_;obtain ⟨E,B2,H5⟩ := bh ex E B2 H5;rw [hs];refine aR 5 Kr ?_; refine bE rfl (ag rfl rfl (by rw [ao]; kernel_rfl) B2 (by rw [ao, ao]) (dj _)) rfl ?_;rintro _ _ ⟨rfl, D2, cg⟩;refine ⟨.inl rfl, ?_⟩
 have E4 := E.aw cg YW; have H7 := H5.aw cg fun b off e => by { injection e with e; injection e with e _; omega }
 refine zm [6] ?_;exact aa4 rfl rfl D2 (ao _) ⟨g4, rfl, by have := H7.cut (k := 32) (cap := 64) Om Om; rw [hp] at this; exact this, YY, E4⟩
theorem DT (A : Oa) (n c : Nat) (xs : Lb) (w : aa9) (HA : Bs w A n xs) (hn : n ≤ 800000) :
  Ct 72 #[.slice A n c] w (ck w (.agg (ws (Sc.wd (if xs.length = 32 then Sg.sec xs else 0))))) := by
 have E := Ext.refl w;have hl := HA.1;have YU : ws z4 = ws (Sc.wd 0) := iN fun j _ => by unfold z4 Sc.wd; simp
 refine aH (s := 4) 15 func72 rfl rfl rfl underlying141 rfl Kr rfl ?_;intro _ aa4;refine aU ?_;intro w1 g2 (B2 : aq _ _ _ (ws z4)) YV ex;replace E := E.ext ex;refine aa1 (fun YW => ?_) (fun YW => ?_)
 ·refine au 2 ?_;refine ak (aA rfl (cells := ws z4) Kr) ?_;refine af (ag rfl rfl (by rw [ao]; kernel_rfl) B2 (by simp only [ao]) (dj _)) rfl ?_;rintro _ _ ⟨rfl, D2, cg⟩;replace E := E.aw cg YV; rw [YU] at D2;refine aU ?_;exact aa4 rfl D2 (ao _) ⟨by rw [if_neg (show ¬ xs.length = 32 by omega)], E⟩
 refine aU ?_;refine aB func154 rfl (td A n c xs _ (HA.ext E) hn) ?_;rintro e _ ⟨_, rfl, _, _, ex⟩;obtain ⟨E,B2⟩ := aS ex E B2;have YX := B2.lt;refine aU ?_;intro w5 g3 (B3 : aq _ _ _ (ws z4)) YY ex;obtain ⟨E,B2⟩ := aS ex E B2;refine af (ag rfl rfl (by rw [ao]; kernel_rfl) B3 (by rw [ao, ao]) (dj _)) rfl ?_;rintro _ _ ⟨rfl, D3, cg⟩;replace E := E.aw cg Om; replace B2 := B2.aw cg Om;refine au 5 ?_;refine ak ((aP rfl Tn.u rfl (by rw [ao]; kernel_rfl) D3)) ?_;refine af (ag rfl rfl (by rw [ao]; kernel_rfl) B2 (by rw [ao, ao]) (dj _)) rfl ?_;rintro _ _ ⟨rfl, D2, cg⟩;replace E := E.aw cg Om;refine aU ?_;exact aa4 rfl D2 (ao _) ⟨by rw [if_pos (show xs.length = 32 by omega)], E⟩
def qI (xs : Lb) : List UInt8 × Nat := if xs.length = 32 then (Sg.iZ xs, 0) else ([], 1)
theorem ub (A : Oa) (n c : Nat) (xs : Lb) (w : aa9) (HA : Bs w A n xs) (hn : n ≤ 800000) :
  Ct 29 #[.slice A n c] w fun e w' => ∃ A' k c', e = .returned (.tuple #[.slice A' k c', .int .u8 ((qI xs).2 : Int)]) ∧ Bn w.heap.size w' A' k (qI xs).1 ∧ k ≤ 32 ∧ k ≤ c' ∧ Ext w w' := by
 have E := Ext.refl w;have hl := HA.1;refine aZ 12 func29 ?_;intro _ aa4;refine aa1 (fun YU => ?_) (fun YU => ?_)
 ·refine aU ?_;exact aa4 rfl rfl ⟨none, 0, 0, by unfold qI; rw [if_neg (show ¬ xs.length = 32 by omega)]; rfl, by unfold qI; rw [if_neg (show ¬ xs.length = 32 by omega)]; exact Bn.nil _ _, Om, Om, E⟩
 refine aU ?_;refine aB func70 rfl (qo _) ?_;rintro e _ ⟨_, rfl, P1, ex⟩;replace E := E.ext ex;refine aU ?_;refine aB func72 rfl (DT A n c xs _ (HA.ext E) hn) ?_;rintro e _ ⟨rfl, ex⟩;refine au 1 ?_;replace E := E.ext ex;rw [if_pos (show xs.length = 32 by omega)];refine aB func71 rfl (pn P1.pp Ed.iH (Sg.sec xs) (Sg.NM xs) _) ?_;rintro e _ ⟨_, rfl, P3, ex⟩;replace E := E.ext ex;refine aU ?_;have YV := E.size;refine aB func73 rfl (tX P3.pp _) ?_;rintro e _ ⟨g4, rfl, _, B4, ex⟩;replace E := E.ext ex;refine aU ?_;exact aa4 rfl rfl ⟨some ⟨g4, 0, none⟩, 32, 32, by unfold qI; rw [if_pos (show xs.length = 32 by omega)]; rfl, by unfold qI; rw [if_pos (show xs.length = 32 by omega)]; exact ⟨aX B4 (Ed.gZ _), Nw.of B4 Om⟩, Om, Om, E⟩
theorem Gf (xs : Lb) : Ed.On ((Ed.dec xs).getD Ed.O) := Pr xs
namespace Sg
def left (s : Lb) : Fp.F × Fp.F := Ed.mul (Fp.num (s.drop 32)) Ed.B
def right (p t s : Lb) : Fp.F × Fp.F := Ed.add ((Ed.dec (s.take 32)).getD Ed.O) (Ed.mul (Dg (s.take 32 ++ p ++ t)) ((Ed.dec p).getD Ed.O))
def whole (p s : Lb) : Bool := (Ed.dec (s.take 32)).isSome && decide (Fp.num (s.drop 32) < Sc.L) && (Ed.dec p).isSome
def holds (p t s : Lb) : Bool := decide (s.length = 64) && whole p s && decide (left s = right p t s)
end Sg
theorem Hv (A : Oa) (n c : Nat) (ps : Lb) (B : Oa) (m d : Nat) (ts : Lb) (C : Oa) (k f : Nat) (ss : Lb) (w : aa9) (HA : Bs w A n ps) (HB : Bs w B m ts) (HC : Bs w C k ss) (hn : n ≤ 100000) (hm : m ≤ 100000) (hk : k ≤ 100000) (hf : k ≤ f) :
  Ct 157 #[.slice A n c, .slice B m d, .slice C k f] w (ck w (.bool (Sg.holds ps ts ss))) := by
 have E := Ext.refl w;have hlA := HA.1; have hlB := HB.1; have hlC := HC.1;refine ai 60 func157 ?_;intro _ aa4;refine aa1 (fun Za => ?_) (fun Za => ?_)
 ·refine aU ?_;exact aa4 rfl ⟨by unfold Sg.holds; rw [decide_eq_false (show ¬ ss.length = 64 by omega)]; rfl, E⟩
 have Zb : ss.length = 64 := Om
 have YX : k = 64 := Om
 subst YX;have HL := HC.take (k := 32) Om;have HH := HC.lZ (c := f) (j := 32) Om Om;have hdl : (ss.drop 32).length = 32 := by rw [List.length_drop]; omega
 refine au 5 ?_;refine ak (j8 (s := 1) rfl rfl Tn.u Kr (j := 32) rfl Om) ?_;refine aB func210 rfl (EO C 32 f (ss.take 32) _ (HL.ext E)) ?_;rintro e _ ⟨_, rfl, P7, ex⟩;replace E := E.ext ex;have o7 := Gf (ss.take 32);have Zq := E.size;refine aU ?_;intro w2 g7 (B7 : aq _ _ _ (pc zf zf zf zf false)) Zr ex;replace E := E.ext ex;refine af (ag rfl rfl (by rw [P7.size]; kernel_rfl) B7 (by rw [aK, P7.size]) P7.one) rfl ?_;rintro _ _ ⟨rfl, D7, cg⟩;replace E := E.aw cg Om; replace B7 := D7;refine au 6 ?_;refine ak (oI (s := 1) rfl rfl Tn.u Kr (j := 32) rfl Om) ?_;refine aB func211 rfl (Dl (lZ C f 32 1) (64 - 32) (f - 32) (ss.drop 32) _ (HH.ext E) Om) ?_;rintro e _ ⟨_, rfl, hv, _, ex⟩;obtain ⟨E,B7⟩ := aS ex E B7;have Zc := B7.lt;refine aU ?_;intro w5 g9 (B9 : aq _ _ _ (ws z4)) Zs ex;obtain ⟨E,B7⟩ := aS ex E B7;refine af (ag rfl rfl (by rw [ao]; kernel_rfl) B9 (by rw [ao, ao]) (dj _)) rfl ?_;rintro _ _ ⟨rfl, D9, cg⟩;replace E := E.aw cg Om; replace B7 := B7.aw cg Om; replace B9 := D9;refine aU ?_;refine aB func210 rfl (EO A n c ps _ (HA.ext E)) ?_;rintro e _ ⟨_, rfl, YV, ex⟩;obtain ⟨E,B7,B9⟩ := bh ex E B7 B9;have Y0 := Gf ps;have Zd := B7.lt; have Ze := B9.lt;refine aU ?_;intro w8 Zt (YU : aq _ _ _ (pc zf zf zf zf false)) Zf ex;obtain ⟨E,B7,B9⟩ := bh ex E B7 B9;refine af (ag rfl rfl (by rw [YV.size]; kernel_rfl) YU (by rw [aK, YV.size]) YV.one) rfl ?_;rintro _ _ ⟨rfl, Zg, cg⟩;replace E := E.aw cg Om; replace B7 := B7.aw cg Om; replace B9 := B9.aw cg Om; replace YU := Zg;refine au 8 ?_;refine kQ (aL rfl) rfl (fun h1 => ?_) (fun h1 => ?_)
 ·refine au 9 ?_;refine bS rfl rfl ?_;refine aU ?_;exact aa4 rfl ⟨by unfold Sg.holds Sg.whole; rw [show (Ed.dec (ss.take 32)).isSome = false by simpa using h1]; simp, E⟩
 refine au 3 ?_;refine kQ (aL rfl) rfl (fun h2 => ?_) (fun h2 => ?_)
 ·refine au 5 ?_;refine bS rfl rfl ?_;refine aU ?_;exact aa4 rfl ⟨by unfold Sg.holds Sg.whole; rw [decide_eq_false (show ¬ Fp.num (ss.drop 32) < Sc.L by simpa [hdl] using h2)]; simp, E⟩
 refine aU ?_;refine bw rfl (fun YY => ?_) (fun YY => ?_)
 ·refine aU ?_;exact aa4 rfl ⟨by unfold Sg.holds Sg.whole; rw [show (Ed.dec ps).isSome = false by simpa using YY]; simp, E⟩
 have Zh : (Ed.dec (ss.take 32)).isSome = true := by simpa using h1
 have YZ : Fp.num (ss.drop 32) < Sc.L := by simpa [hdl] using h2
 have Zi : (Ed.dec ps).isSome = true := by simpa using YY
 have Zj := hv ⟨hdl, YZ⟩;subst Zj;refine au 5 ?_;refine ak (j8 (s := 1) rfl rfl Tn.u Kr (j := 32) rfl Om) ?_;refine aU ?_;refine af (aF (z := .slice none 0 0) Tn.u Kr rfl rfl rfl rfl rfl) rfl ?_;rintro _ _ ⟨_, rfl, Zk, _, ex⟩;obtain ⟨E,B7,B9,YU⟩ := bG ex E B7 B9 YU;have Zl := km Zk (HL.ext E) (HA.ext E) (HB.ext E);refine aB func194 rfl (sw _ 3 3 _ _ Zl Om So) ?_;rintro e _ ⟨_, rfl, _, Y2, ex⟩;refine aU ?_;obtain ⟨E,B7,B9,YU⟩ := bG ex E B7 B9 YU;rw [show [ss.take 32, ps, ts].flatten = ss.take 32 ++ ps ++ ts by simp] at Y2;refine aB func193 rfl (qe _ 64 64 _ _ (aX Y2 (Lng.bT _)) Om) ?_;rintro e _ ⟨rfl, ex⟩;refine au 1 ?_;obtain ⟨E,B7,B9,YU⟩ := bG ex E B7 B9 YU;rw [Sg.uc];have Zm := B7.lt; have Zn := B9.lt; have Y3 := YU.lt;refine aU ?_;intro Zu Zv (YW : aq _ _ _ (ws z4)) Zo ex;obtain ⟨E,B7,B9,YU⟩ := bG ex E B7 B9 YU;refine af (ag rfl rfl (by rw [ao]; kernel_rfl) YW (by rw [ao, ao]) (dj _)) rfl ?_;rintro _ _ ⟨rfl, Zp, cg⟩;replace E := E.aw cg Om; replace B7 := B7.aw cg Om; replace B9 := B9.aw cg Om; replace YU := YU.aw cg Om; replace YW := Zp;refine aU ?_;refine aD Kr 10 rfl ?_; intro Zw ex Zx;obtain ⟨E,B7,B9,YU,YW⟩ := fR ex E B7 B9 YU YW;refine my 1 rfl ((aP rfl Tn.u rfl (by rw [ao]; kernel_rfl) B9)) ?_;refine my 3 rfl (UE rfl P7 B7) ?_;refine my 4 rfl (UE rfl YV YU) ?_;refine my 5 rfl ((aP rfl Tn.u rfl (by rw [ao]; kernel_rfl) YW)) ?_;refine bC 0 rfl func70 rfl (qo _) ?_;rintro e _ ⟨_, rfl, PB, ex⟩;replace E := E.ext ex;refine aU ?_;refine bC 2 rfl func71 rfl (pn PB.pp Ed.iH (Fp.num (ss.drop 32)) YZ _) ?_;rintro e _ ⟨_, rfl, PL, ex⟩;replace E := E.ext ex;refine aU ?_;refine bC 6 rfl func71 rfl (pn YV Y0 (Sg.Dg (ss.take 32 ++ ps ++ ts)) (Sg.xg _) _) ?_;rintro e _ ⟨_, rfl, PM, ex⟩;replace E := E.ext ex;refine aU ?_;refine bC 7 rfl func213 rfl (N7 P7 PM.pp o7 (Ed.eR Y0 _) _) ?_;rintro e _ ⟨_, rfl, PR, ex⟩;replace E := E.ext ex;refine aU ?_;refine bC 8 rfl func212 rfl (Hn PL.pp PR.pp _) ?_;rintro e _ ⟨rfl, ex⟩;replace E := E.ext ex;refine zm [9] ?_;exact aa4 rfl ⟨by unfold Sg.holds Sg.whole; rw [decide_eq_true Zb, Zh, decide_eq_true YZ, Zi]; rfl, E⟩
theorem Br (h : n < Sc.L) : Fp.num (Fp.le 32 n) = n := Fp.mo 32 n (Nat.lt_trans h (by decide +kernel))
namespace Sg
def sH (s t : Lb) : Nat := Dg (pre s ++ t)
def kh (s t : Lb) : List UInt8 := Ed.enc (Ed.mul (sH s t) Ed.B)
def Cv (s t : Lb) : Nat := Dg (kh s t ++ iZ s ++ t)
def sum (s t : Lb) : Nat := (sH s t + Cv s t * sec s % Sc.L) % Sc.L
def sig (s t : Lb) : List UInt8 := kh s t ++ Fp.le 32 (sum s t)
theorem Em (s t : Lb) : sum s t < Sc.L := Nat.mod_lt _ Sc.rW
theorem et (s t : Lb) : (kh s t).length = 32 := Ed.gZ _
theorem fQ (s t : Lb) : (sig s t).length = 64 := by unfold sig; rw [List.length_append, et, Fp.cw]
theorem de (s : Lb) : (iZ s).length = 32 := Ed.gZ _
end Sg
def gY (s t : Lb) : List UInt8 × Nat := if s.length = 32 then (Sg.sig s t, 0) else ([], 1)
theorem Bs.DH {xs : Lb} (h : Bs w A n xs) (cg : mi w g w') (h0 : Bs w0 A n xs) (hg : w0.heap.size ≤ g) : Bs w' A n xs := by
 rcases Nat.eq_zero_or_pos n with hn | hn
 ·subst hn; exact ⟨h.1, .inl (by rw [List.eq_nil_of_length_eq_zero h.1]; rfl)⟩
 refine h.aw cg fun b o e => ?_;obtain ⟨b', o', e', YU, _⟩ := h0.get hn;rw [e] at e';injection e' with e'
 injection e' with e1 _ _
 omega
theorem AR (A : Oa) (n c : Nat) (xss : List (List UInt8)) (w : aa9) (ha : sL w A n xss) (hn : n ≤ 70368744177664) (hlen : xss.flatten.length ≤ 70368744177664) :
  Ct 184 #[.slice A n c] w fun e w' => ∃ A' k c', e = .returned (.slice A' k c') ∧ Row w' w.heap.size 5 A' k c' (xss.flatten.map bv) ∧ Ext w w' :=
 (ir A n c xss w ha hn hlen).mono fun _ _ ⟨A', k, c', h1, h2, h3⟩ => ⟨A', k, c', h1, h2, h3⟩
theorem KW (A : Oa) (n c : Nat) (xs : Lb) (B : Oa) (m d : Nat) (ts : Lb) (w : aa9) (HA : Bs w A n xs) (HB : Bs w B m ts) (hn : n ≤ 100000) (hm : m ≤ 100000) :
  Ct 134 #[.slice A n c, .slice B m d] w fun e w' => ∃ A' k c', e = .returned (.tuple #[.slice A' k c', .int .u8 ((gY xs ts).2 : Int)]) ∧ Bn w.heap.size w' A' k (gY xs ts).1 ∧ k ≤ c' ∧ Ext w w' := by
 have E := Ext.refl w;have hlA := HA.1; have hlB := HB.1;refine aZ 50 func134 ?_;intro _ aa4;refine aU ?_;refine aB func29 rfl (ub A n c xs _ (HA.ext E) Om) ?_;rintro e _ ⟨_, _, _, rfl, ⟨H1, _⟩, _, _, ex⟩;replace E := E.ext ex;refine aa1 (fun YV => ?_) (fun YV => ?_)
 ·have hne : ¬ xs.length = 32 := fun h => by unfold qI at YV; rw [if_pos h] at YV; exact YV rfl
  refine aU ?_;exact aa4 rfl rfl ⟨none, 0, 0, by unfold gY qI; rw [if_neg hne, if_neg hne], by unfold gY; rw [if_neg hne]; exact Bn.nil _ _, Om, E⟩
 have YX : xs.length = 32 := Classical.byContradiction fun h => by unfold qI at YV; rw [if_neg h] at YV; exact absurd YV (by decide)
 have hpe : (qI xs).1 = Sg.iZ xs := by unfold qI; rw [if_pos YX]
 rw [hpe] at H1;refine aU ?_;refine aB func154 rfl (td A n c xs _ (HA.ext E) Om) ?_;rintro e _ ⟨_, rfl, H2, _, ex⟩;obtain ⟨E,H1⟩ := aS ex E H1;have Zp := E.size; have YY := H1; have Y3 := H2;refine aU ?_;intro w3 g8 (B8 : aq _ _ _ (ws z4)) Zq ex;obtain ⟨E,H1,H2⟩ := bh ex E H1 H2;refine af (ag rfl rfl (by rw [ao]; kernel_rfl) B8 (by rw [ao, ao]) (dj _)) rfl ?_;rintro _ _ ⟨rfl, D8, cg⟩;replace E := E.aw cg Om; replace H1 := H1.DH cg YY Om; replace H2 := H2.DH cg Y3 Om; replace B8 := D8;refine aU ?_;refine af (aF (z := .slice none 0 0) Tn.u Kr rfl rfl rfl rfl rfl) rfl ?_;rintro _ _ ⟨_, rfl, B9, _, ex⟩;obtain ⟨E,H1,H2,B8⟩ := bG ex E H1 H2 B8;have S9 := qj B9 H2 (HB.ext E);refine aB func194 rfl (sw _ 2 2 _ _ S9 Om (by have := Sg.CO xs; simp; omega)) ?_;rintro e _ ⟨_, rfl, _, YZ, ex⟩;refine aU ?_;obtain ⟨E,H1,B8⟩ := bh ex E H1 B8;rw [show [Sg.pre xs, ts].flatten = Sg.pre xs ++ ts by simp] at YZ;refine aB func193 rfl (qe _ 64 64 _ _ (aX YZ (Lng.bT _)) Om) ?_;rintro e _ ⟨rfl, ex⟩;refine au 1 ?_;obtain ⟨E,H1,B8⟩ := bh ex E H1 B8;rw [Sg.uc];have Za := B8.lt; have YY := H1;refine aU ?_;intro w8 Zr (YU : aq _ _ _ (ws z4)) Zb ex;obtain ⟨E,H1,B8⟩ := bh ex E H1 B8;refine af (ag rfl rfl (by rw [ao]; kernel_rfl) YU (by rw [ao, ao]) (dj _)) rfl ?_;rintro _ _ ⟨rfl, Zc, cg⟩;replace E := E.aw cg Om; replace B8 := B8.aw cg Om; replace H1 := H1.DH cg YY Om; replace YU := Zc;refine aU ?_;refine aD Kr 5 rfl ?_; intro Zs ex Zt;obtain ⟨E,H1,B8,YU⟩ := bG ex E H1 B8 YU;refine my 1 rfl ((aP rfl Tn.u rfl (by rw [ao]; kernel_rfl) YU)) ?_;refine bC 0 rfl func70 rfl (qo _) ?_;rintro e _ ⟨_, rfl, PB, ex⟩;obtain ⟨E,H1,B8,YU⟩ := bG ex E H1 B8 YU;refine aU ?_;refine bC 2 rfl func71 rfl (pn PB.pp Ed.iH (Sg.sH xs ts) (Sg.xg _) _) ?_;rintro e _ ⟨_, rfl, PR, ex⟩;obtain ⟨E,H1,B8,YU⟩ := bG ex E H1 B8 YU;refine aU ?_;refine bC 3 rfl func73 rfl (tX PR.pp _) ?_;rintro e Zd ⟨Ze, rfl, _, Zf, ex⟩;obtain ⟨E,H1,B8,YU⟩ := bG ex E H1 B8 YU;have H3 : Bs Zd (cf Ze) 32 (Sg.kh xs ts) := aX Zf (Ed.gZ _);refine zm [4] ?_;refine af (aF (z := .slice none 0 0) Tn.u Kr rfl rfl rfl rfl rfl) rfl ?_;rintro _ _ ⟨_, rfl, Zg, _, ex⟩;obtain ⟨E,H1,B8,YU,H3⟩ := fR ex E H1 B8 YU H3;have Zh := km Zg H3 H1 (HB.ext E);refine aB func194 rfl (sw _ 3 3 _ _ Zh Om (by have := Sg.et xs ts; have := Sg.de xs; simp; omega)) ?_;rintro e _ ⟨_, rfl, _, Y0, ex⟩;refine aU ?_;obtain ⟨E,B8,YU,H3⟩ := bG ex E B8 YU H3;rw [show [Sg.kh xs ts, Sg.iZ xs, ts].flatten = Sg.kh xs ts ++ Sg.iZ xs ++ ts by simp] at Y0;refine aB func193 rfl (qe _ 64 64 _ _ (aX Y0 (Lng.bT _)) Om) ?_;rintro e _ ⟨rfl, ex⟩;refine au 1 ?_;obtain ⟨E,B8,YU,H3⟩ := bG ex E B8 YU H3;rw [Sg.uc];have Zi := B8.lt; have Y2 := YU.lt; have Zu := Bs.U1 H3 Om;refine aU ?_;intro Zv Zw (YW : aq _ _ _ (ws z4)) Zj ex;obtain ⟨E,B8,YU,H3⟩ := bG ex E B8 YU H3;refine af (ag rfl rfl (by rw [ao]; kernel_rfl) YW (by rw [ao, ao]) (dj _)) rfl ?_;rintro _ _ ⟨rfl, Zk, cg⟩;replace E := E.aw cg Om; replace B8 := B8.aw cg Om; replace YU := YU.aw cg Om; replace H3 := H3.aw cg (fun b o e => by injection e with e; injection e with e1 _ _; omega); replace YW := Zk;refine aU ?_;refine aD Kr 11 rfl ?_; intro Zx ex Zy;obtain ⟨E,B8,YU,H3,YW⟩ := fR ex E B8 YU H3 YW;refine zm [0] ?_;refine my 1 rfl ((aP rfl Tn.u rfl (by rw [ao]; kernel_rfl) YU)) ?_;refine my 2 rfl ((aP rfl Tn.u rfl (by rw [ao]; kernel_rfl) YW)) ?_;refine my 3 rfl ((aP rfl Tn.u rfl (by rw [ao]; kernel_rfl) B8)) ?_;refine bC 4 rfl func196 rfl (Ku (Sg.Cv xs ts) (Sg.sec xs) _ (Sg.xg _) (Sg.NM _)) ?_;rintro e _ ⟨rfl, ex⟩;obtain ⟨E,H3⟩ := aS ex E H3;refine aU ?_;refine bC 5 rfl func195 rfl (MO (Sg.sH xs ts) (Sg.Cv xs ts * Sg.sec xs % Sc.L) _ (Sg.xg _) (Nat.mod_lt _ Sc.rW)) ?_;rintro e _ ⟨rfl, ex⟩;obtain ⟨E,H3⟩ := aS ex E H3;refine aU ?_;refine bC 6 rfl func197 rfl (Cm (Sg.sum xs ts) _) ?_;rintro e _ ⟨_, rfl, _, Zl, ex⟩;refine aU ?_;obtain ⟨E,H3⟩ := aS ex E H3;have H5 := aX Zl (Fp.cw 32 _);refine aR 7 Kr ?_; refine bE rfl (aF (z := .slice none 0 0) Tn.u Kr rfl rfl rfl rfl rfl) rfl ?_;rintro _ _ ⟨_, rfl, Zm, _, ex⟩;refine ⟨.inr ex, ?_⟩;obtain ⟨E,H3,H5⟩ := bh ex E H3 H5;have Zn := qj Zm H3 H5;have Zo := E.size;refine bC 8 rfl func184 rfl (AR _ 2 2 _ _ Zn Om (by have := Sg.et xs ts; simp [Fp.cw]; omega)) ?_;rintro e _ ⟨A6, k6, c6, rfl, R6, ex⟩;replace E := E.ext ex;rw [show [Sg.kh xs ts, Fp.le 32 (Sg.sum xs ts)].flatten = Sg.sig xs ts by simp [Sg.sig]] at R6;refine zm [9, 10] ?_;exact aa4 rfl rfl ⟨A6, k6, c6, by unfold gY; rw [if_pos YX]; rfl, by unfold gY; rw [if_pos YX]; exact R6.bn.lo Zo, R6.cap, E⟩
theorem yR {c : Nat} {xs : Lb} (HA : Bs w A n xs) (h : xs.length = 32) :
  Ct 29 #[.slice A n c] w fun e w' => ∃ A' c', e = .returned (.tuple #[.slice A' 32 c', .int .u8 0]) ∧ Bn w.heap.size w' A' 32 (Sg.iZ xs) ∧ 32 ≤ c' ∧ Ext w w' :=
 (ub A n c xs w HA (by have := HA.1; omega)).mono fun _ _ ⟨A', k, c', h1, h2, _, h4, h5⟩ => by
  have e : qI xs = (Sg.iZ xs, 0) := by unfold qI; rw [if_pos h]
  rw [e] at h1 h2;have hk : k = 32 := h2.1.1.symm.trans (Sg.de xs);subst hk;exact ⟨A', c', h1, h2, h4, h5⟩
namespace Sg
def text (l t : Lb) : List UInt8 := Wire.vec (Kdf.N1 ++ l) ++ Wire.vec t
theorem rI (l t : Lb) : (text l t).length ≤ l.length + t.length + 16 := by have h1 := Wire.bH (Kdf.N1 ++ l).length; have h2 := Wire.bH t.length;unfold text;simp only [List.length_append, Wire.jr];simp only [List.length_append] at h1;have : Kdf.N1.length = 8 := rfl;omega
theorem Bm (s t : Lb) : (sig s t).take 32 = kh s t := by unfold sig; rw [List.take_append_of_le_length (by rw [et]; omega), List.take_of_length_le (by rw [et]; omega)]
theorem BU (s t : Lb) : (sig s t).drop 32 = Fp.le 32 (sum s t) := by unfold sig; rw [List.drop_append, et, List.drop_of_length_le (by rw [et]; omega)]; rfl
theorem Iz (s t : Lb) : whole (iZ s) (sig s t) = true := by unfold whole;rw [Bm, BU, Br (Em s t), decide_eq_true (Em s t)];unfold kh iZ;rw [Ed.so (Ed.eR Ed.iH _), Ed.so (Ed.eR Ed.iH _)];rfl
theorem AN (n : Nat) : Ed.mul (n % Sc.L) Ed.B = Ed.mul n Ed.B := Ed.mul_mod Ed.iH Ed.uE n
theorem RK (s t : Lb) : left (sig s t) = right (iZ s) t (sig s t) := by unfold left right;rw [Bm, BU, Br (Em s t)];have h1 : Ed.dec (kh s t) = some (Ed.mul (sH s t) Ed.B) := Ed.so (Ed.eR Ed.iH _);have h2 : Ed.dec (iZ s) = some (Ed.mul (sec s) Ed.B) := Ed.so (Ed.eR Ed.iH _);rw [h1, h2];have hc : Dg (kh s t ++ iZ s ++ t) = Cv s t := rfl;rw [hc, Option.getD_some, Option.getD_some];have e : sum s t = (sH s t + Cv s t * sec s % Sc.L) % Sc.L := rfl;rw [e];generalize sH s t = r;generalize Cv s t = k;generalize sec s = x;rw [AN, Ed.mul_add Ed.iH, AN, Nat.mul_comm k x, Ed.jg Ed.iH]
theorem IG (s t : Lb) : holds (iZ s) t (sig s t) = true := by unfold holds;rw [decide_eq_true (fQ s t), Iz, decide_eq_true (RK s t)];rfl
end Sg
theorem mD (s : ByteArray) (B : Oa) (m d : Nat) (ts : Lb) (w : aa9) (HB : Bs w B m ts) (hs : s.size ≤ 1000) (hm : m ≤ 90000) :
  Ct 135 #[.string s, .slice B m d] w fun e w' => ∃ A' k c', e = .returned (.slice A' k c') ∧ Row w' w.heap.size 5 A' k c' ((Sg.text s.data.toList ts).map bv) ∧ Ext w w' := by
 have E := Ext.refl w;have YW := Wire.bH (8 + s.size);have hcs : (⟨#[77, 76, 83, 32, 49, 46, 48, 32]⟩ : ByteArray).size = 8 := rfl;refine ai 11 func135 ?_;intro _ aa4;refine au 8 ?_;refine ak (tp rfl rfl Om) ?_;refine af (oJ rfl Tn.u Tn.u Tn.u) rfl ?_;rintro _ _ ⟨_, c2, rfl, H2, _, ex⟩;obtain ⟨HB,E⟩ := aS ex HB E;rw [xF, eC] at H2;refine aB func162 rfl (dS none _ 0 0 _ c2 [] _ _ (Bs.nil _ _) Om (by rw [eC]; exact H2) (by rw [eC]; omega)) ?_;rintro e _ ⟨A3, k3, c3, rfl, R3, YU, ex⟩;obtain ⟨HB,E⟩ := aS ex HB E;have H3 := R3.bs; rw [eC] at YU;refine aU ?_;have YV := E.size;refine aB func162 rfl (dS A3 B k3 c3 m d _ ts _ H3 Om HB Om) ?_;rintro e _ ⟨A4, k4, c4, rfl, R4, _, ex⟩;replace E := E.ext ex;refine aU ?_;exact aa4 rfl ⟨A4, k4, c4, rfl, (R4.congr rfl (by simp [Sg.text])).lower YV, E⟩
theorem wK (A : Oa) (n c : Nat) (xs : Lb) (s : ByteArray) (B : Oa) (m d : Nat) (ts : Lb) (w : aa9) (HA : Bs w A n xs) (HB : Bs w B m ts) (hn : n ≤ 100000) (hs : s.size ≤ 1000) (hm : m ≤ 90000) :
  Ct 63 #[.slice A n c, .string s, .slice B m d] w fun e w' => ∃ A' k c', e = .returned (.tuple #[.slice A' k c', .int .u8 ((gY xs (Sg.text s.data.toList ts)).2 : Int)]) ∧ Bn w.heap.size w' A' k (gY xs (Sg.text s.data.toList ts)).1 ∧ k ≤ c' ∧ Ext w w' := by
 have E := Ext.refl w;have hlt := Sg.rI s.data.toList ts;have Qt : s.data.toList.length = s.size := by simp
 have hlB := HB.1;refine aZ 15 func63 ?_;intro _ aa4;refine aU ?_;refine aB func135 rfl (mD s B m d ts _ HB hs hm) ?_;rintro e _ ⟨A2, k2, c2, rfl, R2, ex⟩;refine aU ?_;obtain ⟨HA,E⟩ := aS ex HA E;have H2 := R2.bs; have YX := H2.1;have YU := E.size;refine aB func134 rfl (KW A n c xs A2 k2 c2 _ _ HA H2 hn Om) ?_;rintro e _ ⟨A3, k3, c3, rfl, ⟨H3, YV⟩, YW, ex⟩;replace E := E.ext ex;refine aU ?_;exact aa4 rfl rfl ⟨A3, k3, c3, rfl, Bn.lo ⟨H3, YV⟩ YU, YW, E⟩
theorem FT {c : Nat} {xs : Lb} {B : Oa} {d : Nat} (HA : Bs w A n xs) (HB : Bs w B m ts) (h : xs.length = 32) (hs : s.size ≤ 1000) (hm : m ≤ 90000) :
  Ct 63 #[.slice A n c, .string s, .slice B m d] w fun e w' => ∃ A' c', e = .returned (.tuple #[.slice A' 64 c', .int .u8 0]) ∧ Bn w.heap.size w' A' 64 (Sg.sig xs (Sg.text s.data.toList ts)) ∧ 64 ≤ c' ∧ Ext w w' :=
 (wK A n c xs s B m d ts w HA HB (by have := HA.1; omega) hs hm).mono fun _ _ ⟨A', k, c', h1, h2, h4, h5⟩ => by
  have e : gY xs (Sg.text s.data.toList ts) = (Sg.sig xs (Sg.text s.data.toList ts), 0) := by unfold gY; rw [if_pos h]
  rw [e] at h1 h2;have hk : k = 64 := h2.1.1.symm.trans (Sg.fQ xs _);subst hk;exact ⟨A', c', h1, h2, h4, h5⟩
theorem Ie (A : Oa) (n c : Nat) (ps : Lb) (s : ByteArray) (B : Oa) (m d : Nat) (ts : Lb) (C : Oa) (k f : Nat) (ss : Lb) (w : aa9) (HA : Bs w A n ps) (HB : Bs w B m ts) (HC : Bs w C k ss) (hn : n ≤ 100000) (hs : s.size ≤ 1000) (hm : m ≤ 90000) (hk : k ≤ 100000) (hf : k ≤ f) :
  Ct 78 #[.slice A n c, .string s, .slice B m d, .slice C k f] w (ck w (.bool (Sg.holds ps (Sg.text s.data.toList ts) ss))) := by
 have E := Ext.refl w;have hlt := Sg.rI s.data.toList ts;have Qt : s.data.toList.length = s.size := by simp
 have hlB := HB.1;refine ai 15 func78 ?_;intro _ aa4;refine aU ?_;refine aB func135 rfl (mD s B m d ts _ HB hs hm) ?_;rintro e _ ⟨A2, k2, c2, rfl, R2, ex⟩;obtain ⟨HA,HC,E⟩ := bh ex HA HC E;have H2 := R2.bs; have YU := H2.1;refine aU ?_;refine aB func157 rfl (Hv A n c ps A2 k2 c2 _ C k f ss _ HA H2 HC hn Om hk hf) ?_;rintro e _ ⟨rfl, ex⟩;replace E := E.ext ex;refine aU ?_;exact aa4 rfl ⟨rfl, E⟩
end
section
open Go.RowKit Tryz
attribute [local irreducible] Y Ef WL WC WK WQ WM cu WN WF db WJ iC
open Wire Nd
def sn : ByteArray := ⟨#[76, 101, 97, 102, 78, 111, 100, 101, 84, 66, 83]⟩
theorem MS : sn.size ≤ 1000 := by decide
def si (l : bZ) (z : Int) : Prop := l.src = 1 ∨ 0 ≤ z ∧ z < 65536
instance (l : bZ) (z : Int) : Decidable (si l z) := by unfold si; infer_instance
def u64 (z : Int) : Nat := (z % 18446744073709551616).toNat
theorem Nv (z : Int) : IntKind.u64.wrap z = ((u64 z : Nat) : Int) := by rw [rk]; unfold u64; omega
theorem Sj (z : Int) : u64 z < 18446744073709551616 := by unfold u64; omega
def jd (l : bZ) (gs : Lb) (z : Int) : List UInt8 := if l.src = 1 then dJ l else dJ l ++ vec gs ++ be 4 (u64 z)
theorem KJ (hs : (dJ l).length ≤ 80000) (hg : gs.length ≤ 100) : (jd l gs z).length ≤ 80200 := by
 have h := eu gs;have hb : (be 4 (u64 z)).length = 4 := ji 4 _;unfold jd;split
 ·omega
 simp only [List.length_append]; omega
def rh (w : aa9) (cs : Array Value) (l : bZ) : Prop := ki (fun h xs => qP w h xs ∧ h.n ≤ h.c) cs l
theorem rh.at (h : rh w cs l) : eS w cs l := ki.imp h fun _ _ b => b.1
variable {B : Oa} {d : Nat}
theorem Da (w : aa9) (H : eS w cs l) (hf : l.Fit) (HB : Bs w B m gs) (hm : m ≤ 1000) :
  Ct 141 #[.agg cs, .slice B m d, .int .i64 z] w fun e w' => ∃ A' k c', e = .returned (.tuple #[.slice A' k c', .bool (decide (si l z))]) ∧ Row w' w.heap.size 5 A' k c' ((jd l gs z).map bv) ∧ Ext w w' := by
 have hU := mH hf;have HL := H;obtain ⟨h0, h1, h2, h4, h5, rfl, hs, b0, b1, b2, b4, b5⟩ := H;have E := Ext.refl w;refine aZ 27 func141 ?_;intro _ aa4;refine aU ?_;intro _ _ B3 _ ex;replace E := E.ext ex;refine aU ?_;have YV := E.size;refine aB func199 rfl (oZ _ (Bs.nil _ none) Om (HL.ext E) hf) ?_;rintro e _ ⟨A2, k2, c2, rfl, R2, ex⟩;obtain ⟨E,B3⟩ := aS ex E B3;have YW := R2.bs.1; rw [List.nil_append] at YW R2;refine aa1 (fun YX => ?_) (fun YX => ?_)
 ·refine aU ?_;exact aa4 rfl rfl ⟨A2, k2, c2, by rw [decide_eq_true (show si l z from .inl Om)], (R2.lower YV).congr rfl (by unfold jd; rw [if_pos Om]), E⟩
 refine aU ?_;refine aB func162 rfl (xi R2.bs (HB.ext E) Om Om) ?_;rintro e _ ⟨A3, k3, c3, rfl, R3, _, ex⟩;replace E := E.ext ex;refine au 2 ?_;refine ak (bc rfl Tn.u Tn.u (Nv z)) ?_;have YU := E.size;refine aB func131 rfl (ij A3 k3 c3 4 (u64 z) _ _ R3.bs Om Om (Sj z)) ?_;rintro e _ ⟨A4, c4, rfl, R4, ex⟩;replace E := E.ext ex;refine au 3 ?_;refine bL (aL rfl) rfl (fun v0 => ?_) (fun v0 => ?_)
 ·refine aU ?_;exact aa4 rfl rfl ⟨A4, _, c4, by rw [decide_eq_decide.2 (show z < 65536 ↔ si l z from ⟨fun h => .inr ⟨Om, h⟩, fun h => by rcases h with h | h <;> omega⟩)], (R4.lower YU).congr rfl (by unfold jd; rw [if_neg Om]), E⟩
 refine aU ?_;exact aa4 rfl rfl ⟨A4, _, c4, by rw [decide_eq_false (show ¬ si l z from fun h => by rcases h with h | h <;> omega)], (R4.lower YU).congr rfl (by unfold jd; rw [if_neg Om]), E⟩
end
section
open Go.RowKit
attribute [local irreducible] Y Ef WL WC WK WQ WM cu WN WF db WJ iC
open Wire Nd
theorem yH (h : (⟨0, l, Ig.zero⟩ : Node).Small) : (dJ l).length ≤ 900 := by
 obtain ⟨f0, f1, f2, f4, _⟩ := h;have f0 : l.box.length ≤ 200 := f0;have f1 : l.sign.length ≤ 200 := f1;have f2 : l.ident.length ≤ 200 := f2;have f4 : l.parent.length ≤ 200 := f4;have h0 := eu l.box; have h1 := eu l.sign; have h2 := eu l.ident; have h4 := eu l.parent;unfold dJ;simp only [List.length_append, List.length_singleton];split
 ·omega
 simp only [List.length_nil]; omega
end
section
open Go.RowKit Tryz
attribute [local irreducible] Y Ef WL WC WK WQ WM cu WN WF db WJ iC
theorem gl (A : Oa) (n c : Nat) (xs : Lb) (w : aa9) (HA : Bs w A n xs) (hn : n ≤ 35184372088832) :
  Ct 100 #[.slice A n c] w fun e w' => ∃ A' c', e = .returned (.slice A' n c') ∧ Row w' w.heap.size 5 A' n c' (xs.map bv) ∧ Ext w w' := by
 refine ai 8 func100 ?_;intro _ aa4;refine au 9 ?_;refine ak (nF rfl rfl Tn.u) ?_;refine aU ?_;refine bw rfl (fun YU => ?_) (fun YU => ?_)
 ·refine aU ?_;refine aa4 rfl ?_;obtain rfl : A = none := by cases A <;> first | rfl | cases YU
  have YV : n = 0 := by
   rcases Nat.eq_zero_or_pos n with h | h
   ·exact h
   obtain ⟨b, off, hA, _⟩ := HA.get h;cases hA
  subst YV;have hx : xs = [] := List.eq_nil_of_length_eq_zero HA.1;subst hx;exact ⟨none, 0, rfl, Row.empty _ _ _, Ext.refl _⟩
 refine aU ?_;refine af (aF (z := .int .u8 0) Tn.u Kr rfl rfl rfl rfl rfl) rfl ?_;rintro _ w1 ⟨g1, rfl, B1, YW, ex⟩;have E1 := ex; have R1 : Row w1 w.heap.size 5 (cf g1) 0 0 [] := Row.new B1 YW rfl (by unfold maxLen; omega);refine aU ?_;refine af (iA rfl rfl bV R1 (HA.ext E1).2 (by rw [List.length_map, HA.1]) aJ Om Om E1.size) rfl ?_;rintro _ _ ⟨A2, c2, rfl, R2, be, _, _⟩;have E2 := E1.trans be;refine aU ?_;exact aa4 rfl ⟨A2, c2, rfl, R2, E2⟩
def nO (base : Nat) (w : aa9) (cs : Array Value) (l : bZ) : Prop := ki (fun h xs => Row w base 5 h.A h.n h.c (xs.map bv)) cs l
section
variable {n : Node}
theorem nO.lower (h : nO base w cs l) (hb : b ≤ base) : nO b w cs l := ki.imp h fun _ _ r => Row.lower r hb
theorem nO.bD (h : nO base w cs l) (c : aI S w w') (hS : ∀ g ∈ S, g < base := by first | (simp; done) | (simp; omega)) : nO base w' cs l := ki.imp h fun _ _ r => Row.bD r c hS
end
/-! A leaf's five slices, taken one behind the other through pointers. -/
def Hd.v (h : Hd) : Value := .slice h.A h.n h.c
def qN (i : Nat) : Nat := if i < 3 then i else i + 1
def Uc (g : Nat) : Array Value := #[.pointer (cf g), .pointer (some ⟨g, 1, none⟩), .pointer (some ⟨g, 2, none⟩), .pointer (some ⟨g, 4, none⟩), .pointer (some ⟨g, 5, none⟩)]
theorem Qd : ∀ i, i < 5 → (Uc g)[i]? = some (.pointer (some ⟨g, qN i, none⟩))
 | 0, _ => rfl
 | 1, _ => rfl
 | 2, _ => rfl
 | 3, _ => rfl
 | 4, _ => rfl
 | i + 5, h => absurd h Om
theorem Gg (h : i < 5) : qN i < 6 := by unfold qN; split <;> omega
theorem JP : qN i ≠ 3 := by unfold qN; split <;> omega
theorem Lt (h : qN i = qN j) : i = j := by unfold qN at h; split at h <;> split at h <;> omega
def Cc (w : aa9) (base : Nat) (C : Array Value) (s : Nat) (hd : Nat → Hd) (xs : Nat → List UInt8) (k : Nat) : Prop :=
 C.size = 6 ∧ C[3]? = some (.int .u8 (s : Int)) ∧ ∀ i, i < 5 → ∃ h : Hd, C[qN i]? = some h.v ∧ (i < k → Row w base 5 h.A h.n h.c ((xs i).map bv)) ∧ (k ≤ i → h = hd i)
section
variable {s : Nat} {xs : Nat → List UInt8}
theorem Cc.ext (h : Cc w base C s hd xs k) (e : Ext w w') : Cc w' base C s hd xs k :=
 ⟨h.1, h.2.1, fun i hi => by obtain ⟨q, h1, h2, h3⟩ := h.2.2 i hi; exact ⟨q, h1, fun hk => Row.ext (h2 hk) e, h3⟩⟩
theorem Cc.bD (h : Cc w base C s hd xs k) (c : aI S w w') (hS : ∀ g ∈ S, g < base) : Cc w' base C s hd xs k :=
 ⟨h.1, h.2.1, fun i hi => by obtain ⟨q, h1, h2, h3⟩ := h.2.2 i hi; exact ⟨q, h1, fun hk => Row.bD (h2 hk) c hS, h3⟩⟩
theorem Cc.step {c : Nat} (h : Cc w base C s hd xs k) (hk : k < 5) (R : Row w base 5 A n c ((xs k).map bv)) : Cc w base (C.setIfInBounds (qN k) (.slice A n c)) s hd xs (k + 1) := by
 obtain ⟨h1, h2, h3⟩ := h;refine ⟨by simp [h1], ?_, fun i hi => ?_⟩
 ·rw [Array.getElem?_setIfInBounds, if_neg JP]; exact h2
 by_cases e : i = k
 ·subst e;refine ⟨⟨A, n, c⟩, ?_, fun _ => R, fun h => Om⟩;rw [Array.getElem?_setIfInBounds, if_pos rfl, if_pos (by rw [h1]; exact Gg hi)]; rfl
 obtain ⟨q, q1, q2, q3⟩ := h3 i hi;refine ⟨q, ?_, fun h => q2 Om, fun h => q3 Om⟩;rw [Array.getElem?_setIfInBounds, if_neg (fun h => e (Lt h).symm)]; exact q1
end
def bZ.xs (l : bZ) : Nat → List UInt8
 | 0 => l.box
 | 1 => l.sign
 | 2 => l.ident
 | 3 => l.parent
 | _ => l.sig
def RQ (h0 h1 h2 h4 h5 : Hd) : Nat → Hd
 | 0 => h0
 | 1 => h1
 | 2 => h2
 | 3 => h4
 | _ => h5
theorem Cc.start {h0 h1 h2 h4 : Hd} : Cc w base (iK h0 h1 h2 l.src h4 h5) l.src (RQ h0 h1 h2 h4 h5) l.xs 0 :=
 ⟨rfl, rfl, fun i hi => ⟨RQ h0 h1 h2 h4 h5 i, (match i, hi with | 0, _ => rfl | 1, _ => rfl | 2, _ => rfl | 3, _ => rfl | 4, _ => rfl | i + 5, h => absurd h Om), fun h => absurd h (Nat.not_lt_zero _), fun _ => rfl⟩⟩
theorem Cc.done (h : Cc w base C l.src hd l.xs 5) (hs : l.src < 256) : nO base w C l := by
 obtain ⟨h1, h2, h3⟩ := h;obtain ⟨a0, e0, r0, _⟩ := h3 0 Om;obtain ⟨a1, e1, r1, _⟩ := h3 1 Om;obtain ⟨a2, e2, r2, _⟩ := h3 2 Om;obtain ⟨a4, e4, r4, _⟩ := h3 3 Om;obtain ⟨a5, e5, r5, _⟩ := h3 4 Om;refine ⟨a0, a1, a2, a4, a5, ?_, hs, r0 Om, r1 Om, r2 Om, r4 Om, r5 Om⟩;apply Array.ext_getElem?;intro i
 match i with
 | 0 => exact e0
 | 1 => exact e1
 | 2 => exact e2
 | 3 => exact h2
 | 4 => exact e4
 | 5 => exact e5
 | i + 6 => rw [Array.getElem?_eq_none Om, Array.getElem?_eq_none (show 6 ≤ i + 6 by omega)]
theorem xT (w : aa9) (H : eS w cs l) (hf : l.Fit) :
  Ct 139 #[.agg cs] w fun e w' => ∃ cs', e = .returned (.agg cs') ∧ nO w.heap.size w' cs' l ∧ Ext w w' := by
 obtain ⟨h0, h1, h2, h4, h5, rfl, hs, b0, b1, b2, b4, b5⟩ := H
 have hb : ∀ i, i < 5 → qP w (RQ h0 h1 h2 h4 h5 i) (l.xs i) ∧ (l.xs i).length ≤ 1000000 := fun i hi => by
  obtain ⟨f0, f1, f2, f4, f5⟩ := hf
  match i, hi with
  | 0, _ => exact ⟨b0, f0⟩
  | 1, _ => exact ⟨b1, f1⟩
  | 2, _ => exact ⟨b2, f2⟩
  | 3, _ => exact ⟨b4, f4⟩
  | 4, _ => exact ⟨b5, f5⟩
 have F := aI.refl [] w;refine aH (s := 6) 24 func139 rfl rfl rfl underlying27 rfl Kr rfl ?_;intro _ aa4;refine aU ?_;intro _ YV B1 _ ex;have Za := B1.lt;replace F := F.ext ex;refine aU ?_;intro _ YX B2 YW ex;have Zb := B2.lt;replace F := F.grow ex YW;replace B1 := B1.grow ex YW;refine aU ?_;refine af (aF (z := .pointer none) Tn.u Kr rfl rfl rfl rfl rfl) rfl ?_;rintro _ w1 ⟨YY, rfl, YU, _, ex⟩;obtain ⟨F,B1,B2⟩ := bh ex F B1 B2;replace YU : aq w1 YY 157 (Uc YV) := YU;refine aU ?_;have F0 := F; have YZ := B2; have z1 := F.size; have m1 := B1.lt; have m2 := B2.lt;have G := aI.refl [YV] w1;have M0 : Cc w1 w1.heap.size (iK h0 h1 h2 l.src h4 h5) l.src (RQ h0 h1 h2 h4 h5) l.xs 0 := Cc.start;refine aE (fun n' L wr => ∃ (k : Nat) (C : Array Value), L = [(1, .pointer (cf YV)), (2, .pointer (cf YX)), (10, .slice (cf YY) 5 5), (11, .int .i64 5), (12, .int .i64 (k : Int))] ∧ n' = 5 - k ∧ (k ≤ 5 ∧ aI [YV] w1 wr ∧ aq wr YV 27 C ∧ aq wr YY 157 (Uc YV) ∧ Cc wr w1.heap.size C l.src (RQ h0 h1 h2 h4 h5) l.xs k)) _ _ ⟨0, iK h0 h1 h2 l.src h4 h5, rfl, rfl, Om, G, B1, YU, M0⟩ Ls ?_;rintro _ n' L wr ⟨k, C, rfl, rfl, _, G, B1, YU, M⟩ Y0;refine aa1 (fun Y2 => ?_) (fun Y2 => ?_)
 ·have hlt : k < 5 := Om
  obtain ⟨⟨A, n, c⟩, hC, _, hq⟩ := M.2.2 k hlt;replace hC : C[qN k]? = some (.slice A n c) := hC;obtain ⟨hbs, hfl⟩ := hb k hlt;rw [← hq (Nat.le_refl k)] at hbs;replace hbs : Bs w A n (l.xs k) := hbs;have hbl := hbs.1;have EX : Ext w wr := ((F0.mono (S' := [YX, YV]) (by simp)).bD G).bF So;have hz := G.size;refine au 7 ?_;refine ak (ah rfl Tn.u rfl (show _ = some (.pointer (some ⟨YV, qN k, none⟩)) from by rw [Nat.zero_add]; exact YU.get (Qd k hlt))) ?_;refine au 7 ?_;refine ak (ah rfl Tn.u rfl (B1.get hC)) ?_;refine aB func100 rfl (gl A n c _ _ (hbs.ext EX) Om) ?_;rintro e _ ⟨A4, c4, rfl, R4, ex⟩;obtain ⟨G,B1,YU,M⟩ := bG ex G B1 YU M;replace R4 := R4.lower hz;refine au 2 ?_;refine af (az rfl rfl rfl Kr B1 (by rw [M.1]; exact Gg hlt)) rfl ?_;rintro _ _ ⟨rfl, D1, cg⟩;replace M := (M.step hlt R4).bD (aI.one cg) So; replace G := G.bD (aI.one cg); replace YU := YU.bD (aI.one cg) So;refine au 7 ?_;refine ae ?_;refine Y0 _ _ ⟨k + 1, C.setIfInBounds (qN k) (.slice A4 n c4), rfl, rfl, Om, G, D1, YU, M⟩ Om Ls
 obtain rfl : k = 5 := Om
 have B2 := YZ.bD G So;have LR := M.done hs;have Y3 := LR;obtain ⟨i0, i1, i2, i4, i5, rfl, _⟩ := Y3;refine aU ?_;intro _ D2 cg;have F6 := ((F0.mono (S' := [YX, YV]) (by simp)).bD G).bD (aI.one cg);refine aU ?_;exact aa4 rfl (D2.congr (cs' := iK i0 i1 i2 l.src i4 i5) rfl) rfl ⟨_, rfl, (LR.bD (aI.one cg) So).lower Om, F6.bF So⟩
end
section
open Go.RowKit Tryz
attribute [local irreducible] Y Ef WL WC WK WQ WM cu WN WF db WJ iC
open Wire Nd
theorem sF (h : aq w g 5 cs) (hc : cs = ((List.replicate 64 (0 : UInt8)).map bv).toArray) : Bs w (cf g) 64 (List.replicate 64 0) :=
 aX (h.congr hc) (by rfl)
theorem Bd {c : Nat} {xs : Lb} {B : Oa} {d : Nat} (w : aa9) (HA : Bs w A n xs) (HB : Bs w B m ts) (hn : n ≤ 100000) (hs : s.size ≤ 1000) (hm : m ≤ 90000) (h : gY xs (Sg.text s.data.toList ts) = (ys, y)) :
  Ct 63 #[.slice A n c, .string s, .slice B m d] w fun e w' => ∃ A' k c', e = .returned (.tuple #[.slice A' k c', .int .u8 (y : Int)]) ∧ Bn w.heap.size w' A' k ys ∧ k ≤ c' ∧ Ext w w' :=
 (wK A n c xs s B m d ts w HA HB hn hs hm).mono fun _ _ ⟨A', k, c', h1, h2, h3, h4⟩ => ⟨A', k, c', by rw [h1, h], by rw [h] at h2; exact h2, h3, h4⟩
def od (k : Nat) (w : aa9) (cs : Array Value) (l : bZ) : Prop := ki (fun h xs => Fb k w h.A h.n xs ∧ h.n ≤ h.c) cs l
def bZ.put (l : bZ) (s : Lb) : bZ := ⟨l.box, l.sign, l.ident, l.src, l.parent, s⟩
def lX (l : bZ) : bZ := l.put (List.replicate 64 0)
def jQ (l : bZ) (seed gs : Lb) (z : Int) : bZ × Nat :=
 if ¬ cX (lX l) then (bZ.zero, 3)
 else if ¬ si l z then (bZ.zero, 1)
 else if (gY seed (Sg.text sn.data.toList (jd l gs z))).2 ≠ 0 then (bZ.zero, (gY seed (Sg.text sn.data.toList (jd l gs z))).2)
 else (l.put (gY seed (Sg.text sn.data.toList (jd l gs z))).1, 0)
theorem M7 {s t : Lb} (h : gY s t = (ys, y)) (hy : y = 0) : ys.length = 64 := by
 unfold gY at h;split at h
 ·injection h with h _; rw [← h]; exact Sg.fQ _ _
 injection h with _ h; omega
theorem Bs.yF {xs : Lb} (H : Bs w A n xs) (B : aq w b t cs) (hn : cs.size < n) : ∀ o, A ≠ some ⟨b, o, none⟩ := fun o e => by
 obtain ⟨b', off, hA, _, hc⟩ := H.2.get (k := n - 1) (by rw [List.length_map, H.1]; omega);rw [hA] at e;injection e with e
 injection e with e1 e2
 subst e1;rw [B.cell, Array.getElem?_eq_none Om] at hc;cases hc
section
variable {i0 i1 i2 i4 i5 h : Hd} {xs : Lb}
theorem nO.inj (h : nO base w (iK i0 i1 i2 l.src i4 i5) l) : l.src < 256 ∧ Row w base 5 i0.A i0.n i0.c (l.box.map bv) ∧ Row w base 5 i1.A i1.n i1.c (l.sign.map bv) ∧ Row w base 5 i2.A i2.n i2.c (l.ident.map bv) ∧ Row w base 5 i4.A i4.n i4.c (l.parent.map bv) := by
 obtain ⟨j0, j1, j2, j4, j5, e, hs, q0, q1, q2, q4, q5⟩ := h
 have e0 : j0 = i0 ∧ j1 = i1 ∧ j2 = i2 ∧ j4 = i4 := by
  unfold iK at e;simp only [Array.mk.injEq, List.cons.injEq, Value.slice.injEq, and_true, true_and] at e;obtain ⟨a, b, c, d, f⟩ := e;refine ⟨?_, ?_, ?_, ?_⟩
  ·cases i0; cases j0; simp_all
  ·cases i1; cases j1; simp_all
  ·cases i2; cases j2; simp_all
  cases i4; cases j4; simp_all
 obtain ⟨rfl, rfl, rfl, rfl⟩ := e0;exact ⟨hs, q0, q1, q2, q4⟩
theorem rh.mk (hs : l.src < 256) (r0 : Row w base 5 i0.A i0.n i0.c (l.box.map bv)) (r1 : Row w base 5 i1.A i1.n i1.c (l.sign.map bv)) (r2 : Row w base 5 i2.A i2.n i2.c (l.ident.map bv)) (r4 : Row w base 5 i4.A i4.n i4.c (l.parent.map bv)) (b : Bs w h.A h.n xs) (hc : h.n ≤ h.c) : rh w (iK i0 i1 i2 l.src i4 h) (l.put xs) :=
 ⟨i0, i1, i2, i4, h, rfl, hs, ⟨r0.bs, r0.cap⟩, ⟨r1.bs, r1.cap⟩, ⟨r2.bs, r2.cap⟩, ⟨r4.bs, r4.cap⟩, b, hc⟩
theorem od.mk (hs : l.src < 256) (r0 : Row w base 5 i0.A i0.n i0.c (l.box.map bv)) (r1 : Row w base 5 i1.A i1.n i1.c (l.sign.map bv)) (r2 : Row w base 5 i2.A i2.n i2.c (l.ident.map bv)) (r4 : Row w base 5 i4.A i4.n i4.c (l.parent.map bv)) (hk : k ≤ base) (b : Fb k w h.A h.n xs) (hc : h.n ≤ h.c) : od k w (iK i0 i1 i2 l.src i4 h) (l.put xs) :=
 ⟨i0, i1, i2, i4, h, rfl, hs, ⟨r0.fb.mono hk, r0.cap⟩, ⟨r1.fb.mono hk, r1.cap⟩, ⟨r2.fb.mono hk, r2.cap⟩, ⟨r4.fb.mono hk, r4.cap⟩, b, hc⟩
def Pm (i : Nat) (w : aa9) (cs : Array Value) : Prop := ∀ A n c, cs[i]? = some (.slice A n c) → ∀ b o, A = some ⟨b, o, none⟩ → ∃ cur, aq w b 5 cur
theorem Pm.ext {w w' : aa9} {cs : Array Value} (h : Pm i w cs) (k : Ext w w') : Pm i w' cs := fun A n c e b o ha => by obtain ⟨cur, hb⟩ := h A n c e b o ha; exact ⟨cur, hb.ext k⟩
theorem V0 (w : aa9) : Pm 2 w jq := fun A n c e b o ha => by have e' : some (Value.slice none 0 0) = some (.slice A n c) := e; injection e' with e'; injection e' with e1 _ _; rw [← e1] at ha; cases ha
theorem YL {s : Nat} (r : Row w base 5 i2.A i2.n i2.c (xs.map bv)) : Pm 2 w (iK i0 i1 i2 s i4 h5) := fun A n c e b o ha => by
 have e' : some (Value.slice i2.A i2.n i2.c) = some (.slice A n c) := e;injection e' with e'
 injection e' with e1 _ _
 rw [← e1] at ha
 rcases r.2 with ⟨hv, _⟩ | ⟨g, cap, cur, hv, _, hb, _⟩
 ·injection hv with hv; rw [hv] at ha; cases ha
 injection hv with hv; rw [hv] at ha; injection ha with ha; injection ha with ha; subst ha; exact ⟨cur, hb⟩
theorem od.zero (k : Nat) (w : aa9) : od k w jq bZ.zero := ⟨ar, ar, ar, ar, ar, rfl, by decide, ⟨Fb.nil _ _ _, Nat.le_refl _⟩, ⟨Fb.nil _ _ _, Nat.le_refl _⟩, ⟨Fb.nil _ _ _, Nat.le_refl _⟩, ⟨Fb.nil _ _ _, Nat.le_refl _⟩, Fb.nil _ _ _, Nat.le_refl _⟩
end
theorem xD {c : Nat} {B : Oa} {d : Nat} (w : aa9) (H : eS w cs l) (hf : l.Fit) (hU : (dJ l).length ≤ 80000) (HA : Bs w A n seed) (hn : n ≤ 100) (HB : Bs w B m gs) (hm : m ≤ 100) :
  Ct 68 #[.agg cs, .slice A n c, .slice B m d, .int .i64 z] w fun e w' => ∃ cs', e = .returned (.tuple #[.agg cs', .int .u8 (((jQ l seed gs z).2 : Nat) : Int)]) ∧ od w.heap.size w' cs' (jQ l seed gs z).1 ∧ Pm 2 w' cs' ∧ Ext w w' := by
 have HL := H;obtain ⟨h0, h1, h2, h4, h5, rfl, hs, _⟩ := H;have hT := KJ (z := z) hU (show gs.length ≤ 100 by rw [HB.1]; exact hm)
 have fw : (lX l).Fit := ⟨hf.1, hf.2.1, hf.2.2.1, hf.2.2.2.1, (show (List.replicate 64 (0 : UInt8)).length ≤ 1000000 by rw [List.length_replicate]; omega)⟩
 obtain ⟨ys, y, hE⟩ : ∃ ys y, gY seed (Sg.text sn.data.toList (jd l gs z)) = (ys, y) := ⟨_, _, rfl⟩
 have F := aI.refl [] w;refine cF (s := 6) 45 func68 rfl rfl rfl underlying27 rfl Kr rfl ?_;intro _ aa4;refine aU ?_;intro _ YZ B4 _ ex;have Zk := B4.lt;replace F := F.ext ex;refine aU ?_;intro _ Y0 B8 YU ex;have Zl := B8.lt;replace F := F.grow ex YU;replace B4 := B4.grow ex YU;replace F := F.mono (S' := [Y0, YZ]) (by simp);refine aU ?_;have Ze := HL.ext (F.bF So); have z1 := F.size; have m1 := B4.lt; have n1 := B8.lt;refine aB func139 rfl (xT _ Ze hf) ?_;rintro e _ ⟨_, rfl, LR, ex⟩;obtain ⟨F,B4,B8⟩ := bh ex F B4 B8;have Zf := LR; obtain ⟨i0, i1, i2, i4, i5, rfl, _⟩ := Zf; obtain ⟨_, r0, r1, r2, r4⟩ := LR.inj;refine aU ?_;intro _ D cg;have ex := aI.one cg;clear cg;obtain ⟨F,B8,r0,r1,r2,r4⟩ := mg ex F B8 r0 r1 r2 r4;replace B4 := D; clear D;replace B4 := B4.congr (cs' := iK i0 i1 i2 l.src i4 i5) rfl;refine aU ?_;have m2 := B4.lt; have n2 := B8.lt;refine af (dC (n := 64) (z := .int .u8 0) (bytes := 1) rfl rfl Tn.u Kr rfl rfl rfl rfl Om Om) rfl ?_;rintro _ w3 ⟨g5, rfl, B5, _, ex⟩;obtain ⟨F,B4,B8,r0,r1,r2,r4⟩ := iW ex F B4 B8 r0 r1 r2 r4;have J5 : Kp w3.heap.size [Y0, YZ] (fun w => Bs w (cf g5) 64 (List.replicate 64 0)) w3 := Kp.bs (sF B5 (by rfl)) (fun _ g hg o e => by simp at hg e; omega);refine aU ?_;intro _ D cg;have ex := aI.one cg;clear cg;obtain ⟨F,B8,r0,r1,r2,r4,J5⟩ := Jy ex F B8 r0 r1 r2 r4 J5;replace B4 := D; clear D;replace B4 := B4.congr (cs' := iK i0 i1 i2 l.src i4 ⟨some ⟨g5, 0, none⟩, 64, 64⟩) rfl;refine aU ?_;refine aB func140 rfl (ot _ (rh.mk (h := ⟨some ⟨g5, 0, none⟩, 64, 64⟩) hs r0 r1 r2 r4 J5.out (Nat.le_refl 64)).at) ?_;rintro e _ ⟨rfl, ex⟩;obtain ⟨F,B4,B8,r0,r1,r2,r4,J5⟩ := GC ex F B4 B8 r0 r1 r2 r4 J5;refine aU ?_;refine bw rfl (fun Y2 => ?_) (fun Y2 => ?_)
 ·refine au 2 ?_;refine ak (aA rfl (cells := jq) Kr) ?_;refine aU ?_;intro _ D cg;have ex := aI.one cg;clear cg;replace F := F.bD ex;replace B8 := D; clear D;replace B8 := B8.congr (cs' := jq) rfl;refine aU ?_;refine aa4 rfl rfl B8 rfl ?_;have hno : ¬ cX (lX l) := by simpa [lX] using Y2
  have e1 : jQ l seed gs z = (bZ.zero, 3) := by unfold jQ; rw [if_pos hno]
  rw [e1]; exact ⟨jq, rfl, od.zero _ _, V0 _, F.bF So⟩
 have okw : cX (lX l) := by simpa [lX] using Y2
 refine aU ?_;have X5 := F.bF So; have m5 := B4.lt; have n5 := B8.lt;refine aB func141 rfl (Da (l := lX l) _ (rh.mk (h := ⟨some ⟨g5, 0, none⟩, 64, 64⟩) hs r0 r1 r2 r4 J5.out (Nat.le_refl 64)).at fw (HB.ext X5) Om) ?_;rintro e _ ⟨_, Zg, _, rfl, Zd, ex⟩;obtain ⟨F,B4,B8,r0,r1,r2,r4⟩ := iW ex F B4 B8 r0 r1 r2 r4;have Zh : (jd l gs z).length = Zg := Zd.bs.1;refine aU ?_;refine bw rfl (fun Y3 => ?_) (fun Y3 => ?_)
 ·refine au 2 ?_;refine ak (aA rfl (cells := jq) Kr) ?_;refine aU ?_;intro _ D cg;have ex := aI.one cg;clear cg;replace F := F.bD ex;replace B8 := D; clear D;replace B8 := B8.congr (cs' := jq) rfl;refine aU ?_;refine aa4 rfl rfl B8 rfl ?_
  have hno : ¬ si l z := (show ¬ si (lX l) z from by simpa using Y3)
  have e1 : jQ l seed gs z = (bZ.zero, 1) := by unfold jQ; rw [if_neg (fun h => h okw), if_pos hno]
  rw [e1]; exact ⟨jq, rfl, od.zero _ _, V0 _, F.bF So⟩
 have oka : si l z := (show si (lX l) z from by simpa using Y3)
 refine aU ?_;have X8 := F.bF So; have z8 := F.size; have m8 := B4.lt; have n8 := B8.lt;refine aB func63 rfl (Bd _ (HA.ext X8) (show Bs _ _ _ (jd l gs z) from Zd.bs) Om MS Om hE) ?_;rintro e w6 ⟨YX, YV, Za, rfl, ⟨YY, Zb⟩, Zc, ex⟩;obtain ⟨F,B4,B8,r0,r1,r2,r4⟩ := iW ex F B4 B8 r0 r1 r2 r4;refine aa1 (fun Zi => ?_) (fun Zi => ?_)
 ·have e1 : jQ l seed gs z = (bZ.zero, y) := by unfold jQ; rw [hE, if_neg (fun h => h okw), if_neg (fun h => h oka), if_pos (show y ≠ 0 by omega)]
  refine au 2 ?_;refine ak (aA rfl (cells := jq) Kr) ?_;refine aU ?_;intro _ D cg;have ex := aI.one cg;clear cg;replace F := F.bD ex;replace B8 := D; clear D;replace B8 := B8.congr (cs' := jq) rfl;refine aU ?_;refine aa4 rfl rfl B8 rfl ?_;rw [e1]; exact ⟨jq, rfl, od.zero _ _, V0 _, F.bF So⟩
 have e1 : jQ l seed gs z = (l.put ys, 0) := by unfold jQ; rw [hE, if_neg (fun h => h okw), if_neg (fun h => h oka), if_neg (show ¬ y ≠ 0 by omega)]
 have Zj : YV = 64 := by rw [← YY.1]; exact M7 hE Om
 have YW : Kp w6.heap.size [Y0, YZ] (fun w => Bs w YX YV ys) w6 := Kp.bs YY fun _ g hg o e => by
  rcases List.mem_cons.1 hg with rfl | hg
  ·exact YY.yF B8 (show (6 : Nat) < _ by omega) o e
  obtain rfl := List.mem_singleton.1 hg;exact YY.yF B4 (show (6 : Nat) < _ by omega) o e
 refine aU ?_;intro _ D cg;have ex := aI.one cg;clear cg;obtain ⟨F,B8,r0,r1,r2,r4,YW⟩ := Jy ex F B8 r0 r1 r2 r4 YW;replace B4 := D; clear D;replace B4 := B4.congr (cs' := iK i0 i1 i2 l.src i4 ⟨YX, YV, Za⟩) rfl;refine aU ?_;intro _ D cg;have ex := aI.one cg;clear cg;obtain ⟨F,r0,r1,r2,r4,YW⟩ := mg ex F r0 r1 r2 r4 YW;replace B8 := D; clear D;replace B8 := B8.congr (cs' := iK i0 i1 i2 l.src i4 ⟨YX, YV, Za⟩) rfl;refine aU ?_;refine aa4 rfl rfl B8 rfl ?_;rw [e1]; exact ⟨_, rfl, od.mk (h := ⟨YX, YV, Za⟩) hs r0 r1 r2 r4 z1 ⟨YW.out, fun _ b o e => Nat.le_trans z8 (Zb b o e).1⟩ Zc, YL r2, F.bF So⟩
end
open Go.RowKit
section
variable {ops : Array Oper} {L : List (Nat × Value)}
theorem uG {K : Act → aa9 → Prop} (h : ¬ LetsOut Q) : ¬ LetsOut (Exit.then K Q) := fun ⟨a, w, h'⟩ => h ⟨a, w, h'⟩
theorem Hq (h : ¬ LetsOut Q) : ¬ LetsOut (Exit.inBlock b Q) := fun ⟨a, w, h'⟩ => h ⟨a, w, h'⟩
theorem GU (h : ¬ LetsOut Q) : ¬ LetsOut (fD Q) := fun ⟨a, w, h'⟩ => h ⟨a, w, h'⟩
def WR (k n : Nat) (P : Program) (Q : Exit → Act → aa9 → Prop) (c : Code) (N : Nd) (L : List (Nat × Value)) (w : aa9) : Prop := ¬ LetsOut Q → ∀ a, Fr N L a → c.wpIn (Fence.wide.inRound k) n P Q a w
theorem LY (hQ : ¬ LetsOut Q) (hd : ∀ (i : Nat) (o : Oper), ops[i]? = some o → ∀ c, o.op ≠ .defer c) : ∀ (l : List Nat) (a : Act) (w : aa9), wpOps P ops Q l a w → wpOpsIn (Fence.wide.inRound k) n P ops Q l a w
  | [], a, w, h => h
  | i :: rest, a, w, h => by
    have ih := fun a w => LY hQ hd rest a w;unfold wpOps at h;unfold wpOpsIn
    cases ho : ops[i]? with
    | none => rw [ho] at h; exact ih _ _ h
    | some o =>
      rw [ho] at h
      simp only at h ⊢
      by_cases hw : Region.wanted o (yielded ops a.tmps) = true
      · rw [if_pos hw] at h ⊢
        rcases h with h | h
        · refine ⟨fun _ _ => trivial, ?_⟩
          rw [show (Fence.wide.inRound k).round = some k from rfl, Oper.semAt_some k a.eval o (hd i o ho)]
          exact FR ih h
        exact absurd h.2 hQ
      rw [if_neg hw] at h ⊢
      exact ⟨fun _ _ => trivial, ih _ _ h⟩
theorem BF {l : List Oper} (h : l.all (fun o => pV o.op) = true) (i : Nat) (o : Oper) (ho : l.toArray[i]? = some o) : ∀ c, o.op ≠ .defer c := fun c e => by
 have hm : o ∈ l := by grind
 have := List.all_eq_true.1 h o hm;rw [e] at this;cases this
theorem dd {l : List Oper} (h : WL P l.toArray Q l N L w) (hd : l.all (fun o => pV o.op) = true := by kernel_rfl) : WR k n P Q (.region id l.toArray false) N L w := fun hQ a ha =>
 wpIn_region_lit (yn hQ (fun o ho c e => by
  have := List.all_eq_true.1 hd o ho;rw [e] at this
  cases this) (h a ha))
theorem Ta {l : List Oper} (hd : l.all (fun o => pV o.op) = true) (hm : P.follows .mixedOrders = true) (hQ : ¬ LetsOut Q) {a : Act} (h : wpAny P .any l.toArray (fD Q) l.toArray.size (Array.replicate l.toArray.size false) a w.drew) :
  (Code.region id l.toArray true).wpIn (Fence.wide.inRound k) n P Q a w := by
 have h1 : (Code.region id l.toArray true).wpIn (Fence.wide.inRound k) n P (fD Q) a w := by refine wpIn_region_draw fun t => ?_;simp only [Region.schedule, hm, Bool.true_or, if_true];exact LY (GU hQ) (BF hd) _ _ _ (wpAny_sound l.toArray.size t _ a _ h)
 refine wpIn_mono h1 fun e a w hq => ?_;cases e <;> first | exact hq | exact hq.elim
theorem xI {l : List Oper} (hm : P.follows .mixedOrders = true) (n' : Nat) (hn : l.length = n') (h : ∀ w', Ext w w' → w'.heap = w.heap → WM P l.toArray (fD Q) n' (Array.replicate n' false) N L w') (hd : l.all (fun o => pV o.op) = true := by kernel_rfl) : WR k n P Q (.region id l.toArray true) N L w := by intro hQ a ha;subst hn;refine Ta hd hm hQ (yd _ _ _ _ ?_);rw [List.size_toArray];exact h _ (Ext.drew w) rfl a ha
theorem fW {y : Code} (h : ∀ K : Act → aa9 → Prop, (∀ {N L w}, WR k n P Q y N L w → WK K N L w) → WR k n P (Exit.then K Q) x N L w) : WR k n P Q (.seq x y) N L w :=
 fun hQ a ha => wpIn_seq (h (y.wpIn (Fence.wide.inRound k) n P Q) (fun h => h hQ) (uG hQ) a ha)
theorem QD {c : Operand} {y : Code} {b : Bool} (hc : ev L c = some (.bool b)) (ht : b = true → WR k n P Q x N L w) (hf : b = false → WR k n P Q y N L w) : WR k n P Q (.cond c x y) N L w :=
 fun hQ a ha => wpIn_cond_split (ha.ev hc) (fun e => ht e hQ a ha) (fun e => hf e hQ a ha)
theorem MX {c : Operand} {y : Code} {p : Prop} [Decidable p] (hc : ev L c = some (.bool (decide p))) (ht : p → WR k n P Q x N L w) (hf : ¬ p → WR k n P Q y N L w) : WR k n P Q (.cond c x y) N L w :=
 QD hc (fun e => ht (aa2 e)) (fun e => hf (of_decide_eq_false e))
theorem Fj (h : WQ Q .normal N L w) : WR k n P Q .skip N L w := fun _ a ha => wpIn_skip (h a ha)
theorem SK (h : WQ Q .ret N L w) : WR k n P Q .ret N L w := fun _ a ha => wpIn_ret (h a ha)
theorem OD (h : WQ Q (.exit id) N L w) : WR k n P Q (.exit id) N L w := fun _ a ha => wpIn_exit (h a ha)
theorem tv (h : WR k n P (Exit.inBlock id Q) c N L w) : WR k n P Q (.block id c) N L w := fun hQ a ha => wpIn_block (h (Hq hQ) a ha)
theorem QM (J : Nat → List (Nat × Value) → aa9 → Prop) (n₀ : Nat) (L₀ : List (Nat × Value)) (h₀ : J n₀ L₀ w) (hS : mC L L₀)
  (round : ∀ (K : Act → aa9 → Prop) (m : Nat) (L : List (Nat × Value)) (w : aa9), J m L w → (∀ {L1 : List (Nat × Value)} {w' : aa9} (n' : Nat) (L' : List (Nat × Value)), J n' L' w' → n' < m → mC L1 L' → WK K N L1 w') →
   WR k n P (Exit.then K Q) c N L w) :
  WR k n P Q (.loop c) N L w := by
 intro hQ a ha;refine wpIn_loop_ghost (fun n a w => ∃ L, Fr N L a ∧ J n L w) n₀ ⟨L₀, ha.sub hS, h₀⟩ ?_;rintro m a w ⟨L, ha, hJ⟩;exact round _ m L w hJ (fun n' L' YU hn hin a' YV => ⟨n', hn, L', YV.sub hin, YU⟩) (uG hQ) a ha
end
section
variable {L : List (Nat × Value)}
theorem Bt {α : Type} {B : Nat} {Kp : aa9 → aa9 → Prop} {I : List α → aa9 → Prop} {Ix : Code → List α → aa9 → Prop} {xs : List α} {W : aa9} : ¬ LetsOut (Exit.inBlock b (ownPostG B Kp I Ix xs W)) := fun ⟨_, _, h⟩ => h
theorem qW {α : Type} {g : Operand} {p x r0 gf M : Nat} {YV : String} {YU : Array Edge} {enc : α → Value} {Kp : aa9 → aa9 → Prop} {S Sp : List α → Prop}
  (hn : 1 ≤ n) (hg : ev L g = some (.func (.func gf) #[] lb)) (eg : ∀ args w, (callFunc gf args).run P w = .ok (.enter gf args) w)
  (hseq : SeqStopsK Fence.wide (n - 1) P gf lb (fun v => #[enc v]) Kp S Sp M w)
  (hKt : ∀ {A B C : aa9}, Kp A B → Kp B C → Kp A C) (hKb : ∀ (W : aa9) (l : Nat) (o o' : Obj), w.heap.size ≤ l → W.heap[l]? = some o → o.isCells = false → o.isWalk = false → Kp W (W.putObj l o'))
  (I : List α → aa9 → Prop) (hI : OwnFrom w.heap.size I) (h0 : I [] w) (hp : Nat.ble (p + 1) N.n = true) (hx : Nat.ble (x + 1) N.n = true)
  (hbody : ∀ (k : Nat) (Q' : Exit → Act → aa9 → Prop) (pre : List α) (v : α) (W : aa9), I pre W → pre.length < M → (∀ {N' : Nd} {L' : List (Nat × Value)} {W' : aa9}, KeepsFrom w.heap.size W W' → Kp W W' → I (pre ++ [v]) W' → WQ Q' .normal N' L' W') →
   WR k (n - 1 - 1) P Q' body ⟨N.n, []⟩ ((x, enc v) :: (p, enc v) :: L) W)
  (hdone : ∀ (D : Nat) (xs : List α) (W : aa9), w.heap.size ≤ D → S xs → I xs W → W.heap[D]? = some (.deferred (some [])) → WQ Q .normal ⟨N.n, { target := .collected D, args := #[] } :: N.ds⟩ L W) :
  WC P Q (.rangeFunc g #[p] (.region r0 #[⟨some x, .assign (.tmp p), YX, YV, YU, none⟩] false) (.block b body)) N L w := by
 intro a ha;rw [← wpIn_wide (n := n)];have YY : p < a.tmps.size := by rw [ha.size]; exact Nat.le_of_ble_eq_true hp
 have fr : ∀ v, Fr ⟨N.n, []⟩ ((x, enc v) :: (p, enc v) :: L) { tmps := (a.tmps.setIfInBounds p (enc v)).setIfInBounds x (enc v), defers := [] } := fun v => by
  have h1 : Fr ⟨N.n, []⟩ L { tmps := a.tmps, defers := [] } := ⟨ha.size, rfl, ha.has⟩
  exact (h1.put hp (enc v)).put hx (enc v)
 refine wpIn_rangeFunc_ownG rfl hn (ha.ev hg) trivial eg hseq hKt hKb (Below.refl _ _) (fun _ => rfl) I (fun _ _ _ => False) hI (fun _ _ _ _ _ hs _ _ => hs) h0 (fun v => { tmps := (a.tmps.setIfInBounds p (enc v)).setIfInBounds x (enc v), defers := [] }) ?_ ?_ ?_ ?_
 ·intro k v W _ hK;refine wpIn_region_list ?_;refine wpListIn_plain rfl fun K' YZ => ?_;refine ⟨fun _ _ => trivial, ?_⟩;rw [show (Fence.wide.inRound k).round = some k from rfl, Oper.semAt_some k _ _ (fun c e => by cases e)];have e : ∀ ρ : Operand → Value, (execOp ρ ⟨some x, .assign (.tmp p), YX, YV, YU, none⟩).run P W = .ok (.value (ρ (.tmp p))) W := fun ρ => by simp [execOp]
  rw [e];refine YZ _ _ ?_;simpa [wpListIn, Act.put, Act.eval, YY, Exit.then] using hK
 ·intro k pre v W YW hl;refine wpIn_block ?_;exact hbody k _ pre v W YW hl (fun h1 h2 h3 _ _ => ⟨h1, h2, h3⟩) Bt _ (fr v)
 ·intro D xs W hD hS YW hK;exact hdone D xs W hD hS YW hK _ ⟨ha.size, by rw [ha.defers], ha.has⟩
 grind
end
section
variable {L : List (Nat × Value)}
def rQ (n : Nat) (P : Program) (Q : Exit → Act → aa9 → Prop) (c : Code) (N : Nd) (L : List (Nat × Value)) (w : aa9) : Prop := ∀ a, Fr N L a → Code.rounds P c Q n a w
theorem qF (n : Nat) (h : rQ n P Q c N L w) : WC P Q (.loop c) N L w := fun a ha => wp_loop_rounds n (h a ha)
theorem fF (h : ∀ K : Act → aa9 → Prop, (∀ {N L w}, rQ n P Q c N L w → WK K N L w) → WC P (Exit.then K Q) c N L w) : rQ (n + 1) P Q c N L w := fun a ha =>
 h (Code.rounds P c Q n) (fun h => h) a ha
end
section
variable {f : FuncId} {fn : Func} {R : Ending → aa9 → Prop}
theorem BK (n N : Nat) {t : Tmp} (hf : P.funcs[f]? = some fn) (hb : fn.body = some c) (hN : fn.ntmps = N) (hr : fn.results = #[.tmp t]) (hsz : Nat.ble args.size N = true)
  (h : ∀ Q : Exit → Act → aa9 → Prop,
   (∀ {N D D' : Nat} {L : List (Nat × Value)} {w : aa9} {v : Value}, look L t = some v → w.heap[D]? = some (.deferred (some [])) → w.heap[D']? = some (.deferred (some [])) → D ≠ D' → R (.returned v) ((w.putObj D (.deferred none)).putObj D' (.deferred none)) → WQ Q .ret (⟨N, [{ target := .collected D, args := #[] }, { target := .collected D', args := #[] }]⟩ : Nd) L w) →
   WC P Q c ⟨N, []⟩ (gF 0 args.toList) w) : Calls P f args w R :=
 na n N hf hb hN hsz fun Q hQ => h Q
  (fun {N D D' L w v} hv hK YU hne hR a ha => hQ (by
   show LeavesInM _ _ _ _ _ _ a.defers _ _;rw [ha.defers];refine ⟨by simp, .inl ⟨_, _, rfl, run_takeDeferred hK, ?_⟩⟩;refine ⟨by simp, .inl ⟨_, _, rfl, run_takeDeferred ((World.putObj_heap_other (Ne.symm hne)).trans YU), ?_⟩⟩
   exact ⟨_, results_tmp hr _ _ _, by rw [cI (ha.has _ _ hv)]; exact hR⟩))
end
theorem kb {B : Nat} {W : aa9} (h : aI S W W') (hS : ∀ g ∈ S, g < B) : KeepsFrom B W W' :=
 ⟨h.size, fun i o hB hi _ => (h.block i (Array.getElem?_eq_some_iff.1 hi).1 (fun hm => absurd (hS i hm) Om)).trans hi⟩
theorem xX {W : aa9} (h : aI S W W') (h1 : b1 < W.heap.size) (h2 : b2 < W.heap.size) (n1 : b1 ∉ S) (n2 : b2 ∉ S) : xn b1 b2 W W' :=
 ⟨h.size, h.block b1 h1 n1, h.block b2 h2 n2⟩
end Go.Proofs.YtgfafidlkldeaaaGreat
