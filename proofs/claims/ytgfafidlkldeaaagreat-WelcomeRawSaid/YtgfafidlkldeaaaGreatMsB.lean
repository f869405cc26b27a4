/- Which proposals may be, and which are small: what msg and the reference answer. -/
import Derived.Test.YtgfafidlkldeaaaGreatNdH
import Derived.Test.YtgfafidlkldeaaaGreatAu
set_option linter.unusedVariables false
set_option linter.unusedSimpArgs false
set_option maxHeartbeats 4000000
set_option maxRecDepth 4000
namespace Go.Proofs.YtgfafidlkldeaaaGreat
section
open Go.RowKit Tryz
attribute [local irreducible] Y Ef WL WC WK WQ WM cE WN WF dc
theorem tC {A B : Oa} {n c m d : Nat} {xs ys : Lb} {w : World} (HA : Bs w A n xs) (HB : Bs w B m ys) (hn : n ≤ 1000000000) (hm : m ≤ 1000000000) :
  Ct 162 #[.slice A n c, .slice B m d] w fun e w' => ∃ A' k c', e = .returned (.slice A' k c') ∧ Row w' w.heap.size 5 A' k c' ((xs ++ Wire.vec ys).map bv) ∧ k ≤ n + m + 4 ∧ Ext w w' :=
 (dz A B n c m d xs ys w HA Om HB Om).mono fun _ _ ⟨A', k, c', h1, h2, h3, h4⟩ => ⟨A', k, c', h1, h2, by have := Wire.ck m; omega, h4⟩
theorem eQ {B : Oa} {m d : Nat} {ys : Lb} {w : World} (HB : Bs w B m ys) (hm : m ≤ 1000000000) :
  Ct 54 #[.slice B m d] w fun e w' => ∃ A' k c', e = .returned (.slice A' k c') ∧ Row w' w.heap.size 5 A' k c' ((Wire.vec ys).map bv) ∧ k ≤ m + 4 ∧ Ext w w' :=
 (et B m d ys w HB Om).mono fun _ _ ⟨A', k, c', h1, h2, h3, h4⟩ => ⟨A', k, c', h1, h2, by have := Wire.ck m; omega, h4⟩
theorem cJ {A B : Oa} {n c m d : Nat} {xs ys : Lb} {w : World} (HA : Bs w A n xs) (HB : Bs w B m ys) (hn : n ≤ 1000000000) (hm : m ≤ 1000000000) :
  Ct 214 #[.slice A n c, .slice B m d] w fun e w' => ∃ A' c', e = .returned (.slice A' (n + m) c') ∧ Row w' w.heap.size 5 A' (n + m) c' ((xs ++ ys).map bv) ∧ Ext w w' := by
 refine ai 10 func214 rfl rfl rfl rfl ?_
 intro _ hret
 refine aU ?_
 refine ag (aK (z := .int .u8 0) Tn.u Kr rfl rfl rfl rfl rfl) rfl ?_
 rintro _ w1 ⟨g1, rfl, B1, Vw, ex⟩
 have E1 := ex; have R1 : Row w1 w.heap.size 5 (some ⟨g1, 0, none⟩) 0 0 [] := Row.new B1 Vw rfl (by unfold maxLen; omega)
 refine aU ?_
 refine ag (gG rfl rfl cB R1 (HA.ext E1).2 (by rw [List.length_map, HA.1]) aM Om Om E1.size) rfl ?_
 rintro _ _ ⟨_, _, rfl, R2, be, gr, hl⟩
 have E2 := E1.trans be
 refine aU ?_
 refine ag (bd rfl rfl cB R2 (HB.ext E2).2 (by rw [List.length_map, HB.1]) aM Om Om E2.size) rfl ?_
 rintro _ _ ⟨A3, c3, rfl, R3, be, gr, hl⟩
 have E3 := E2.trans be
 refine aU ?_
 refine hret rfl ?_
 exact ⟨A3, c3, rfl, R3.cat, E3⟩
def dD (l : bT) : List UInt8 := Wire.vec l.box ++ Wire.vec l.sign ++ Wire.vec l.ident ++ [UInt8.ofNat l.src] ++ (if l.src = 3 then Wire.vec l.parent else [])
def kr (l : bT) : List UInt8 := dD l ++ Wire.vec l.sig
theorem dR (v : Lb) : (Wire.vec v).length ≤ v.length + 4 := by have := Wire.ck v.length; rw [Wire.mC]; omega
theorem kF {l : bT} (hf : l.Fit) : (dD l).length ≤ 4000017 := by
 obtain ⟨f0, f1, f2, f4, f5⟩ := hf
 have h0 := dR l.box; have h1 := dR l.sign; have h2 := dR l.ident; have h4 := dR l.parent
 unfold dD
 simp only [List.length_append, List.length_singleton]
 split
 ·omega
 ·simp only [List.length_nil]; omega
theorem Gv {l : bT} (hf : l.Fit) : (kr l).length ≤ 5000021 := by
 have h := kF hf
 have h5 := dR l.sig
 obtain ⟨f0, f1, f2, f4, f5⟩ := hf
 unfold kr
 rw [List.length_append]; omega
theorem xb {s : Nat} (h : s < 256) : (Value.int .u8 (s : Int)) = bv (UInt8.ofNat s) := by
 unfold bv; congr 1; rw [UInt8.toNat_ofNat']; omega
theorem nF {A : Oa} {n c : Nat} {xs : Lb} {cs : Array Value} {l : bT} (w : World) (HA : Bs w A n xs) (hn : n ≤ 1000) (H : dO w cs l) (hf : l.Fit) :
  Ct 199 #[.slice A n c, .agg cs] w fun e w' => ∃ A' k c', e = .returned (.slice A' k c') ∧ Row w' w.heap.size 5 A' k c' ((xs ++ dD l).map bv) ∧ Ext w w' := by
 obtain ⟨h0, h1, h2, h4, h5, rfl, hs, b0, b1, b2, b4, b5⟩ := H
 have l0 := b0.1; have l1 := b1.1; have l4 := b4.1
 have hU := kF hf
 obtain ⟨f0, f1, f2, f4, f5⟩ := hf
 have hxl := HA.1
 have E := Ext.refl w
 obtain ⟨ys, hys⟩ : ∃ ys, ys = [l.box, l.sign, l.ident] := ⟨_, rfl⟩
 obtain ⟨fl, hfl⟩ : ∃ fl : Nat → List UInt8, fl = fun k => ((ys.take k).map Wire.vec).flatten := ⟨_, rfl⟩
 have hfs : ∀ k, k < 3 → fl (k + 1) = fl k ++ Wire.vec (ys.getD k []) := fun k hk => by
  rw [hfl, hys]
  match k, hk with
  | 0, _ => simp
  | 1, _ => simp
  | 2, _ => simp
 have hfle : ∀ k, k < 3 → (fl k).length ≤ 2000008 := fun k hk => by
  have h0 := dR l.box; have h1 := dR l.sign
  rw [hfl, hys]
  match k, hk with
  | 0, _ => simp
  | 1, _ => simp; omega
  | 2, _ => simp; omega
 have hyl : ∀ k, k < 3 → (ys.getD k []).length ≤ 1000000 := fun k hk => by
  rw [hys]
  match k, hk with
  | 0, _ => exact f0
  | 1, _ => exact f1
  | 2, _ => exact f2
 refine ai 36 func199 rfl rfl rfl rfl ?_
 intro _ hret
 refine aU ?_
 intro Vx VA B3 _ ex
 replace E := E.ext ex
 refine aU ?_
 have E0 := E; have Vy := B3.lt
 refine ag (aK (z := .slice none 0 0) Tn.u Kr rfl rfl rfl rfl rfl) rfl ?_
 rintro _ w2 ⟨Vz, rfl, VB, _, ex⟩
 obtain ⟨E,B3⟩ := ba ex E B3
 have F : Ext Vx w2 := ex; have Vw : pK w2 (some ⟨Vz, 0, none⟩) 3 ys := (by rw [hys]; exact lJ VB (Bs.ext b0 E) (Bs.ext b1 E) (Bs.ext b2 E))
 refine aU ?_
 refine az (fun n' L wr => ∃ (k m e : Nat) (D : Oa), L = [(0, .slice D m e), (3, .pointer (some ⟨VA, 0, none⟩)), (13, .slice (some ⟨Vz, 0, none⟩) 3 3), (14, .int .i64 3), (15, .int .i64 (k : Int))] ∧ n' = 3 - k ∧ (k ≤ 3 ∧ Bs wr D m (xs ++ fl k) ∧ (k ≠ 0 → Row wr Vx.heap.size 5 D m e ((xs ++ fl k).map bv)) ∧ Ext Vx wr ∧ ao wr VA 27 (gj h0 h1 h2 l.src h4 h5) ∧ pK wr (some ⟨Vz, 0, none⟩) 3 ys)) _ _ ⟨0, n, c, A, rfl, rfl, by omega, by rw [hfl]; simpa using HA.ext E, fun h => absurd rfl h, F, B3, Vw⟩ Ls ?_
 rintro _ n' L wr ⟨k, m, e, D, rfl, rfl, hk, HD, hrow, F, B3, Vw⟩ VC
 refine aU ?_
 refine al rfl (fun VD => ?_) (fun VD => ?_)
 ·have hlt : k < 3 := by omega
  obtain ⟨b, off, C, q, f, zs, e1, hzs, hcell, hC⟩ := Vw.get hlt
  injection e1 with e1
  injection e1 with VE VF _
  subst VE; subst VF
  have VG := HD.1
  have hq := hC.1
  have hzl := hyl k hlt
  rw [← hzs.out] at hzl
  have hfk := hfle k hlt
  rw [List.length_append] at VG
  have VH := F.size
  refine au 7 ?_
  refine ak (af rfl Tn.u rfl hcell) ?_
  refine aU ?_
  refine aB func162 rfl (tC HD hC Om Om) ?_
  rintro e _ ⟨A4, k4, c4, rfl, R4, _, ex⟩
  refine au 1 ?_
  obtain ⟨F,B3,Vw⟩ := bC ex F B3 Vw
  rw [hzs.out, List.append_assoc, ← hfs k hlt] at R4; replace R4 := R4.lower VH
  refine au 8 ?_
  refine ae ?_
  refine VC _ _ ⟨k + 1, k4, c4, A4, rfl, rfl, by omega, R4.bs, fun _ => R4, F, B3, Vw⟩ Om Ls
 ·obtain rfl : k = 3 := by omega
  have R := hrow Om
  have VI : fl 3 = Wire.vec l.box ++ Wire.vec l.sign ++ Wire.vec l.ident := by rw [hfl, hys]; simp
  rw [VI] at R
  have hRl := R.len
  rw [List.length_map, List.length_append] at hRl
  have VL : (Wire.vec l.box ++ Wire.vec l.sign ++ Wire.vec l.ident).length ≤ 4000017 := by unfold dD at hU; simp only [List.length_append] at hU ⊢; omega
  refine au 9 ?_
  refine ak (Y.as (af rfl Tn.u rfl (B3.get (i := 3) rfl)) (xb hs)) ?_
  refine ag (aK (z := .int .u8 0) Tn.u Kr rfl rfl rfl rfl rfl) rfl ?_
  rintro _ _ ⟨_, rfl, B5, _, ex⟩
  replace R := R.ext ex
  refine ag (bd rfl rfl cB R (At.gX (vs := [UInt8.ofNat l.src].map bv) (B5.congr (by rfl))) rfl aM Om Om (Nat.le_trans F.size ex.size)) rfl ?_
  rintro _ _ ⟨A6, c6, rfl, R6, be, _, _⟩
  replace F := (F.ext ex).trans be; replace R6 := R6.cat; replace B3 := (B3.ext ex).below be Vy; have E := E0.tr F
  refine aU ?_
  refine al rfl (fun VJ => ?_) (fun VJ => ?_)
  ·refine aU ?_
   have VK := E.size
   refine aB func162 rfl (tC R6.bs (Bs.ext b4 E) Om Om) ?_
   rintro e _ ⟨A7, k7, c7, rfl, R7, _, ex⟩
   replace E := E.ext ex
   refine aU ?_
   refine hret rfl ?_
   refine ⟨A7, k7, c7, rfl, (R7.lower VK).congr rfl ?_, E⟩
   unfold dD
   rw [if_pos Om]
   simp only [List.append_assoc]
  ·refine aU ?_
   refine hret rfl ?_
   refine ⟨A6, _, c6, rfl, (R6.lower E0.size).congr rfl ?_, E⟩
   unfold dD
   rw [if_neg Om]
   simp only [List.append_assoc, List.append_nil]
def lR (l : bT) : List UInt8 × Nat := if aG l then (kr l, 0) else ([], 3)
theorem lY {cs : Array Value} {l : bT} (w : World) (H : dO w cs l) (hf : l.Fit) :
  Ct 216 #[.agg cs] w fun e w' => ∃ A' k c', e = .returned (.tuple #[.slice A' k c', .int .u8 (((lR l).2 : Nat) : Int)]) ∧ Row w' w.heap.size 5 A' k c' ((lR l).1.map bv) ∧ Ext w w' := by
 have hU := kF hf
 have HH := H
 obtain ⟨h0, h1, h2, h4, h5, rfl, hs, b0, b1, b2, b4, b5⟩ := H
 have l5 := b5.1
 obtain ⟨f0, f1, f2, f4, f5⟩ := id hf
 have E := Ext.refl w
 refine bu 12 func216 rfl rfl rfl rfl ?_
 intro _ hret
 refine aU ?_
 intro _ _ B1 _ ex
 replace E := E.ext ex
 refine aU ?_
 refine aB func140 rfl (lS _ (HH.ext E)) ?_
 rintro e _ ⟨rfl, ex⟩
 obtain ⟨E,B1⟩ := ba ex E B1
 refine aU ?_
 refine bA rfl (fun Vw => ?_) (fun Vw => ?_)
 ·refine aU ?_
  refine hret rfl rfl ?_
  have hno : ¬ aG l := by simpa using Vw
  have e1 : lR l = ([], 3) := by unfold lR; rw [if_neg hno]
  rw [e1]
  exact ⟨none, 0, 0, rfl, Row.empty _ _ _, E⟩
 ·refine aU ?_
  refine aC Kr 7 rfl ?_; intro Vz ex VA
  obtain ⟨E,B1⟩ := ba ex E B1
  refine zm [0, 2, 3] ?_
  refine bD 1 rfl func199 rfl (nF _ (Bs.nil _ none) Om (HH.ext E) hf) ?_
  rintro e _ ⟨_, _, _, rfl, R3, ex⟩
  refine aU ?_
  replace E := E.ext ex
  have Vx := R3.bs.1
  have Vy := E.size; rw [List.nil_append] at Vx
  refine bD 4 rfl func162 rfl (tC R3.bs (Bs.ext b5 E) Om Om) ?_
  rintro e _ ⟨A4, k4, c4, rfl, R4, _, ex⟩
  replace E := E.ext ex
  refine zm [5, 6] ?_
  refine hret rfl rfl ?_
  have hyes : aG l := by simpa using Vw
  have e1 : lR l = (kr l, 0) := by unfold lR; rw [if_pos hyes]
  rw [e1]
  exact ⟨A4, k4, c4, rfl, (R4.lower Vy).congr rfl (by unfold kr; rw [List.nil_append]), E⟩
end
section
open Go.RowKit
attribute [local irreducible] Y Ef WL WC WK WQ WM cE WN WF dc WJ gJ
open Wire Nd
namespace Nd
theorem yW {s : St} (k : Nat) : pj (dK k s).2 ≤ pj s := by
  cases s with
  | error c => exact Nat.le_refl _
  | ok xs =>
    rw [jQ]
    split
    · exact Nat.zero_le _
    · show (xs.drop k).length ≤ xs.length
      rw [List.length_drop]; omega
theorem tp {b : Lb} {k : Nat} : eo (.ok (b.drop k)) = if k < b.length then 5 else 0 := by
 by_cases h : k < b.length
 ·rw [if_pos h, drop_cons h]; rfl
 ·rw [if_neg h, List.drop_of_length_le Om]; rfl
end Nd
namespace Nd
end Nd
end
section
open Go.RowKit
namespace Wire
theorem PN (a : UInt8) : nb [a] = a.toNat := by simp [nb]
theorem Bp (a : UInt8) (r : Lb) : dK 1 (.ok (a :: r)) = (a.toNat, .ok r) := by
 rw [jQ, if_neg (by simp)]
 show (nb [a], _) = _
 rw [PN]; rfl
end Wire
open Wire Nd
namespace Nd
end Nd
end
section
open Go.RowKit
attribute [local irreducible] Y Ef WL WC WK WQ WM cE WN WF dc WJ gJ
open Wire Nd
def Node.Small (n : Node) : Prop := n.leaf.box.length ≤ 200 ∧ n.leaf.sign.length ≤ 200 ∧ n.leaf.ident.length ≤ 200 ∧ n.leaf.parent.length ≤ 200 ∧ n.leaf.sig.length ≤ 200 ∧ n.par.box.length ≤ 200 ∧ n.par.hash.length ≤ 200 ∧ n.par.late.length ≤ 60
instance (n : Node) : Decidable n.Small := by unfold Node.Small; exact inferInstance
theorem Node.Small.fit {n : Node} (h : n.Small) : n.Fit := by
 obtain ⟨h1, h2, h3, h4, h5, h6, h7, h8⟩ := h
 exact ⟨⟨by omega, by omega, by omega, by omega, by omega⟩, by omega, by omega, by omega⟩
theorem Da {cs : Array Value} {n : Node} (w : World) (H : qY w cs n) :
  Ct 32 #[.agg cs] w fun e w' => e = .returned (.bool (decide n.Small)) ∧ Ext w w' := by
 obtain ⟨h0, h1, h2, h4, h5, p0, p1, p2, rfl, hk, hs, b0, b1, b2, b4, b5, VD, VE, VF⟩ := H
 have l0 := b0.1; have l1 := b1.1; have l2 := b2.1; have l4 := b4.1; have l5 := b5.1
 have m0 := VD.1; have m1 := VE.1; have m2 := VF.1
 have E := Ext.refl w
 refine ai 55 Tryz.func32 rfl rfl rfl rfl ?_
 intro _ hret
 refine aU ?_
 intro _ _ B1 _ ex
 replace E := E.ext ex
 refine aU ?_
 refine dH Kr 8 rfl ?_; intro VG ex VI
 obtain ⟨E,B1⟩ := ba ex E B1
 have VC := E
 have VH := B1
 have X0 := Ext.refl VG
 refine zm [0, 1, 2, 3] ?_
 refine dJ (fl := [rz 4 3 27 (gv), rz 5 4 93 (NN)]) rfl ?_
 refine ji ⟨(bQ (cv rfl Kr) (bQ (cv rfl Kr) aP)), by decide, by decide, (bQ (⟨rfl, by decide⟩) (bQ (⟨rfl, by decide⟩) aP)), (bQ (bm Kr) (bQ (bm Kr) aP))⟩ Kr ?_
 rintro _ _ _ ex ⟨⟨g3, rfl, Vx⟩, VA⟩ ⟨⟨g4, rfl, Vy⟩, VB⟩ Vw
 replace VA := VA g3 rfl
 replace VB := VB g4 rfl
 have Vz : g3 ≠ g4 := fun e => Vw g3 rfl (by rw [e]; rfl)
 obtain ⟨E,X0⟩ := ba ex E X0
 refine dp 6 Kr ?_
 refine eN rfl (ah (cells := gj h0 h1 h2 n.leaf.src h4 h5) rfl rfl Kr Vx rfl (aS rfl)) rfl ?_
 rintro _ _ ⟨rfl, Vx, cg⟩
 replace X0 := X0.aE cg VA
 refine ⟨X0, ?_⟩
 replace E := VC.ext X0
 replace Vy := Vy.aE cg Om
 refine dp 7 Kr ?_
 refine eN rfl (ah (cells := N8 p0 p1 p2) rfl rfl Kr Vy rfl (aS rfl)) rfl ?_
 rintro _ _ ⟨rfl, Vy, cg⟩
 replace X0 := X0.aE cg VB
 refine ⟨X0, ?_⟩
 replace E := VC.ext X0
 replace Vx := Vx.aE cg Om
 refine eK Kr ?_
 refine au 8 ?_
 refine aR (aQ rfl) rfl (fun t0 => ?_) (fun t0 => ?_)
 ·refine au 5 ?_
  refine aR (aQ rfl) rfl (fun t1 => ?_) (fun t1 => ?_)
  ·refine au 5 ?_
   refine aR (aQ rfl) rfl (fun t2 => ?_) (fun t2 => ?_)
   ·refine au 5 ?_
    refine aR (aQ rfl) rfl (fun t3 => ?_) (fun t3 => ?_)
    ·refine au 5 ?_
     refine aR (aQ rfl) rfl (fun t4 => ?_) (fun t4 => ?_)
     ·refine au 5 ?_
      refine aR (aQ rfl) rfl (fun t5 => ?_) (fun t5 => ?_)
      ·refine au 5 ?_
       refine aR (aQ rfl) rfl (fun t6 => ?_) (fun t6 => ?_)
       ·refine aU ?_
        refine hret rfl ?_
        exact ⟨cV (by unfold Node.Small; omega), E⟩
       ·refine aU ?_
        refine hret rfl ?_
        exact ⟨aI fun h => by unfold Node.Small at h; omega, E⟩
      ·refine aU ?_
       refine hret rfl ?_
       exact ⟨aI fun h => by unfold Node.Small at h; omega, E⟩
     ·refine aU ?_
      refine hret rfl ?_
      exact ⟨aI fun h => by unfold Node.Small at h; omega, E⟩
    ·refine aU ?_
     refine hret rfl ?_
     exact ⟨aI fun h => by unfold Node.Small at h; omega, E⟩
   ·refine aU ?_
    refine hret rfl ?_
    exact ⟨aI fun h => by unfold Node.Small at h; omega, E⟩
  ·refine aU ?_
   refine hret rfl ?_
   exact ⟨aI fun h => by unfold Node.Small at h; omega, E⟩
 ·refine aU ?_
  refine hret rfl ?_
  exact ⟨aI fun h => by unfold Node.Small at h; omega, E⟩
namespace Nd
end Nd
end
section
open Go.RowKit Tryz
attribute [local irreducible] Y Ef WL WC WK WQ WM cE WN WF dc WJ gJ
open Wire Nd
theorem BH {cs : Array Value} {l : bT} (w : World) (H : dO w cs l) (hf : l.Fit) :
  Ct 215 #[.agg cs] w fun e w' => ∃ A' k c', e = .returned (.slice A' k c') ∧ Row w' w.heap.size 5 A' k c' ((dD l).map bv) ∧ Ext w w' := by
 obtain ⟨h0, h1, h2, h4, h5, rfl, hs, b0, b1, b2, b4, b5⟩ := H
 have l0 := b0.1; have l1 := b1.1; have l2 := b2.1; have l4 := b4.1
 obtain ⟨f0, f1, f2, f4, f5⟩ := hf
 have E := Ext.refl w
 refine ai 28 func215 rfl rfl rfl rfl ?_
 intro _ hret
 refine aU ?_
 intro _ _ B1 _ ex
 replace E := E.ext ex
 refine aU ?_
 refine aC Kr 16 rfl ?_; intro VH ex VI
 obtain ⟨E,B1⟩ := ba ex E B1
 refine zm [0, 1, 3, 4, 7, 8, 10] ?_
 refine my 11 rfl (Y.as (af rfl Tn.u rfl (B1.get (i := 3) rfl)) (xb hs)) ?_
 refine ki 2 12 Kr ?_ ?_
 ·skip
  refine gH rfl func54 rfl rfl rfl (eQ (Bs.ext b0 E) Om) rfl ?_
  rintro e w2 ⟨A2, k2, c2, rfl, R2, VG, ex⟩
  obtain ⟨E,B1⟩ := ba ex E B1
  refine aU ?_
  refine ki 5 12 Kr ?_ ?_
  ·skip
   refine gH rfl func54 rfl rfl rfl (eQ (Bs.ext b1 E) Om) rfl ?_
   rintro e w3 ⟨A3, k3, c3, rfl, R3, VF, ex⟩
   obtain ⟨E,B1,R2⟩ := bC ex E B1 R2
   refine aU ?_
   refine ki 6 12 Kr ?_ ?_
   ·skip
    refine gH rfl func214 rfl rfl rfl (cJ R2.bs R3.bs Om Om) rfl ?_
    rintro e w4 ⟨A4, c4, rfl, R4, ex⟩
    obtain ⟨E,B1⟩ := ba ex E B1
    refine aU ?_
    refine ki 9 12 Kr ?_ ?_
    ·skip
     refine gH rfl func54 rfl rfl rfl (eQ (Bs.ext b2 E) Om) rfl ?_
     rintro e w5 ⟨A5, k5, c5, rfl, R5, VB, ex⟩
     obtain ⟨E,B1,R4⟩ := bC ex E B1 R4
     refine aU ?_
     refine bk 12 Kr ?_; refine bH rfl (aK (z := .int .u8 0) Tn.u Kr rfl rfl rfl rfl rfl) rfl ?_
     rintro _ w6 ⟨g6, rfl, B6, VC, ex⟩
     refine ⟨.inr ex, ?_⟩
     obtain ⟨E,B1,R4,R5⟩ := bO ex E B1 R4 R5
     have H6 := bw (xs := [UInt8.ofNat l.src]) (B6.congr (by rfl)) rfl
     refine bD 13 rfl func214 rfl (cJ R5.bs H6 Om Om) ?_
     rintro e w7 ⟨A7, c7, rfl, R7, ex⟩
     obtain ⟨E,B1,R4⟩ := bC ex E B1 R4
     refine aU ?_
     have Vw := E.size
     refine bD 14 rfl func214 rfl (cJ R4.bs R7.bs Om Om) ?_
     rintro e w8 ⟨A8, c8, rfl, R8, ex⟩
     obtain ⟨E,B1⟩ := ba ex E B1
     replace R8 := R8.lower Vw
     refine zm [15] ?_
     refine al rfl (fun Vy => ?_) (fun Vy => ?_)
     ·refine aU ?_
      refine aB func54 rfl (eQ (Bs.ext b4 E) Om) ?_
      rintro e w9 ⟨A9, k9, c9, rfl, R9, VD, ex⟩
      obtain ⟨E,R8⟩ := ba ex E R8
      refine aU ?_
      have Vx := E.size
      refine aB func214 rfl (cJ R8.bs R9.bs Om Om) ?_
      rintro e VE ⟨Vz, c10, rfl, VA, ex⟩
      replace E := E.ext ex
      refine aU ?_
      refine hret rfl ?_
      exact ⟨Vz, _, c10, rfl, (VA.lower Vx).congr rfl (by unfold dD; rw [if_pos Om]; simp only [List.append_assoc]), E⟩
     ·refine aU ?_
      refine hret rfl ?_
      exact ⟨A8, _, c8, rfl, R8.congr rfl (by unfold dD; rw [if_neg Om]; simp only [List.append_assoc, List.append_nil]), E⟩
    ·skip
     refine bH rfl (aK (z := .int .u8 0) Tn.u Kr rfl rfl rfl rfl rfl) rfl ?_
     rintro _ w6 ⟨g6, rfl, B6, VC, ex⟩
     refine ⟨.inr ex, ?_⟩
     obtain ⟨E,B1,R4⟩ := bC ex E B1 R4
     have H6 := bw (xs := [UInt8.ofNat l.src]) (B6.congr (by rfl)) rfl
     refine bD 9 rfl func54 rfl (eQ (Bs.ext b2 E) Om) ?_
     rintro e w5 ⟨A5, k5, c5, rfl, R5, VB, ex⟩
     obtain ⟨E,B1,R4,H6⟩ := bO ex E B1 R4 H6
     refine aU ?_
     refine bD 13 rfl func214 rfl (cJ R5.bs H6 Om Om) ?_
     rintro e w7 ⟨A7, c7, rfl, R7, ex⟩
     obtain ⟨E,B1,R4⟩ := bC ex E B1 R4
     refine aU ?_
     have Vw := E.size
     refine bD 14 rfl func214 rfl (cJ R4.bs R7.bs Om Om) ?_
     rintro e w8 ⟨A8, c8, rfl, R8, ex⟩
     obtain ⟨E,B1⟩ := ba ex E B1
     replace R8 := R8.lower Vw
     refine zm [15] ?_
     refine al rfl (fun Vy => ?_) (fun Vy => ?_)
     ·refine aU ?_
      refine aB func54 rfl (eQ (Bs.ext b4 E) Om) ?_
      rintro e w9 ⟨A9, k9, c9, rfl, R9, VD, ex⟩
      obtain ⟨E,R8⟩ := ba ex E R8
      refine aU ?_
      have Vx := E.size
      refine aB func214 rfl (cJ R8.bs R9.bs Om Om) ?_
      rintro e VE ⟨Vz, c10, rfl, VA, ex⟩
      replace E := E.ext ex
      refine aU ?_
      refine hret rfl ?_
      exact ⟨Vz, _, c10, rfl, (VA.lower Vx).congr rfl (by unfold dD; rw [if_pos Om]; simp only [List.append_assoc]), E⟩
     ·refine aU ?_
      refine hret rfl ?_
      exact ⟨A8, _, c8, rfl, R8.congr rfl (by unfold dD; rw [if_neg Om]; simp only [List.append_assoc, List.append_nil]), E⟩
   ·skip
    refine bH rfl (aK (z := .int .u8 0) Tn.u Kr rfl rfl rfl rfl rfl) rfl ?_
    rintro _ w6 ⟨g6, rfl, B6, VC, ex⟩
    refine ⟨.inr ex, ?_⟩
    obtain ⟨E,B1,R2,R3⟩ := bO ex E B1 R2 R3
    have H6 := bw (xs := [UInt8.ofNat l.src]) (B6.congr (by rfl)) rfl
    refine bD 6 rfl func214 rfl (cJ R2.bs R3.bs Om Om) ?_
    rintro e w4 ⟨A4, c4, rfl, R4, ex⟩
    obtain ⟨E,B1,H6⟩ := bC ex E B1 H6
    refine aU ?_
    refine bD 9 rfl func54 rfl (eQ (Bs.ext b2 E) Om) ?_
    rintro e w5 ⟨A5, k5, c5, rfl, R5, VB, ex⟩
    obtain ⟨E,B1,H6,R4⟩ := bO ex E B1 H6 R4
    refine aU ?_
    refine bD 13 rfl func214 rfl (cJ R5.bs H6 Om Om) ?_
    rintro e w7 ⟨A7, c7, rfl, R7, ex⟩
    obtain ⟨E,B1,R4⟩ := bC ex E B1 R4
    refine aU ?_
    have Vw := E.size
    refine bD 14 rfl func214 rfl (cJ R4.bs R7.bs Om Om) ?_
    rintro e w8 ⟨A8, c8, rfl, R8, ex⟩
    obtain ⟨E,B1⟩ := ba ex E B1
    replace R8 := R8.lower Vw
    refine zm [15] ?_
    refine al rfl (fun Vy => ?_) (fun Vy => ?_)
    ·refine aU ?_
     refine aB func54 rfl (eQ (Bs.ext b4 E) Om) ?_
     rintro e w9 ⟨A9, k9, c9, rfl, R9, VD, ex⟩
     obtain ⟨E,R8⟩ := ba ex E R8
     refine aU ?_
     have Vx := E.size
     refine aB func214 rfl (cJ R8.bs R9.bs Om Om) ?_
     rintro e VE ⟨Vz, c10, rfl, VA, ex⟩
     replace E := E.ext ex
     refine aU ?_
     refine hret rfl ?_
     exact ⟨Vz, _, c10, rfl, (VA.lower Vx).congr rfl (by unfold dD; rw [if_pos Om]; simp only [List.append_assoc]), E⟩
    ·refine aU ?_
     refine hret rfl ?_
     exact ⟨A8, _, c8, rfl, R8.congr rfl (by unfold dD; rw [if_neg Om]; simp only [List.append_assoc, List.append_nil]), E⟩
  ·skip
   refine bH rfl (aK (z := .int .u8 0) Tn.u Kr rfl rfl rfl rfl rfl) rfl ?_
   rintro _ w6 ⟨g6, rfl, B6, VC, ex⟩
   refine ⟨.inr ex, ?_⟩
   obtain ⟨E,B1,R2⟩ := bC ex E B1 R2
   have H6 := bw (xs := [UInt8.ofNat l.src]) (B6.congr (by rfl)) rfl
   refine bD 5 rfl func54 rfl (eQ (Bs.ext b1 E) Om) ?_
   rintro e w3 ⟨A3, k3, c3, rfl, R3, VF, ex⟩
   obtain ⟨E,B1,R2,H6⟩ := bO ex E B1 R2 H6
   refine aU ?_
   refine bD 6 rfl func214 rfl (cJ R2.bs R3.bs Om Om) ?_
   rintro e w4 ⟨A4, c4, rfl, R4, ex⟩
   obtain ⟨E,B1,H6⟩ := bC ex E B1 H6
   refine aU ?_
   refine bD 9 rfl func54 rfl (eQ (Bs.ext b2 E) Om) ?_
   rintro e w5 ⟨A5, k5, c5, rfl, R5, VB, ex⟩
   obtain ⟨E,B1,H6,R4⟩ := bO ex E B1 H6 R4
   refine aU ?_
   refine bD 13 rfl func214 rfl (cJ R5.bs H6 Om Om) ?_
   rintro e w7 ⟨A7, c7, rfl, R7, ex⟩
   obtain ⟨E,B1,R4⟩ := bC ex E B1 R4
   refine aU ?_
   have Vw := E.size
   refine bD 14 rfl func214 rfl (cJ R4.bs R7.bs Om Om) ?_
   rintro e w8 ⟨A8, c8, rfl, R8, ex⟩
   obtain ⟨E,B1⟩ := ba ex E B1
   replace R8 := R8.lower Vw
   refine zm [15] ?_
   refine al rfl (fun Vy => ?_) (fun Vy => ?_)
   ·refine aU ?_
    refine aB func54 rfl (eQ (Bs.ext b4 E) Om) ?_
    rintro e w9 ⟨A9, k9, c9, rfl, R9, VD, ex⟩
    obtain ⟨E,R8⟩ := ba ex E R8
    refine aU ?_
    have Vx := E.size
    refine aB func214 rfl (cJ R8.bs R9.bs Om Om) ?_
    rintro e VE ⟨Vz, c10, rfl, VA, ex⟩
    replace E := E.ext ex
    refine aU ?_
    refine hret rfl ?_
    exact ⟨Vz, _, c10, rfl, (VA.lower Vx).congr rfl (by unfold dD; rw [if_pos Om]; simp only [List.append_assoc]), E⟩
   ·refine aU ?_
    refine hret rfl ?_
    exact ⟨A8, _, c8, rfl, R8.congr rfl (by unfold dD; rw [if_neg Om]; simp only [List.append_assoc, List.append_nil]), E⟩
 ·skip
  refine bH rfl (aK (z := .int .u8 0) Tn.u Kr rfl rfl rfl rfl rfl) rfl ?_
  rintro _ w6 ⟨g6, rfl, B6, VC, ex⟩
  refine ⟨.inr ex, ?_⟩
  obtain ⟨E,B1⟩ := ba ex E B1
  have H6 := bw (xs := [UInt8.ofNat l.src]) (B6.congr (by rfl)) rfl
  refine bD 2 rfl func54 rfl (eQ (Bs.ext b0 E) Om) ?_
  rintro e w2 ⟨A2, k2, c2, rfl, R2, VG, ex⟩
  obtain ⟨E,B1,H6⟩ := bC ex E B1 H6
  refine aU ?_
  refine bD 5 rfl func54 rfl (eQ (Bs.ext b1 E) Om) ?_
  rintro e w3 ⟨A3, k3, c3, rfl, R3, VF, ex⟩
  obtain ⟨E,B1,H6,R2⟩ := bO ex E B1 H6 R2
  refine aU ?_
  refine bD 6 rfl func214 rfl (cJ R2.bs R3.bs Om Om) ?_
  rintro e w4 ⟨A4, c4, rfl, R4, ex⟩
  obtain ⟨E,B1,H6⟩ := bC ex E B1 H6
  refine aU ?_
  refine bD 9 rfl func54 rfl (eQ (Bs.ext b2 E) Om) ?_
  rintro e w5 ⟨A5, k5, c5, rfl, R5, VB, ex⟩
  obtain ⟨E,B1,H6,R4⟩ := bO ex E B1 H6 R4
  refine aU ?_
  refine bD 13 rfl func214 rfl (cJ R5.bs H6 Om Om) ?_
  rintro e w7 ⟨A7, c7, rfl, R7, ex⟩
  obtain ⟨E,B1,R4⟩ := bC ex E B1 R4
  refine aU ?_
  have Vw := E.size
  refine bD 14 rfl func214 rfl (cJ R4.bs R7.bs Om Om) ?_
  rintro e w8 ⟨A8, c8, rfl, R8, ex⟩
  obtain ⟨E,B1⟩ := ba ex E B1
  replace R8 := R8.lower Vw
  refine zm [15] ?_
  refine al rfl (fun Vy => ?_) (fun Vy => ?_)
  ·refine aU ?_
   refine aB func54 rfl (eQ (Bs.ext b4 E) Om) ?_
   rintro e w9 ⟨A9, k9, c9, rfl, R9, VD, ex⟩
   obtain ⟨E,R8⟩ := ba ex E R8
   refine aU ?_
   have Vx := E.size
   refine aB func214 rfl (cJ R8.bs R9.bs Om Om) ?_
   rintro e VE ⟨Vz, c10, rfl, VA, ex⟩
   replace E := E.ext ex
   refine aU ?_
   refine hret rfl ?_
   exact ⟨Vz, _, c10, rfl, (VA.lower Vx).congr rfl (by unfold dD; rw [if_pos Om]; simp only [List.append_assoc]), E⟩
  ·refine aU ?_
   refine hret rfl ?_
   exact ⟨A8, _, c8, rfl, R8.congr rfl (by unfold dD; rw [if_neg Om]; simp only [List.append_assoc, List.append_nil]), E⟩
theorem qe {cs : Array Value} {l : bT} (w : World) (H : dO w cs l) (hf : l.Fit) :
  Ct 159 #[.agg cs] w fun e w' => ∃ A' k c', e = .returned (.slice A' k c') ∧ Row w' w.heap.size 5 A' k c' ((kr l).map bv) ∧ Ext w w' := by
 have HH := H
 have hU := kF hf
 obtain ⟨h0, h1, h2, h4, h5, rfl, hs, b0, b1, b2, b4, b5⟩ := H
 have l5 := b5.1
 have f5 := hf.2.2.2.2
 have E := Ext.refl w
 refine ai 9 func159 rfl rfl rfl rfl ?_
 intro _ hret
 refine aU ?_
 intro _ _ B1 _ ex
 replace E := E.ext ex
 refine aU ?_
 refine aC Kr 7 rfl ?_; intro Vx ex Vy
 obtain ⟨E,B1⟩ := ba ex E B1
 refine zm [0, 2, 3] ?_
 refine bD 1 rfl func215 rfl (BH _ (HH.ext E) hf) ?_
 rintro e _ ⟨_, _, _, rfl, R2, ex⟩
 refine aU ?_
 replace E := E.ext ex
 have Vz := R2.bs.1
 refine bD 4 rfl func54 rfl (eQ (Bs.ext b5 E) Om) ?_
 rintro e _ ⟨_, _, _, rfl, R3, _, ex⟩
 obtain ⟨E,R2⟩ := ba ex E R2
 refine aU ?_
 have Vw := E.size
 refine bD 5 rfl func214 rfl (cJ R2.bs R3.bs Om Om) ?_
 rintro e _ ⟨A4, c4, rfl, R4, ex⟩
 replace E := E.ext ex
 refine zm [6] ?_
 refine hret rfl ?_
 exact ⟨A4, _, c4, rfl, R4.lower Vw, E⟩
end
section
open Go.RowKit Tryz
attribute [local irreducible] Y Ef WL WC WK WQ WM cE WN WF dc
open Nd
structure Pack where
 init : List UInt8
 leaf : bT
 sig : List UInt8
structure fA where
 kind : Nat
 pack : Pack
 leaf : bT
 at_ : Int
def Pack.zero : Pack := ⟨[], bT.zero, []⟩
def fv (i h0 h1 h2 : Hd) (s : Nat) (h4 h5 g : Hd) : Array Value := #[.slice i.A i.n i.c, .slice h0.A h0.n h0.c, .slice h1.A h1.n h1.c, .slice h2.A h2.n h2.c, .int .u8 (s : Int), .slice h4.A h4.n h4.c, .slice h5.A h5.n h5.c, .slice g.A g.n g.c]
def oI (B : Hd → List UInt8 → Prop) (cs : Array Value) (p : Pack) : Prop :=
 ∃ i h0 h1 h2 h4 h5 g, cs = fv i h0 h1 h2 p.leaf.src h4 h5 g ∧ p.leaf.src < 256 ∧ B i p.init ∧ B h0 p.leaf.box ∧ B h1 p.leaf.sign ∧ B h2 p.leaf.ident ∧ B h4 p.leaf.parent ∧ B h5 p.leaf.sig ∧ B g p.sig
section
variable {B B' : Hd → List UInt8 → Prop} {cs : Array Value} {p : Pack} {q : fA}
theorem oI.imp (h : oI B cs p) (f : ∀ h xs, B h xs → B' h xs) : oI B' cs p := by
 obtain ⟨i, h0, h1, h2, h4, h5, g, e, hs, a, b0, b1, b2, b4, b5, c⟩ := h
 exact ⟨i, h0, h1, h2, h4, h5, g, e, hs, f _ _ a, f _ _ b0, f _ _ b1, f _ _ b2, f _ _ b4, f _ _ b5, f _ _ c⟩
theorem oI.leaf (h : oI B cs p) : ky B ((cs.toList.drop 1).take 6).toArray p.leaf := by
 obtain ⟨i, h0, h1, h2, h4, h5, g, rfl, hs, a, b0, b1, b2, b4, b5, c⟩ := h
 exact ⟨h0, h1, h2, h4, h5, rfl, hs, b0, b1, b2, b4, b5⟩
end
def dd (w : World) (cs : Array Value) (p : Pack) : Prop := oI (kP w) cs p
section
variable {w w' : World} {cs : Array Value} {p : Pack} {q : fA}
theorem dd.ext (h : dd w cs p) (e : Ext w w') : dd w' cs p := oI.imp h fun _ _ b => Bs.ext b e
theorem dd.leaf (h : dd w cs p) : dO w ((cs.toList.drop 1).take 6).toArray p.leaf := oI.leaf h
end
def Pack.Fit (p : Pack) : Prop := p.init.length ≤ 1000000 ∧ p.leaf.Fit ∧ p.sig.length ≤ 1000000
/-! Which may be. -/
def jT (l : bT) (s : Nat) : Prop := aG l ∧ l.src = s
instance (l : bT) (s : Nat) : Decidable (jT l s) := by unfold jT; infer_instance
def dt (p : Pack) : Prop := p.init.length = 32 ∧ jT p.leaf 1 ∧ p.sig.length = 64
instance (p : Pack) : Decidable (dt p) := by unfold dt; infer_instance
theorem zG {l : bT} : (lR l).2 = 0 ↔ aG l := by
 unfold lR
 split
 ·rename_i h; exact ⟨fun _ => h, fun _ => rfl⟩
 ·rename_i h; exact ⟨fun e => by simp at e, fun k => absurd k h⟩
section
variable {cs : Array Value} {l : bT} {p : Pack} {q : fA} {s : Nat}
theorem ph (w : World) (H : dO w cs l) (hf : l.Fit) :
  Ct 160 #[.agg cs, .int .u8 (s : Int)] w fun e w' => e = .returned (.bool (decide (jT l s))) ∧ Ext w w' := by
 have HL := H
 have hc := zG (l := l)
 obtain ⟨h0, h1, h2, h4, h5, rfl, hs, b0, b1, b2, b4, b5⟩ := H
 have E := Ext.refl w
 refine ai 20 func160 rfl rfl rfl rfl ?_
 intro _ hret
 refine aU ?_
 intro _ _ B2 _ ex
 replace E := E.ext ex
 refine aU ?_
 refine aB func216 rfl (lY _ (HL.ext E) hf) ?_
 rintro e _ ⟨_, _, _, rfl, _, ex⟩
 obtain ⟨E,B2⟩ := ba ex E B2
 refine au 12 ?_
 refine aR (aQ rfl) rfl (fun q0 => ?_) (fun q0 => ?_)
 ·refine aU ?_
  refine hret rfl ?_
  exact ⟨by rw [decide_eq_decide.2 (show (l.src : Int) = (s : Int) ↔ jT l s from ⟨fun h => ⟨hc.1 Om, by omega⟩, fun h => by rw [h.2]⟩)], E⟩
 ·refine aU ?_
  refine hret rfl ?_
  exact ⟨aI fun h => q0 (by rw [hc.2 h.1]; rfl), E⟩
theorem vP (w : World) (H : dO w cs l) :
  Ct 33 #[.agg cs, .int .u8 (s : Int)] w fun e w' => e = .returned (.bool (decide (jT l s))) ∧ Ext w w' := by
 have HL := H
 obtain ⟨h0, h1, h2, h4, h5, rfl, hs, b0, b1, b2, b4, b5⟩ := H
 have E := Ext.refl w
 refine ai 13 func33 rfl rfl rfl rfl ?_
 intro _ hret
 refine aU ?_
 intro _ _ B2 _ ex
 replace E := E.ext ex
 refine aU ?_
 refine aB func79 rfl (rp _ (HL.ext E)) ?_
 rintro e _ ⟨rfl, ex⟩
 obtain ⟨E,B2⟩ := ba ex E B2
 refine au 1 ?_
 refine aR (aQ rfl) rfl (fun q0 => ?_) (fun q0 => ?_)
 ·refine aU ?_
  refine hret rfl ?_
  exact ⟨by rw [decide_eq_decide.2 (show (l.src : Int) = (s : Int) ↔ jT l s from ⟨fun h => ⟨q0, by omega⟩, fun h => by rw [h.2]⟩)], E⟩
 ·refine aU ?_
  refine hret rfl ?_
  exact ⟨aI fun h => q0 h.1, E⟩
theorem l9 (w : World) (H : dd w cs p) (hf : p.Fit) :
  Ct 84 #[.agg cs] w fun e w' => e = .returned (.bool (decide (dt p))) ∧ Ext w w' := by
 have HL := H.leaf
 obtain ⟨i, h0, h1, h2, h4, h5, g, rfl, hs, a, b0, b1, b2, b4, b5, c⟩ := H
 have la := a.1; have lc := c.1
 have E := Ext.refl w
 refine ai 18 func84 rfl rfl rfl rfl ?_
 intro _ hret
 refine aU ?_
 intro _ _ B1 _ ex
 replace E := E.ext ex
 refine au 9 ?_
 refine aR (aQ rfl) rfl (fun q0 => ?_) (fun q0 => ?_)
 ·refine aU ?_
  refine df 7 rfl rfl func160 rfl rfl rfl (ph (s := 1) _ (HL.ext E) hf.2.1) rfl ?_
  rintro e _ ⟨rfl, ex⟩
  obtain ⟨E,B1⟩ := ba ex E B1
  refine au 2 ?_
  refine aR (aQ rfl) rfl (fun q1 => ?_) (fun q1 => ?_)
  ·refine aU ?_
   refine hret rfl ?_
   exact ⟨cV ⟨fun h => ⟨by omega, q1, by omega⟩, fun h => by have := h.2.2; omega⟩, E⟩
  ·refine aU ?_
   refine hret rfl ?_
   exact ⟨aI fun h => q1 h.2.1, E⟩
 ·refine aU ?_
  refine hret rfl ?_
  exact ⟨aI fun h => q0 (by rw [← la, h.1]; rfl), E⟩
theorem sX (w : World) (H : dd w cs p) :
  Ct 10 #[.agg cs] w fun e w' => e = .returned (.bool (decide (dt p))) ∧ Ext w w' := by
 have HL := H.leaf
 obtain ⟨i, h0, h1, h2, h4, h5, g, rfl, hs, a, b0, b1, b2, b4, b5, c⟩ := H
 have la := a.1; have lc := c.1
 have E := Ext.refl w
 refine ai 18 func10 rfl rfl rfl rfl ?_
 intro _ hret
 refine aU ?_
 intro _ _ B1 _ ex
 replace E := E.ext ex
 refine au 9 ?_
 refine aR (aQ rfl) rfl (fun q0 => ?_) (fun q0 => ?_)
 ·refine aU ?_
  refine df 7 rfl rfl func33 rfl rfl rfl (vP (s := 1) _ (HL.ext E)) rfl ?_
  rintro e _ ⟨rfl, ex⟩
  obtain ⟨E,B1⟩ := ba ex E B1
  refine au 2 ?_
  refine aR (aQ rfl) rfl (fun q1 => ?_) (fun q1 => ?_)
  ·refine aU ?_
   refine hret rfl ?_
   exact ⟨cV ⟨fun h => ⟨by omega, q1, by omega⟩, fun h => by have := h.2.2; omega⟩, E⟩
  ·refine aU ?_
   refine hret rfl ?_
   exact ⟨aI fun h => q1 h.2.1, E⟩
 ·refine aU ?_
  refine hret rfl ?_
  exact ⟨aI fun h => q0 (by rw [← la, h.1]; rfl), E⟩
end
end
section
open Go.ChangeShapes Go.WideShapes Go.ChangeAt Go.RowKit
section
variable {H : Type} {enc : TypeId × Value → H} {W : World} {base : Nat} {spare : Nat → Bool} {held : Bool}
theorem CD {fuel : Nat} {cs : List Value} {x : DataW H × List MemPlace} (h : DataW.trod enc Tryz.prog W base spare held fuel 29 cs = some x) :
  cs.length = 8 ∧ ∃ (i h0 h1 h2 h4 h5 g : Hd) (p : Pack), (∀ k, k < 8 → cs[k]? = (fv i h0 h1 h2 p.leaf.src h4 h5 g)[k]?) ∧ p.leaf.src < 256 ∧ kP W i p.init ∧ kP W h0 p.leaf.box ∧ kP W h1 p.leaf.sign ∧ kP W h2 p.leaf.ident ∧ kP W h4 p.leaf.parent ∧ kP W h5 p.leaf.sig ∧ kP W g p.sig := by
 obtain ⟨Vw, hl, hfs⟩ := trod_struct Tryz.underlying29 h
 have hc : Tryz.prog.cellsOf 29 = 8 := by kernel_rfl
 rw [hc] at hl
 have c1 : Tryz.prog.cellsOf 23 = 1 := by kernel_rfl
 have c2 : Tryz.prog.cellsOf 27 = 6 := by kernel_rfl
 obtain ⟨y0, t0⟩ := hfs 0 _ rfl
 obtain ⟨y1, t1⟩ := hfs 1 _ rfl
 obtain ⟨y2, t2⟩ := hfs 2 _ rfl
 obtain ⟨A0, n0, k0, x0, e0, d0, _⟩ := ic t0
 obtain ⟨_, h0, h1, h2, h4, h5, l, hcs, hs, b0, b1, b2, b4, b5⟩ := CF t1
 obtain ⟨A2, n2, k2, x2, e2, d2, _⟩ := ic t2
 have q0 := ny (i := 0) c1 e0
 have q2 := ny (i := 7) c1 e2
 refine ⟨hl, ⟨A0, n0, k0⟩, h0, h1, h2, h4, h5, ⟨A2, n2, k2⟩, ⟨x0, l, x2⟩, fun k hk => ?_, hs, d0, b0.1, b1.1, b2.1, b4.1, b5.1, d2⟩
 match k with
 | 0 => exact q0
 | 1 => exact mn (o := 1) (i := 0) (show 0 < Tryz.prog.cellsOf 27 by rw [c2]; omega) (hcs 0 Om)
 | 2 => exact mn (o := 1) (i := 1) (show 1 < Tryz.prog.cellsOf 27 by rw [c2]; omega) (hcs 1 Om)
 | 3 => exact mn (o := 1) (i := 2) (show 2 < Tryz.prog.cellsOf 27 by rw [c2]; omega) (hcs 2 Om)
 | 4 => exact mn (o := 1) (i := 3) (show 3 < Tryz.prog.cellsOf 27 by rw [c2]; omega) (hcs 3 Om)
 | 5 => exact mn (o := 1) (i := 4) (show 4 < Tryz.prog.cellsOf 27 by rw [c2]; omega) (hcs 4 Om)
 | 6 => exact mn (o := 1) (i := 5) (show 5 < Tryz.prog.cellsOf 27 by rw [c2]; omega) (hcs 5 Om)
 | 7 => exact q2
 | k + 8 => omega
theorem Bz {v : Value} {d : DataW H} {p : List MemPlace} (h : DataW.Trod enc Tryz.prog W base spare held 29 v d p) : ∃ cs x, v = .agg cs ∧ dd W cs x := by
 obtain ⟨fuel, hf⟩ := h
 obtain ⟨hl, i, h0, h1, h2, h4, h5, g, q, hcs, hs, a, b0, b1, b2, b4, b5, c⟩ := CD hf
 have e : v.cells.toList = (fv i h0 h1 h2 q.leaf.src h4 h5 g).toList := by
  apply List.ext_getElem?
  intro k
  by_cases hk : k < 8
  ·rw [hcs k hk, Array.getElem?_toList]
  ·rw [List.getElem?_eq_none Om, List.getElem?_eq_none (show 8 ≤ k by omega)]
 exact ⟨_, q, Ep e (show 8 ≠ 1 by omega), i, h0, h1, h2, h4, h5, g, rfl, hs, a, b0, b1, b2, b4, b5, c⟩
end
end
section
open Go.RowKit Tryz
attribute [local irreducible] Y Ef WL WC WK WQ WM cE WN WF dc
open Nd
def Pack.Small (p : Pack) : Prop := p.init.length ≤ 100 ∧ p.sig.length ≤ 100 ∧ (⟨0, p.leaf, AW.zero⟩ : Node).Small
instance (p : Pack) : Decidable p.Small := by unfold Pack.Small; infer_instance
def fA.Small (p : fA) : Prop := p.pack.Small ∧ (⟨0, p.leaf, AW.zero⟩ : Node).Small
instance (p : fA) : Decidable p.Small := by unfold fA.Small; infer_instance
theorem Pack.Small.fit {p : Pack} (h : p.Small) : p.Fit := ⟨by have := h.1; omega, h.2.2.fit.1, by have := h.2.1; omega⟩
section
variable {cs : Array Value} {p : Pack} {q : fA}
theorem CK (z : Int) (w : World) : Ct 183 #[.int .i64 z] w fun e w' => e = .returned (.bool (decide (0 ≤ z ∧ z ≤ 65535))) ∧ Ext w w' := by
 have E := Ext.refl w
 refine ai 9 func183 rfl rfl rfl rfl ?_
 intro _ hret
 refine au 9 ?_
 refine aR (aQ rfl) rfl (fun q0 => ?_) (fun q0 => ?_)
 ·refine aU ?_
  refine hret rfl ?_
  exact ⟨cV ⟨fun h => by omega, fun h => by omega⟩, E⟩
 ·refine aU ?_
  refine hret rfl ?_
  exact ⟨aI fun h => by omega, E⟩
theorem rU (w : World) (H : dd w cs p) :
  Ct 9 #[.agg cs] w fun e w' => e = .returned (.bool (decide p.Small)) ∧ Ext w w' := by
 have HL := H.leaf
 obtain ⟨i, h0, h1, h2, h4, h5, g, rfl, hs, a, b0, b1, b2, b4, b5, c⟩ := H
 have XL : qY w (Gl 0 h0 h1 h2 p.leaf.src h4 h5 an an an) ⟨0, p.leaf, AW.zero⟩ := ⟨h0, h1, h2, h4, h5, an, an, an, rfl, (show 0 < 256 by omega), hs, b0, b1, b2, b4, b5, Bs.nil w none, Bs.nil w none, Zs.nil w none⟩
 have la := a.1; have lc := c.1
 have E := Ext.refl w
 refine ai 19 func9 rfl rfl rfl rfl ?_
 intro _ hret
 refine aU ?_
 intro _ _ _ _ ex
 replace E := E.ext ex
 refine au 9 ?_
 refine aR (aQ rfl) rfl (fun q0 => ?_) (fun q0 => ?_)
 ·refine au 5 ?_
  refine aR (aQ rfl) rfl (fun q1 => ?_) (fun q1 => ?_)
  ·refine au 2 ?_
   refine gE 13 (aq rfl (cells := Gl 0 h0 h1 h2 p.leaf.src h4 h5 an an an) Kr) ?_
   refine df 13 rfl rfl func32 rfl rfl rfl (Da _ (XL.ext E)) rfl ?_
   rintro e _ ⟨rfl, ex⟩
   replace E := E.ext ex
   refine aU ?_
   refine hret rfl ?_
   exact ⟨cV ⟨fun h => ⟨by omega, by omega, h⟩, fun h => h.2.2⟩, E⟩
  ·refine aU ?_
   refine hret rfl ?_
   exact ⟨aI fun h => by have := h.2.1; omega, E⟩
 ·refine aU ?_
  refine hret rfl ?_
  exact ⟨aI fun h => by have := h.1; omega, E⟩
end
end
end Go.Proofs.YtgfafidlkldeaaaGreat
