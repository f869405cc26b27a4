/- Two answers held against each other; the law WelcomeRaw. No conditions: contracts of functions. -/
import Derived.Test.YtgfafidlkldeaaaGreatWlE
import Derived.Test.YtgfafidlkldeaaaGreatSecE
import Derived.Test.YtgfafidlkldeaaaGreatAu
import Derived.Test.YtgfafidlkldeaaaGreatMsZ
set_option linter.unusedVariables false
set_option linter.unusedSimpArgs false
set_option maxHeartbeats 4000000
set_option maxRecDepth 4000
namespace Go.Proofs.YtgfafidlkldeaaaGreat
section
open Go.RowKit Tryz
attribute [local irreducible] Y Ef WL WC WK WQ WM cE WN WF dc WJ gJ WR xF
open Wire Nd Hk
theorem CE {α : Type} (p : α → Bool) (l : List α) (k : Nat) (x : α) (hx : l[k]? = some x) : (l.drop k).find? p = if p x = true then some x else (l.drop (k + 1)).find? p := by
 obtain ⟨hk, hx⟩ := List.getElem?_eq_some_iff.1 hx
 rw [List.drop_eq_getElem_cons hk, hx]
 by_cases h : p x = true
 ·rw [List.find?_cons_of_pos h, if_pos h]
 ·rw [List.find?_cons_of_neg h, if_neg h]
def Oy (p : mx → Bool) (l : List mx) (k : Nat) (z : Int) : Prop := (z = -1 ∧ (l.drop k).find? p = none) ∨ ∃ (j : Nat) (g : mx), z = (j : Int) ∧ l[j]? = some g ∧ (l.drop k).find? p = some g
theorem Oy.step {p : mx → Bool} {l : List mx} {k : Nat} {z : Int} {g : mx} (hg : l[k]? = some g) (H : Oy p l (k + 1) z) : Oy p l k (if p g = true then (k : Int) else z) := by
 have e := CE p l k g hg
 by_cases h : p g = true
 ·rw [if_pos h] at e ⊢
  exact .inr ⟨k, g, rfl, hg, e⟩
 ·rw [if_neg h] at e ⊢
  rcases H with ⟨h1, h2⟩ | ⟨j, g', h1, h2, h3⟩
  ·exact .inl ⟨h1, e.trans h2⟩
  ·exact .inr ⟨j, g', h1, h2, e.trans h3⟩
theorem Bv {w : World} {a b c d e f g h i j k l : Hd} {s : List (List UInt8)} (H : cP w (xZ a b c d e f g h i j k l) s) : Bs w i.A i.n (s.getD 8 []) := by
 obtain ⟨A, n, q, h1, h2⟩ := H.get (i := 8) Om
 have Vw : some (Value.slice i.A i.n i.c) = some (.slice A n q) := h1
 injection Vw with Vw
 injection Vw with e1 e2 _
 rw [e1, e2]; exact h2
theorem lk {cs ds es : Array Value} {x : kX} {p : Pack} {ini b1 b2 : Lb} (w : World) (HW : gF w cs x) (hx : x.Small) (HP : dd w ds p) (hp : p.Small) (HK : so w es ini b1 b2) (hini : ini.length ≤ 100) :
  Ct 13 #[.agg cs, .agg ds, .agg es] w fun e w' => ∃ cs', e = .returned (.tuple #[.agg cs', .int .i64 (((bN x p ini).2 : Nat) : Int)]) ∧ ew w' cs' (bN x p ini).1 ∧ Ext w w' := by
 have Wg := HW
 obtain ⟨h0, h1, rfl, a0, a1, ac⟩ := Wg
 have Wh := HP
 obtain ⟨i, p0, p1, p2, p4, p5, pg, rfl, hsrc, _⟩ := Wh
 have Wi := HK
 obtain ⟨k0, k1, k2, rfl, VY, W0, W3⟩ := Wi
 have W4 := VY.1
 have W5 := a0.1
 have W6 := a1.1
 obtain ⟨W7, VZ, W8⟩ := hx
 obtain ⟨pr, hpr⟩ : ∃ pr : mx → Bool, pr = fun g => decide (g.ref = ij p) := ⟨_, rfl⟩
 have F := aA.refl [] w
 refine dn (s := 20) 128 func13 rfl rfl rfl underlying46 rfl Kr rfl ?_
 intro _ hret
 refine aU ?_
 intro _ Wj B3 _ ex
 have W9 := B3.lt
 replace F := F.ext ex
 refine aU ?_
 intro _ _ B4 _ ex
 have Xa := B4.lt
 obtain ⟨F,B3⟩ := ba ex F B3
 refine aU ?_
 intro _ Wk B5 _ ex
 have Xb := B5.lt
 obtain ⟨F,B3,B4⟩ := bC ex F B3 B4
 refine aU ?_
 intro _ Vz B6 VA ex
 replace F := F.grow ex VA
 replace B3 := B3.grow ex VA
 replace B4 := B4.grow ex VA
 replace B5 := B5.grow ex VA
 refine aU ?_
 have X1 := F.aD So
 refine aB func10 rfl (sX _ (HP.ext X1)) ?_
 rintro e _ ⟨rfl, ex⟩
 obtain ⟨F,B3,B4,B5,B6⟩ := er ex F B3 B4 B5 B6
 refine aU ?_
 refine bA rfl (fun VM => ?_) (fun VM => ?_)
 ·have hno : ¬ dt p := by simpa using VM
  refine au 2 ?_
  refine ak (aq rfl (cells := cC) Kr) ?_
  refine aU ?_
  intro _ D cg
  have ex := aA.one cg
  clear cg
  replace F := F.bo ex
  replace B6 := D; clear D
  replace B6 := B6.congr (cs' := cC) rfl
  refine aU ?_
  refine hret rfl rfl B6 rfl ?_
  rw [qB hno]; exact ⟨cC, rfl, ew.zero _, F.aD So⟩
 ·have okp : dt p := by simpa using VM
  have X3 := F.aD So
  have hwo := qv (x := x) (ini := ini) okp
  rw [← hpr] at hwo
  refine aU ?_
  refine aB func11 rfl (rI _ (HP.ext X3) hp) ?_
  rintro e w2 ⟨A8, c8, rfl, H8, ex⟩
  obtain ⟨F,B3,B5,B6⟩ := bO ex F B3 B5 B6
  have KN := fQ (S := [Vz]) H8 (bU B6 rfl dP)
  refine aU ?_
  refine az (fun n' L wr => ∃ (k : Nat) (z : Int), L = [(3, .pointer (some ⟨Wj, 0, none⟩)), (5, .pointer (some ⟨Wk, 0, none⟩)), (6, .pointer (some ⟨Vz, 0, none⟩)), (8, .slice A8 32 c8), (9, .int .i64 z), (10, .int .i64 ((k : Int) - 1))] ∧ n' = 1 + k ∧ (k ≤ h0.n ∧ Ext w2 wr ∧ Oy pr x.guests k z ∧ -1 ≤ z)) _ _ ⟨h0.n, -1, rfl, rfl, Nat.le_refl _, Ext.refl _, .inl ⟨rfl, (by rw [List.drop_of_length_le Om]; rfl)⟩, by omega⟩ Ls ?_
  rintro _ n' L wr ⟨k, z, rfl, rfl, _, XE, hF, Wl⟩ V0
  obtain ⟨B3,B5,B6,F,KN⟩ := er XE B3 B5 B6 F KN
  refine aU ?_
  refine al rfl (fun Wm => ?_) (fun Wm => ?_)
  ·obtain ⟨b1, o1, Wn, y, e1, _, hx, hcz, hR, hcx⟩ := (a0.ext (F.aD So) (fun _ _ h => fK.ext h (F.aD So))).JK Om (i := k - 1) Om
   obtain ⟨⟨f0, f1, f2, rfl, V4, V5, V6⟩, VN⟩ := hR
   have q2 : f2.n ≤ f2.c := VN _ _ _ rfl
   have v0 : Bs _ f0.A f0.n y.ref := V4
   have hy := (VZ y (List.mem_of_getElem? hx)).1
   have Xc := v0.1
   have hkk : k - 1 + 1 = k := by omega
   have hst := Oy.step hx (by rw [hkk]; exact hF)
   refine au 9 ?_
   refine ak (mg (s := 3) (j := k - 1) e1 rfl rfl Tn.u Kr Om Om) ?_
   refine au 1 ?_
   refine ak (af rfl Tn.u rfl (hcx 0 _ rfl)) ?_
   refine aU ?_
   refine aB func26 rfl (km v0 KN.out Om Om) ?_
   rintro e w5 ⟨rfl, ex⟩
   replace XE := XE.ext ex
   refine aU ?_
   refine al rfl (fun VO => ?_) (fun VO => ?_)
   ·have hpt : pr y = true := by rw [hpr]; exact decide_eq_true VO
    rw [if_pos hpt] at hst
    refine au 11 ?_
    refine ae ?_
    refine V0 _ _ ⟨k - 1, (k : Int) - 1, rfl, rfl, by omega, XE, (by rw [show ((k : Int) - 1) = ((k - 1 : Nat) : Int) by omega]; exact hst), by omega⟩ Om Ls
   ·refine au 8 ?_
    refine ae ?_
    refine V0 _ _ ⟨k - 1, z, rfl, rfl, by omega, XE, (by rw [if_neg (show ¬ pr y = true from by rw [hpr]; simpa using VO)] at hst; exact hst), Wl⟩ Om Ls
  ·obtain rfl : k = 0 := by omega
   refine aU ?_
   refine al rfl (fun Wo => ?_) (fun Wo => ?_)
   ·have hnone : x.guests.find? pr = none := by
     rcases hF with ⟨_, h⟩ | ⟨j, g, h1, _⟩
     ·exact h
     ·omega
    have Wq : bN x p ini = (iy.zero, 7) := by rw [hwo, hnone]; rfl
    refine au 2 ?_
    refine ak (aq rfl (cells := cC) Kr) ?_
    refine aU ?_
    intro _ D cg
    have ex := aA.one cg
    clear cg
    replace F := F.bo ex
    replace B6 := D; clear D
    replace B6 := B6.congr (cs' := cC) rfl
    refine aU ?_
    refine hret rfl rfl B6 rfl ?_
    rw [Wq]; exact ⟨cC, rfl, ew.zero _, F.aD So⟩
   ·refine aU ?_
    refine aC Kr 24 rfl ?_; intro Wr ex Ws
    obtain ⟨B3,B5,B6,F⟩ := bO ex B3 B5 B6 F
    obtain ⟨j, gg, rfl, hj, hfd⟩ : ∃ (j : Nat) (g : mx), z = (j : Int) ∧ x.guests[j]? = some g ∧ x.guests.find? pr = some g := by
     rcases hF with ⟨h, _⟩ | h
     ·omega
     ·exact h
    have hwb : bN x p ini = pe x ini gg := by rw [hwo, hfd]; rfl
    have VI := F.aD So
    have hjn : j < h0.n := by have := (List.getElem?_eq_some_iff.1 hj).1; omega
    obtain ⟨b1, o1, Wn, y, e1, _, V7, hcz, hR, hcx⟩ := (a0.ext VI (fun _ _ h => fK.ext h VI)).JK Om (i := j) hjn
    obtain rfl : gg = y := by rw [hj] at V7; injection V7
    obtain ⟨⟨f0, f1, f2, rfl, V4, V5, V6⟩, VN⟩ := hR
    have q2 : f2.n ≤ f2.c := VN _ _ _ rfl
    have v1 : Bs _ f1.A f1.n gg.enc := V5
    have v2 : Bs _ f2.A f2.n gg.box := V6
    have hgs := VZ gg (List.mem_of_getElem? hj)
    have lga := v1.1
    have lgb := v2.1
    have V8 := hgs.2.2
    refine zm [0, 1, 2, 3, 4] ?_
    refine my 5 rfl (mg (s := 3) (j := j) e1 rfl rfl Tn.u Kr rfl hjn) ?_
    refine zm [6, 7] ?_
    refine my 8 rfl (af rfl Tn.u rfl (hcx 1 _ rfl)) ?_
    refine zm [9, 10, 11, 12, 13] ?_
    refine my 14 rfl (mg (s := 3) (j := j) e1 rfl rfl Tn.u Kr rfl hjn) ?_
    refine zm [15, 16] ?_
    refine my 17 rfl (af rfl Tn.u rfl (hcx 2 _ rfl)) ?_
    refine bD 18 rfl func38 rfl (qw k0.A f1.A h1.A f2.A mJ k0.n k0.c f1.n f1.c h1.n h1.c f2.n f2.c ini gg.enc x.info gg.box _ sk (Bs.ext VY VI) Om v1 (by have := hgs.2.1; omega) (Bs.ext a1 VI) Om v2 Om q2) ?_
    rintro e _ ⟨_, _, _, rfl, VF, _, VP, _, ex⟩
    obtain ⟨B3,B6,F⟩ := bC ex B3 B6 F
    refine zm [19, 20, 21, 22, 23] ?_
    refine al rfl (fun Wv => ?_) (fun Wv => ?_)
    ·have e9 : bN x p ini = (iy.zero, (op ini gg.enc (Hk.info mJ x.info) gg.box []).2) := hwb.trans (show pe x ini gg = _ from by unfold pe; rw [if_pos Om])
     refine au 2 ?_
     refine ak (aq rfl (cells := cC) Kr) ?_
     refine aU ?_
     intro _ D cg
     have ex := aA.one cg
     clear cg
     replace F := F.bo ex
     replace B6 := D; clear D
     replace B6 := B6.congr (cs' := cC) rfl
     refine aU ?_
     refine hret rfl rfl B6 rfl ?_
     rw [e9]; exact ⟨cC, rfl, ew.zero _, F.aD So⟩
    ·have VQ : bN x p ini = oT x (op ini gg.enc (Hk.info mJ x.info) gg.box []).1 := hwb.trans (show pe x ini gg = _ from by unfold pe; rw [if_neg Om])
     obtain ⟨tx, htx⟩ : ∃ t, t = (op ini gg.enc (Hk.info mJ x.info) gg.box []).1 := ⟨_, rfl⟩
     rw [← htx] at VQ VF
     refine aU ?_
     refine aB func46 rfl (ql _ VF VP Om) ?_
     rintro e _ ⟨hq, hy, rfl, Sj, Sy, ex⟩
     obtain ⟨B3,B6,F,VF⟩ := bO ex B3 B6 F VF
     have Hj := Sj _ VF; have Hy := Sy _ VF; have Kj := fQ (S := [Vz]) Hj (bU B6 rfl dP); have Ky := fQ (S := [Vz]) Hy (bU B6 rfl dP); have lj := Hj.1; have ly := Hy.1
     refine aU ?_
     refine al rfl (fun Ww => ?_) (fun Ww => ?_)
     ·have Wx : bN x p ini = (iy.zero, (M20.bJ tx).2) := by rw [VQ]; unfold oT; rw [if_pos Om]
      refine au 2 ?_
      refine ak (aq rfl (cells := cC) Kr) ?_
      refine aU ?_
      intro _ D cg
      have ex := aA.one cg
      clear cg
      replace F := F.bo ex
      replace B6 := D; clear D
      replace B6 := B6.congr (cs' := cC) rfl
      refine aU ?_
      refine hret rfl rfl B6 rfl ?_
      rw [Wx]; exact ⟨cC, rfl, ew.zero _, F.aD So⟩
     ·have V9 : bN x p ini = Bt x (M20.bJ tx).1.1 (M20.bJ tx).1.2.2 := by rw [VQ]; unfold oT; rw [if_neg Om]
      have hok := xN (t := tx) Om
      obtain ⟨jj, hjj⟩ : ∃ j, j = (M20.bJ tx).1.1 := ⟨_, rfl⟩
      obtain ⟨yy, hyy⟩ : ∃ y, y = (M20.bJ tx).1.2.2 := ⟨_, rfl⟩
      rw [← hjj, ← hyy] at V9 hok
      rw [← hjj] at Kj lj
      rw [← hyy] at Ky ly
      have Wy := hok.1
      obtain ⟨oo, hoo⟩ : ∃ o, o = Gm.xH (Kdf.label (kE jj) yi.data.toList [] 16) (Kdf.label (kE jj) mf.data.toList [] 12) x.info [] := ⟨_, rfl⟩
      have VG : bN x p ini = Ny x jj yy oo := by rw [V9]; unfold Bt; rw [← hoo]
      refine aU ?_
      refine aB func48 rfl (kg hq.A hq.n hq.c jj _ Kj.out Om) ?_
      rintro e w5 ⟨Wz, WA, rfl, WB, ex⟩
      obtain ⟨B3,B6,F,Kj,Ky⟩ := er ex B3 B6 F Kj Ky
      refine aU ?_
      refine aB func47 rfl (fy Wz none 32 WA 0 0 32 ib _ [] _ WB Om (by decide) (Bs.nil _ _) Om Om) ?_
      rintro e _ ⟨VR, Wa, rfl, VC, ex⟩
      obtain ⟨B3,B6,F,Kj,Ky⟩ := er ex B3 B6 F Kj Ky
      replace VC : Bs _ VR 32 (kE jj) := VC
      refine aU ?_
      refine aC Kr 12 rfl ?_; intro WD ex WE
      obtain ⟨B3,B6,F,Kj,Ky,VC⟩ := iP ex B3 B6 F Kj Ky VC
      refine zm [0, 2, 4, 5] ?_
      refine bD 1 rfl func47 rfl (fy VR none 32 Wa 0 0 16 yi _ [] _ VC Om (by decide) (Bs.nil _ _) Om Om) ?_
      rintro e w7 ⟨_, _, rfl, VS, ex⟩
      obtain ⟨B6,F,Kj,Ky,VC⟩ := er ex B6 F Kj Ky VC
      refine aU ?_
      refine bD 3 rfl func47 rfl (fy VR none 32 Wa 0 0 12 mf _ [] _ VC Om (by decide) (Bs.nil _ _) Om Om) ?_
      rintro e w7 ⟨_, _, rfl, WG, ex⟩
      obtain ⟨B6,F,Kj,Ky,VS⟩ := er ex B6 F Kj Ky VS
      refine aU ?_
      have WH := F.aD So
      refine bD 6 rfl func42 rfl (nV _ VS WG (Bs.ext a1 WH) Om ac (Bs.nil _ none) (Nat.zero_le _) (Nat.zero_le _)) ?_
      rintro e w8 ⟨_, WI, _, rfl, VD, ex⟩
      refine au 1 ?_
      obtain ⟨B6,F,Kj,Ky⟩ := bO ex B6 F Kj Ky
      rw [← hoo] at VD ⊢
      refine C8 [7, 8, 9, 10, 11] ?_
      refine au 11 ?_
      by_cases hsp : oo = none
      ·subst hsp
       refine au 5 ?_
       refine bR rfl rfl ?_
       refine au 2 ?_
       refine ak (aq rfl (cells := cC) Kr) ?_
       refine aU ?_
       intro _ D cg
       have ex := aA.one cg
       clear cg
       replace F := F.bo ex
       replace B6 := D; clear D
       replace B6 := B6.congr (cs' := cC) rfl
       refine aU ?_
       refine hret rfl rfl B6 rfl ?_
       rw [VG]; exact ⟨cC, rfl, ew.zero _, F.aD So⟩
      ·obtain ⟨tt, rfl⟩ : ∃ t, oo = some t := by
        cases oo with
        | none => exact absurd rfl hsp
        | some t => exact ⟨t, rfl⟩
       replace VD : Row _ _ _ _ _ _ (tt.map bv) := VD
       refine au 5 ?_
       refine aX rfl rfl ?_
       have Xd := VD.bs.1
       have Wb : bN x p ini = mO x jj yy tt := VG
       have VT : WI ≤ 10000 := by
        have := zA (Eq.symm hoo)
        omega
       refine aU ?_
       refine aB func49 rfl (uX _ VD.bs VD.cap VT) ?_
       rintro e w8 ⟨_, rfl, HI, ex⟩
       obtain ⟨B6,F,Kj,Ky⟩ := bO ex B6 F Kj Ky
       have RB := VD.bs.ext ex; obtain ⟨i0, i1, i2, i3, i4, rfl, hep, hfz, q0, q1, q2, q3, q4⟩ := HI; have Wc : ir w8 (pq i0 (M20.cW tt).1.ctx.ep i1 i2 i3 (M20.cW tt).1.frm i4) (M20.cW tt).1 := ⟨i0, i1, i2, i3, i4, rfl, hep, hfz, q0 _ RB, q1 _ RB, q2 _ RB, q3 _ RB, q4 _ RB⟩; have KI := Ak (S := [Vz]) Wc (bU B6 rfl dP); have KT := fQ (S := [Vz]) (q3 _ RB) (bU B6 rfl dP); have KU := fQ (S := [Vz]) (q2 _ RB) (bU B6 rfl dP); clear Wc q0 q1 q2 q3 q4
       refine aU ?_
       intro _ VE Vy Vx ex
       have VU : Vz < VE := Nat.lt_of_lt_of_le B6.lt Vx
       replace B6 := B6.grow ex Vx
       replace F := F.grow ex Vx
       replace Kj := Kj.grow ex Vx
       replace Ky := Ky.grow ex Vx
       replace KI := KI.grow ex Vx
       replace KT := KT.grow ex Vx
       replace KU := KU.grow ex Vx
       refine aU ?_
       intro _ D cg
       have ex := aA.one cg
       clear cg
       obtain ⟨B6,F,Kj,Ky,KI,KT,KU⟩ := Ks ex B6 F Kj Ky KI KT KU
       replace Vy := D; clear D
       replace Vy := Vy.congr (cs' := pq i0 (M20.cW tt).1.ctx.ep i1 i2 i3 (M20.cW tt).1.frm i4) rfl
       refine aU ?_
       refine al rfl (fun WO => ?_) (fun WO => ?_)
       ·have WS : bN x p ini = (iy.zero, (M20.cW tt).2) := by rw [Wb]; unfold mO; rw [if_pos Om]
        refine au 2 ?_
        refine ak (aq rfl (cells := cC) Kr) ?_
        refine aU ?_
        intro _ D cg
        have ex := aA.one cg
        clear cg
        replace F := F.bo ex
        replace B6 := D; clear D
        replace B6 := B6.congr (cs' := cC) rfl
        refine aU ?_
        refine hret rfl rfl B6 rfl ?_
        rw [WS]; exact ⟨cC, rfl, ew.zero _, F.aD So⟩
       ·have hz : (M20.cW tt).2 = 0 := by omega
        have hoi := Ga hz
        obtain ⟨ii, hii⟩ : ∃ i, i = (M20.cW tt).1 := ⟨_, rfl⟩
        rw [← hii] at hoi KI Vy hep KT KU
        have hsm := oH hoi hep
        have We : bN x p ini = if ii.tag ≠ Mac.tag ((bJ jj ii.ctx).getD 8 []) ii.ctx.trans then (iy.zero, 16) else (⟨ii, bJ jj ii.ctx, yy⟩, 0) := by rw [Wb]; unfold mO; rw [if_neg Om, ← hii]
        refine aU ?_
        refine aB func17 rfl (FP hq.A hq.n hq.c jj _ ii.ctx _ Kj.out Om (j8.ctx KI.out).at hsm) ?_
        rintro e _ ⟨_, rfl, VV, ex⟩
        obtain ⟨B6,F,Ky,KI,KT,KU,Vy⟩ := iQ ex B6 F Ky KI KT KU Vy
        obtain ⟨s0, s1, s2, s3, s4, s5, s6, s7, s8, s9, VJ, VK, rfl⟩ := VV.form; have KS := Bf (S := [VE, Vz]) VV (bU Vy rfl (bU B6 rfl dP)); clear VV
        refine aU ?_
        intro _ VH VB Vw ex
        have VW : Vz < VH := Nat.lt_of_lt_of_le B6.lt Vw
        have VL : VE < VH := Nat.lt_of_lt_of_le Vy.lt Vw
        replace B6 := B6.grow ex Vw
        replace F := F.grow ex Vw
        replace Ky := Ky.grow ex Vw
        replace KI := KI.grow ex Vw
        replace KT := KT.grow ex Vw
        replace KU := KU.grow ex Vw
        replace Vy := Vy.grow ex Vw
        replace KS := KS.grow ex Vw
        refine aU ?_
        intro _ D cg
        have ex := aA.one cg
        clear cg
        obtain ⟨B6,F,Ky,KI,KT,KU,Vy,KS⟩ := Ig ex B6 F Ky KI KT KU Vy KS
        replace VB := D; clear D
        replace VB := VB.congr (cs' := xZ s0 s1 s2 s3 s4 s5 s6 s7 s8 s9 VJ VK) rfl
        refine aU ?_
        refine aC Kr 10 rfl ?_; intro WT ex WU
        obtain ⟨B6,F,Ky,KI,KT,KU,Vy,KS,VB⟩ := rA ex B6 F Ky KI KT KU Vy KS VB
        refine zm [0, 1, 2, 3, 4, 5, 6] ?_
        have l3 := KT.out.1
        have Xe := KU.out.1
        have Xf := hoi.2.2.2.1
        have Xg := hoi.2.2.1
        have Wf := Bv KS.out
        have l8 := Wf.1
        rw [oN] at l8
        refine bD 7 rfl func18 rfl (lr s8.A i2.A s8.n s8.c i2.n i2.c _ ii.ctx.trans _ Wf Om KU.out Om) ?_
        rintro e _ ⟨_, WV, rfl, WW, ex⟩
        refine aU ?_
        obtain ⟨B6,F,Ky,KI,KT,Vy,KS,VB⟩ := Kw ex B6 F Ky KI KT Vy KS VB
        have WX := WW.bs
        refine bD 8 rfl func26 rfl (km (c := i3.c) (d := WV) KT.out WX Om Om) ?_
        rintro e _ ⟨rfl, ex⟩
        obtain ⟨B6,F,Ky,KI,Vy,KS,VB⟩ := iQ ex B6 F Ky KI Vy KS VB
        refine zm [9] ?_
        refine bA rfl (fun VX => ?_) (fun VX => ?_)
        ·have hne : ii.tag ≠ Mac.tag ((bJ jj ii.ctx).getD 8 []) ii.ctx.trans := by simpa using VX
         have WY : bN x p ini = (iy.zero, 16) := We.trans (if_pos hne)
         refine au 2 ?_
         refine ak (aq rfl (cells := cC) Kr) ?_
         refine aU ?_
         intro _ D cg
         have ex := aA.one cg
         clear cg
         replace F := F.bo ex
         replace B6 := D; clear D
         replace B6 := B6.congr (cs' := cC) rfl
         refine aU ?_
         refine hret rfl rfl B6 rfl ?_
         rw [WY]; exact ⟨cC, rfl, ew.zero _, F.aD So⟩
        ·have heq : ¬ ii.tag ≠ Mac.tag ((bJ jj ii.ctx).getD 8 []) ii.ctx.trans := by simpa using VX
         have WZ : bN x p ini = (⟨ii, bJ jj ii.ctx, yy⟩, 0) := We.trans (if_neg heq)
         refine au 7 ?_
         refine ak (aq rfl (cells := mV i0 ii.ctx.ep i1 i2 i3 ii.frm i4 s0 s1 s2 s3 s4 s5 s6 s7 s8 s9 VJ VK hy) Kr) ?_
         refine aU ?_
         intro _ D cg
         have ex := aA.one cg
         clear cg
         obtain ⟨F,Ky,KI,KS⟩ := dj ex F Ky KI KS
         replace B6 := D; clear D
         replace B6 := B6.congr (cs' := mV i0 ii.ctx.ep i1 i2 i3 ii.frm i4 s0 s1 s2 s3 s4 s5 s6 s7 s8 s9 VJ VK hy) rfl
         refine aU ?_
         refine hret rfl rfl B6 rfl ?_
         rw [WZ]; exact ⟨_, rfl, ⟨i0, i1, i2, i3, i4, s0, s1, s2, s3, s4, s5, s6, s7, s8, s9, VJ, VK, hy, rfl, KI.out, KS.out, Ky.out⟩, F.aD So⟩
end
section
open Go.RowKit Tryz
attribute [local irreducible] Y Ef WL WC WK WQ WM cE WN WF dc WJ gJ WR xF
open Wire Nd Hk
theorem zU (w : World) : gF w (jZ an an) kX.zero := ⟨an, an, rfl, ⟨rfl, [], rfl, .inl rfl, fun i x h => by cases h⟩, Bs.nil _ _, Nat.le_refl _⟩
theorem qt : kX.zero.Small := ⟨by decide, (fun g h => by cases h), by decide⟩
theorem Em : ¬ dt Pack.zero := by decide
theorem xv : Pack.zero.Small := by refine ⟨by decide, by decide, ?_⟩; decide
theorem Hi (w : World) : dd w (fv an an an an 0 an an an) Pack.zero := ⟨an, an, an, an, an, an, an, rfl, by decide, Bs.nil _ _, Bs.nil _ _, Bs.nil _ _, Bs.nil _ _, Bs.nil _ _, Bs.nil _ _, Bs.nil _ _⟩
theorem zH {p : Pack} {ini : Lb} (h : dt p) : bN kX.zero p ini = (iy.zero, 7) := by rw [qv h]; rfl
theorem vN (w : World) : Ct 7 #[] w fun e w' => e = .returned (.bool true) ∧ Ext w w' := by
 have F := aA.refl [] w
 refine ai 42 func7 rfl rfl rfl rfl ?_
 intro _ hret
 refine aU ?_
 refine ag (aK (z := .int .u8 0) Tn.u Kr rfl rfl rfl rfl rfl) rfl ?_
 rintro _ _ ⟨_, rfl, D1, _, ex⟩
 replace F := F.ext ex
 have H1 := bw (xs := [1]) (D1.congr rfl) rfl
 refine aB func28 rfl (Co 1 Om _) ?_
 rintro e _ ⟨_, rfl, H2, ex⟩
 refine aU ?_
 replace F := F.ext ex
 have VD := H1.ext ex
 refine aB func27 rfl (CC _ VD Om Om H2) ?_
 rintro e w3 ⟨cs, _, rfl, HP, HK, ex⟩
 replace F := F.ext ex
 have VE := HP; obtain ⟨i, p0, p1, p2, p4, p5, pg, rfl, hsrc, _⟩ := VE; have VF := HK; obtain ⟨k0, k1, k2, rfl, _⟩ := VF; have C3 := aA.refl [] w3; have z3 := F.size
 refine aU ?_
 intro _ VG B1 Vy ex
 have VI := ex.size
 replace F := F.grow ex Vy
 replace C3 := C3.grow ex Vy
 refine aU ?_
 intro _ VA B2 Vw ex
 have VB : VG < VA := Nat.lt_of_lt_of_le B1.lt Vw
 replace F := F.grow ex Vw
 replace C3 := C3.grow ex Vw
 replace B1 := B1.grow ex Vw
 refine aU ?_
 intro _ D cg
 have ex := aA.one cg
 clear cg
 obtain ⟨F,C3,B2⟩ := mv ex F C3 B2
 replace B1 := D; clear D
 replace B1 := B1.congr (cs' := fv i p0 p1 p2 (De [1] (r7 1)).leaf.src p4 p5 pg) rfl
 refine aU ?_
 intro _ D cg
 have ex := aA.one cg
 clear cg
 obtain ⟨F,C3,B1⟩ := mv ex F C3 B1
 replace B2 := D; clear D
 replace B2 := B2.congr (cs' := fN k0 k1 k2) rfl
 refine au 5 ?_
 refine ak (aq rfl (cells := jZ an an) Kr) ?_
 refine aU ?_
 have X2 := C3.aD So
 have okp := Nw (ident := [1]) (r7 1) (by decide) (by decide)
 have hl := oW (DU (r7 1))
 refine aB func12 rfl (gI (cs := jZ an an) _ (zU _) qt (HP.ext X2) (fM okp) (HK.ext X2) Om) ?_
 rintro e _ ⟨_, rfl, G4, _, ex⟩
 refine au 1 ?_
 obtain ⟨F,C3,B2⟩ := bC ex F C3 B2
 rw [zH okp] at G4 ⊢; obtain ⟨_, _, _, _, _, _, _, _, _, _, _, _, _, _, _, _, _, _, rfl, _⟩ := G4; have z4 := F.size
 refine aU ?_
 intro _ VH _ Vx ex
 have VC : VA < VH := Nat.lt_of_lt_of_le B2.lt Vx
 replace F := F.grow ex Vx
 replace C3 := C3.grow ex Vx
 replace B2 := B2.grow ex Vx
 refine aU ?_
 intro _ D cg
 have ex := aA.one cg
 clear cg
 obtain ⟨F,C3,B2⟩ := mv ex F C3 B2
 clear D
 refine au 5 ?_
 refine ak (aq rfl (cells := jZ an an) Kr) ?_
 refine ak (aq rfl (cells := fv an an an an 0 an an an) Kr) ?_
 refine aU ?_
 have X3 := C3.aD So
 refine aB func12 rfl (gI (cs := jZ an an) (ds := fv an an an an 0 an an an) _ (zU _) qt (Hi _) xv (HK.ext X3) Om) ?_
 rintro e _ ⟨_, rfl, G5, _, ex⟩
 refine au 1 ?_
 replace F := F.ext ex
 rw [qB Em] at G5 ⊢; obtain ⟨_, _, _, _, _, _, _, _, _, _, _, _, _, _, _, _, _, _, rfl, _⟩ := G5; have z5 := F.size
 refine aU ?_
 intro _ _ _ Vz ex
 replace F := F.grow ex Vz
 refine aU ?_
 intro _ D cg
 have ex := aA.one cg
 clear cg
 replace F := F.bo ex
 clear D
 refine au 6 ?_
 refine ak (bg rfl Tn.u Tn.u (show _ = (0 : Int) from rfl)) ?_
 refine au 3 ?_
 refine gE 32 (bg rfl Tn.u Tn.u (show _ = (7 : Int) from rfl)) ?_
 refine au 4 ?_
 refine gE 37 (bg rfl Tn.u Tn.u (show _ = (3 : Int) from rfl)) ?_
 refine aU ?_
 refine hret rfl ?_
 exact ⟨rfl, F.aD So⟩
end
section
open Go.RowKit Tryz
attribute [local irreducible] Y Ef WL WC WK WQ WM cE WN WF dc WJ gJ WR xF
open Wire Nd Hk
theorem fK.at {w : World} {cs : Array Value} {x : mx} (h : fK w cs x) : oX w cs x := h.1
theorem gF.at {w : World} {cs : Array Value} {x : kX} (h : gF w cs x) : uW w cs x := by
 obtain ⟨h0, h1, rfl, ⟨hl, vs, h2, h3, h4⟩, b⟩ := h
 exact ⟨h0, h1, rfl, ⟨hl, vs, h2, h3, fun i x hx => fK.at (h4 i x hx)⟩, b.1⟩
def iy.Fit (x : iy) : Prop := x.info.Fit ∧ (∀ s ∈ x.secs, s.length ≤ 1000000) ∧ x.way.length ≤ 1000000
theorem iy.fE : iy.zero.Fit := ⟨⟨by decide, by decide, by decide, by decide, by decide⟩, (fun s hs => by rw [List.eq_of_mem_replicate hs]; exact Nat.zero_le _), Nat.zero_le _⟩
theorem Bx {j : Lb} {c : Ctx} (hj : j.length ≤ 1000000) : ∀ s ∈ bJ j c, s.length ≤ 1000000 := fun s hs => by
 unfold bJ at hs
 simp only [List.cons_append, List.nil_append, List.mem_cons, List.mem_map] at hs
 rcases hs with rfl | rfl | rfl | ⟨i, _, rfl⟩
 ·exact hj
 ·rw [dQ]; omega
 ·unfold rm; rw [dQ]; omega
 ·unfold rl; rw [dQ]; omega
theorem Ca {t : Lb} (ht : t.length ≤ 10000) : (M20.cW t).1.Fit := by
 unfold M20.cW M20.cN
 split
 ·exact iy.fE.1
 ·split
  ·exact I7 (s := .ok t) ht
  ·exact iy.fE.1
theorem lN {x : kX} {p : Pack} {ini : Lb} (hx : x.info.length ≤ 10000) : (bN x p ini).1.Fit := by
  unfold bN
  split
  · exact iy.fE
  cases x.guests.find? fun g => decide (g.ref = ij p) with
  | none => exact iy.fE
  | some g =>
    show (pe x ini g).1.Fit
    unfold pe
    split
    · exact iy.fE
    unfold oT
    split
    · exact iy.fE
    rename_i h1 h2
    have ok := xN (Classical.byContradiction h2)
    unfold Bt
    cases h : Gm.xH (Kdf.label (kE (M20.bJ (op ini g.enc (Hk.info mJ x.info) g.box []).1).1.1) yi.data.toList [] 16) (Kdf.label (kE (M20.bJ (op ini g.enc (Hk.info mJ x.info) g.box []).1).1.1) mf.data.toList [] 12) x.info [] with
    | none => exact iy.fE
    | some t =>
      have ht := zA h
      show (mO x _ _ t).1.Fit
      unfold mO
      split
      · exact iy.fE
      · split
        · exact iy.fE
        · have o1 := ok.1
          have o2 := ok.2
          exact ⟨Ca Om, Bx (by rw [o1]; omega), by show (M20.bJ (op ini g.enc (Hk.info mJ x.info) g.box []).1).1.2.2.length ≤ 1000000; omega⟩
theorem lo {cs ds : Array Value} {x : iy} (w : World) (H : ew w cs x) (K : ew w ds x) (hf : x.Fit) :
  Ct 14 #[.agg cs, .agg ds] w fun e w' => e = .returned (.bool true) ∧ Ext w w' := by
 obtain ⟨i0, i1, i2, i3, i4, s0, s1, s2, s3, s4, s5, s6, s7, s8, s9, Vw, Vx, y, rfl, hI, hS, hY⟩ := H
 obtain ⟨j0, j1, j2, j3, j4, t0, t1, t2, t3, t4, t5, t6, t7, t8, t9, t10, t11, z, rfl, kI, kS, kY⟩ := K
 have E := Ext.refl w
 have ly := hY.1; have lz := kY.1; have h3 := hf.2.2
 refine ai 24 func14 rfl rfl rfl rfl ?_
 intro _ hret
 refine aU ?_
 intro _ _ B2 _ ex
 replace E := E.ext ex
 refine aU ?_
 intro _ _ B3 _ ex
 obtain ⟨E,B2⟩ := ba ex E B2
 refine aU ?_
 refine aB func24 rfl (vR _ (hI.ext E) (kI.ext E) hf.1 hf.1) ?_
 rintro e _ ⟨rfl, ex⟩
 refine au 1 ?_
 obtain ⟨E,B2,B3⟩ := bC ex E B2 B3
 rw [decide_eq_true rfl]
 refine aU ?_
 refine df 10 rfl rfl func25 rfl rfl rfl (yI _ _ _ _ _ (hS.ext E) (kS.ext E) hf.2.1 hf.2.1) rfl ?_
 rintro e _ ⟨rfl, ex⟩
 refine au 1 ?_
 obtain ⟨E,B2,B3⟩ := bC ex E B2 B3
 rw [decide_eq_true rfl]
 refine aU ?_
 refine df 17 rfl rfl func26 rfl rfl rfl (km (c := y.c) (d := z.c) (Bs.ext hY E) (Bs.ext kY E) Om Om) rfl ?_
 rintro e _ ⟨rfl, ex⟩
 refine au 1 ?_
 replace E := E.ext ex
 rw [decide_eq_true rfl]
 refine aU ?_
 refine hret rfl ?_
 exact ⟨rfl, E⟩
section
variable {P : Program} {L : List (Nat × Value)} {w : World} {ty t e : TypeId} {x y : Operand}
theorem DY {A B : Oa} {n c m c2 base bytes sz : Nat} {xs ys : List Value} (hx : ev L x = some (.slice A n c)) (hy : ev L y = some (.slice B m c2)) (hE : DQ P t e sz bytes) (hown : JX w base e sz A n c xs) (hB : At w B ys) (hm : ys ≠ []) (hl : ys.length = m * sz) (h1 : ∀ u ∈ ys, u.oneCell' = true)
  (hlen : (n + m) * bytes ≤ 140737488355328) (Vx : n + m ≤ 140737488355328) (h0 : 0 < n + m) (hbase : base ≤ w.heap.size) : Ef P L w (.call { callee := .builtin .append, args := #[x, y], argTypes := #[t, t] }) ty fun v w' => ∃ A' c', v = .slice A' (n + m) c' ∧ JX w' base e sz A' (n + m) c' (xs ++ ys) ∧ Below base w w' := Ef.run fun ρ hρ => by
 obtain ⟨ht, hp, i, z, hi, hz, hs, hb, hzs⟩ := hE
 obtain ⟨b, off, rfl, _⟩ := hB.get (k := 0) (List.length_pos_iff.2 hm)
 obtain ⟨v', w', hrun, h2, h3, _, h5⟩ := run_append_own_at (P := P) w base t ty e i z sz bytes ht hi hz hs hb hzs hp (.slice A n c) n xs hown ⟨b, off, none⟩ m c2 ys hl hB.Mz h1 (by unfold maxLen; omega) hlen hbase
 obtain ⟨g', Vw, rfl, _, _⟩ := h2.form h0
 exact ⟨_, w', ⟨_, _, rfl, h2, (Below.refl base w).grown h3 hbase fun k hk => (World.ownsRow.lt hown k hk).1⟩, fun _ _ _ _ => by simp [execOp, resolve, invoke, builtin, hρ _ _ hx, hρ _ _ hy, hrun]⟩
end
theorem CR {w : World} {A : Oa} {n : Nat} {xs : List mx} {vs : List Value} (hl : xs.length = n) (h2 : vs.length = n * 3) (h4 : ∀ i x, xs[i]? = some x → fK w ((vs.drop (i * 3)).take 3).toArray x) : ∀ u ∈ vs, u.oneCell' = true := fun u hu => by
 obtain ⟨j, hj, rfl⟩ := List.getElem_of_mem hu
 have hi : j / 3 < xs.length := by omega
 obtain ⟨⟨a, b, c, e, _⟩, _⟩ := h4 (j / 3) _ (List.getElem?_eq_getElem hi)
 have e' : (vs.drop (j / 3 * 3)).take 3 = [.slice a.A a.n a.c, .slice b.A b.n b.c, .slice c.A c.n c.c] := congrArg Array.toList e
 have hg : ((vs.drop (j / 3 * 3)).take 3)[j % 3]? = some vs[j] := by
  rw [List.getElem?_take_of_lt Om, List.getElem?_drop, show j / 3 * 3 + j % 3 = j by omega, List.getElem?_eq_getElem hj]
 rw [e'] at hg
 have h3 : j % 3 < 3 := Nat.mod_lt _ Om
 match hq : j % 3, h3 with
 | 0, _ => rw [hq] at hg; injection hg with hg; rw [← hg]; rfl
 | 1, _ => rw [hq] at hg; injection hg with hg; rw [← hg]; rfl
 | 2, _ => rw [hq] at hg; injection hg with hg; rw [← hg]; rfl
def NC (nm : Lb) : List mx → List mx
 | [] => []
 | g :: l => ⟨nm, g.enc, g.box⟩ :: l
theorem Jr {w w' : World} {n : Nat} {xs : List mx} {vs : List Value} {nm : Lb} {g : Nat} {hn : Hd} (hl : xs.length = n) (h2 : vs.length = n * 3) (h4 : ∀ i x, xs[i]? = some x → fK w ((vs.drop (i * 3)).take 3).toArray x) (E : Ext w w')
    (hcur : ∀ j u, (vs.set 0 (.slice hn.A hn.n hn.c))[j]? = some u → w'.cell? ⟨g, j, none⟩ = some u) (hnm : kP w' hn nm) (hg : g < w'.heap.size) : xV fK 3 w' (some ⟨g, 0, none⟩) n (NC nm xs) := by
  refine ⟨by cases xs with | nil => exact hl | cons x l => exact hl, vs.set 0 (.slice hn.A hn.n hn.c), by rw [List.length_set]; exact h2, ?_, ?_⟩
  · exact At.qV fun j u hu => by rw [Addr.add_plain, Nat.zero_add]; exact hcur j u hu
  · intro i x hx
    cases xs with
    | nil => cases hx
    | cons y l =>
      cases i with
      | zero =>
        injection hx with hx
        subst hx
        obtain ⟨⟨a, b, c, e, va, vb, vc⟩, q⟩ := h4 0 y rfl
        have e' : (vs.drop (0 * 3)).take 3 = [.slice a.A a.n a.c, .slice b.A b.n b.c, .slice c.A c.n c.c] := congrArg Array.toList e
        rw [Nat.zero_mul, List.drop_zero] at e'
        obtain ⟨r, hr⟩ : ∃ r, vs = .slice a.A a.n a.c :: .slice b.A b.n b.c :: .slice c.A c.n c.c :: r := ⟨vs.drop 3, by rw [← List.take_append_drop 3 vs, e']; simp⟩
        refine ⟨⟨hn, b, c, ?_, hnm, Bs.ext vb E, Bs.ext vc E⟩, fun A n' c' h => q A n' c' ?_⟩
        · rw [hr]; rfl
        · rw [hr] at h ⊢; exact h
      | succ i =>
        have h5 := h4 (i + 1) x hx
        rw [List.drop_set_of_lt Om]
        exact fK.ext h5 E
end
end Go.Proofs.YtgfafidlkldeaaaGreat
