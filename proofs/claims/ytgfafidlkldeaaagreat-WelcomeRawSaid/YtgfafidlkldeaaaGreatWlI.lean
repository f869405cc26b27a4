/- The law WelcomeRaw: what any welcome has for a package. No conditions: contracts of functions. -/
import Derived.Test.YtgfafidlkldeaaaGreatWlH
import Derived.Test.YtgfafidlkldeaaaGreatAu
set_option linter.unusedVariables false
set_option linter.unusedSimpArgs false
set_option maxHeartbeats 4000000
set_option maxRecDepth 4000
namespace Go.Proofs.YtgfafidlkldeaaaGreat
open Go.RowKit Tryz
attribute [local irreducible] Y Ef WL WC WK WQ WM cE WN WF dc WJ gJ WR xF
open Wire Nd Hk
section
variable {P : Program} {L : List (Nat × Value)} {w : World} {ty t e : TypeId}
theorem Js (hu : P.underlying t = some (.slice e)) (hi : (P.info? e).isSome = true) : Ef P L w (.buildSlice t 0 #[]) ty (GU w e 0 #[]) := Ef.run fun ρ hρ => by
  refine ⟨_, w.alloc (.cells #[] e), ⟨w.heap.size, rfl, ao.new w e _, Nat.le_refl _, Ext.alloc w _⟩, fun dst pos after guard => ?_⟩
  cases hq : P.info? e with
  | none => rw [hq] at hi; cases hi
  | some i =>
    simp [execOp, Instr.buildSlice, run_underlying hu, sizeOf, typeInfo, hq, newRow, Array.range_zero', Instr.fill]
end
theorem Eb {w : World} {base n c : Nat} {e : TypeId} {sz : Nat} {A : Oa} {xs : List Value} (h : JX w base e sz A n c xs) (hn : 0 < n) : ∃ g cur, A = some ⟨g, 0, none⟩ ∧ base ≤ g ∧ ao w g e cur ∧ n ≤ c ∧ cur.size = c * sz ∧ cur.toList.take (n * sz) = xs := by
 rcases h.2 with ⟨_, h0⟩ | ⟨g, cap, cur, hv, hg, hb, hc, _, hz, ht⟩
 ·omega
 ·injection hv with e1 _ e3
  subst e3
  exact ⟨g, cur, e1, hg, hb, hc, hz, ht⟩
theorem Kz : DQ Tryz.prog 22 37 3 72 := DQ.of (z := .agg #[.slice none 0 0, .slice none 0 0, .slice none 0 0]) underlying22 Kr Kr Om
theorem xx (B : Oa) (m d : Nat) (s : ByteArray) (cs : Lb) (w : World) (HB : Bs w B m cs) (hs : s.size ≤ 1048576) (hm : m ≤ 1048576) :
  Ct 34 #[.string s, .slice B m d] w fun e w' => ∃ A' c', e = .returned (.slice A' 32 c') ∧ Row w' w.heap.size 5 A' 32 c' ((Sha.sum (Wire.vec s.data.toList ++ Wire.vec cs)).map bv) ∧ Ext w w' := by
 have E := Ext.refl w
 have Vy := Wire.ck s.size; have Vz := Wire.ck m
 refine ai 12 func34 rfl rfl rfl rfl ?_
 intro _ hret
 refine aU ?_
 refine ag (nJ rfl Tn.u Tn.u Tn.u) rfl ?_
 rintro _ _ ⟨_, c2, rfl, H2, _, ex⟩
 obtain ⟨HB,E⟩ := ba ex HB E
 have Vw := E.size
 refine aB func54 rfl (et _ _ c2 _ _ H2 Om) ?_
 rintro e _ ⟨_, _, _, rfl, R3, _, ex⟩
 obtain ⟨HB,E⟩ := ba ex HB E
 replace R3 := R3.lower Vw
 refine aU ?_
 refine aB func54 rfl (et B m d cs _ HB Om) ?_
 rintro e _ ⟨_, _, _, rfl, R4, _, ex⟩
 refine aU ?_
 obtain ⟨E,R3⟩ := ba ex E R3
 have H4 := R4.bs; have Vx := E.size
 refine ag (bd rfl rfl cB R3 H4.2 (by rw [List.length_map, H4.1]) aM Om Om Vx) rfl ?_
 rintro _ w5 ⟨A5, c5, rfl, R5, be, _, _⟩
 have E5 := E.trans be; have H5 := R5.cat.bs
 refine aB func52 rfl (eY A5 _ c5 _ _ H5 Om) ?_
 rintro e w6 ⟨A6, c6, rfl, O6, ex⟩
 have E6 := E5.ext ex; have R6 : Row w6 w5.heap.size 5 A6 32 c6 _ := O6
 refine aU ?_
 refine hret rfl ?_
 exact ⟨_, _, rfl, R6.lower E5.size, E6⟩
theorem ri {cs : Array Value} {p : Pack} (w : World) (H : dd w cs p) (Vw : p.Small) :
  Ct 11 #[.agg cs] w fun e w' => ∃ A' c', e = .returned (.slice A' 32 c') ∧ Row w' w.heap.size 5 A' 32 c' ((ij p).map bv) ∧ Ext w w' := by
 have HP := H
 have hl := xc Vw
 obtain ⟨i, h0, h1, h2, h4, h5, gg, rfl, hs, a, b0, b1, b2, b4, b5, c⟩ := H
 have E := Ext.refl w
 refine ai 6 func11 rfl rfl rfl rfl ?_
 intro _ hret
 refine aU ?_
 intro _ _ _ _ ex
 replace E := E.ext ex
 refine aU ?_
 refine aB func35 rfl (kK _ (HP.ext E) Vw) ?_
 rintro e _ ⟨A2, k2, c2, rfl, R2, ex⟩
 refine aU ?_
 replace E := E.ext ex
 have Vx := R2.bs.1; have z2 := E.size
 refine aB func34 rfl (xx A2 k2 c2 wH _ _ R2.bs me Om) ?_
 rintro e _ ⟨A3, c3, rfl, R3, ex⟩
 replace E := E.ext ex
 refine aU ?_
 refine hret rfl ?_
 exact ⟨A3, c3, rfl, R3.lower z2, E⟩
theorem Cc {p : Pack} {x : kX} (hx : x.Small) : (⟨NC (ij p) x.guests, x.info⟩ : kX).Small := by
  obtain ⟨h1, h2, h3⟩ := hx
  refine ⟨?_, ?_, h3⟩
  · show (NC _ x.guests).length < 70
    cases h : x.guests with
    | nil => show (0 : Nat) < 70; omega
    | cons g l => rw [h] at h1; exact h1
  · intro g hg
    have Vw : g ∈ NC (ij p) x.guests := hg
    cases h : x.guests with
    | nil => rw [h] at Vw; cases Vw
    | cons y l =>
      rw [h] at Vw h2
      have hy := h2 y (List.mem_cons_self ..)
      rcases List.mem_cons.1 Vw with rfl | Vw
      · exact ⟨by show (ij p).length ≤ 100; rw [nu]; omega, hy.2.1, hy.2.2⟩
      · exact h2 g (List.mem_cons_of_mem _ Vw)
theorem KD {w w' : World} {n g c9 : Nat} {t : TypeId} {xs : List mx} {vs : List Value} {cur : Array Value} {nm is : Lb} {hn h1 : Hd} (hl : xs.length = n) (Vw : vs.length = n * 3) (Vx : ∀ i x, xs[i]? = some x → fK w ((vs.drop (i * 3)).take 3).toArray x) (E : Ext w w')
  (D9 : ao w' g t (cur.setIfInBounds 0 (.slice hn.A hn.n hn.c))) (htk : cur.toList.take ((0 + n) * 3) = [] ++ vs) (Vy : 0 < cur.size) (a1 : kP w' h1 is) (ac : h1.n ≤ h1.c) (hnm : kP w' hn nm) :
  gF w' (jZ ⟨some ⟨g, 0, none⟩, 0 + n, c9⟩ h1) ⟨NC nm xs, is⟩ := by
 refine ⟨⟨some ⟨g, 0, none⟩, 0 + n, c9⟩, h1, rfl, ?_, a1, ac⟩
 show xV fK 3 _ (some ⟨g, 0, none⟩) (0 + n) (NC nm xs)
 rw [Nat.zero_add]
 refine Jr (hn := hn) hl Vw Vx E ?_ hnm D9.lt
 intro j _ hu
 rw [D9.cell, Array.getElem?_setIfInBounds]
 by_cases hj : 0 = j
 ·subst hj
  rw [if_pos rfl, if_pos Vy]
  rw [List.getElem?_set] at hu
  rw [if_pos rfl] at hu
  split at hu
  ·exact hu
  ·cases hu
 ·rw [List.getElem?_set_ne hj] at hu
  rw [if_neg hj, ← Array.getElem?_toList]
  rw [← List.nil_append vs, ← htk] at hu
  have hjl : j < (cur.toList.take ((0 + n) * 3)).length := (List.getElem?_eq_some_iff.1 hu).1
  rw [List.getElem?_take_of_lt (by rw [List.length_take] at hjl; omega)] at hu
  exact hu
theorem tZ {S : List Nat} {w w' : World} (_ : aA S w w') : aA [] w' w' := aA.refl [] w'
theorem p6 (cs : Array Value) (x : kX) (ds : Array Value) (p : Pack) (nb : Bool) (A : Oa) (n c : Nat) (ks : Lb) (w : World) (HW : gF w cs x) (HP : dd w ds p) (HA : Bs w A n ks) (_hn : n ≤ maxLen) :
  Ct 3 #[.agg cs, .agg ds, .bool nb, .slice A n c] w fun e w' => e = .returned (.bool true) ∧ Below w.heap.size w w' := by
 have hkl := HA.1
 have Wa := HW
 obtain ⟨h0, h1, rfl, a0, a1, ac⟩ := Wa
 have Wb := HP
 obtain ⟨i, p0, p1, p2, p4, p5, pg, rfl, hsrc, _⟩ := Wb
 have Wk := a0.1
 have F := aA.refl [] w
 refine ai 76 func3 rfl rfl rfl rfl ?_
 intro _ hret
 refine au 2 ?_
 refine ag (iJ rfl rfl) rfl ?_
 rintro _ _ ⟨VV, rfl, B4, VZ, ex⟩
 have Wl := ex.size
 replace F := F.grow ex VZ
 refine ag (iJ rfl rfl) rfl ?_
 rintro _ _ ⟨VW, rfl, B5, VK, ex⟩
 have V6 : VV < VW := Nat.lt_of_lt_of_le B4.lt VK
 replace F := F.grow ex VK
 replace B4 := B4.grow ex VK
 refine au 6 ?_
 refine aB func7 rfl (vN _) ?_
 rintro e _ ⟨rfl, ex⟩
 refine au 1 ?_
 obtain ⟨F,B4,B5⟩ := bC ex F B4 B5
 refine ak (lW rfl) ?_
 refine au 2 ?_
 refine aX rfl rfl ?_
 refine au 5 ?_
 refine ak (bM (o := 0) (s := 2) rfl Tn.u rfl Kr B4 rfl) ?_
 have X3 := F.aD So
 refine aB func8 rfl (tE _ (HW.at.ext X3)) ?_
 rintro e _ ⟨rfl, ex⟩
 obtain ⟨F,B4,B5⟩ := bC ex F B4 B5
 refine au 1 ?_
 refine mT (lW rfl) rfl (fun q0 => ?_) (fun q0 => ?_)
 ·refine au 12 ?_
  refine bR rfl rfl ?_
  refine au 7 ?_
  refine hret rfl ?_
  exact ⟨rfl, F.aD So⟩
 ·refine au 1 ?_
  refine gE 19 (bM (o := 0) (s := 8) rfl Tn.u rfl Kr B5 rfl) ?_
  have X3 := F.aD So
  refine df 19 rfl rfl func9 rfl rfl rfl (rU _ (HP.ext X3)) rfl ?_
  rintro e _ ⟨rfl, ex⟩
  obtain ⟨F,B4,B5⟩ := bC ex F B4 B5
  refine au 1 ?_
  refine sA 19 rfl rfl (lW rfl) rfl (fun q1 => ?_) (fun q1 => ?_)
  ·refine au 8 ?_
   refine bR rfl rfl ?_
   refine au 7 ?_
   refine hret rfl ?_
   exact ⟨rfl, F.aD So⟩
  ·refine au 4 ?_
   refine aJ 24 rfl rfl (gd rfl rfl) rfl (fun q2 => ?_) (fun q2 => ?_)
   ·refine au 3 ?_
    refine bR rfl rfl ?_
    refine au 7 ?_
    refine hret rfl ?_
    exact ⟨rfl, F.aD So⟩
   ·refine au 3 ?_
    refine aX rfl rfl ?_
    have hx : x.Small := by simpa using q0
    have hp : p.Small := by simpa using q1
    refine au 5 ?_
    refine mT (aQ rfl) rfl (fun hnb => ?_) (fun hnb => ?_)
    ·refine au 1 ?_
     refine gE 30 (dB 0 1 0 0 Tn.u) ?_
     refine gE 30 (af rfl Tn.u rfl (B4.get (i := 0) rfl)) ?_
     refine au 1 ?_
     refine aJ 30 rfl rfl (gd rfl rfl) rfl (fun Wc => ?_) (fun Wc => ?_)
     ·refine au 2 ?_
      refine gE 36 (bM (o := 0) (s := 8) rfl Tn.u rfl Kr B5 rfl) ?_
      have X5 := F.aD So
      refine df 36 rfl rfl func10 rfl rfl rfl (sX _ (HP.ext X5)) rfl ?_
      rintro e _ ⟨rfl, ex⟩
      obtain ⟨F,B4,B5⟩ := bC ex F B4 B5
      refine au 4 ?_
      refine al rfl (fun We => ?_) (fun We => ?_)
      ·obtain ⟨hl, vs, VX, Wf, V7⟩ := a0
       have hvs : vs ≠ [] := fun h => by rw [h] at VX; simp at VX; omega
       have Wg := hx.1
       have X6 := F.aD So
       have m4 := B4.lt; have m5 := B5.lt
       refine au 2 ?_
       refine ag (Js Tn.u Kr) rfl ?_
       rintro _ w6 ⟨V8, rfl, Wh, V0, ex⟩
       have VY : Ext _ w6 := ex; have Wi : JX w6 _ 37 3 (some ⟨V8, 0, none⟩) 0 0 [] := ⟨rfl, .inr ⟨V8, 0, #[], rfl, V0, Wh, Nat.le_refl _, Nat.zero_le _, rfl, rfl⟩⟩
       refine ak (dB 0 1 0 0 Tn.u) ?_
       refine ak (af rfl Tn.u rfl ((B4.ext VY).get (i := 0) rfl)) ?_
       refine ag (DY rfl rfl Kz Wi ((Wf.ext X6).ext VY) hvs VX (CR (A := none) hl VX V7) Om Om Om VY.size) rfl ?_
       rintro _ _ ⟨_, c9, rfl, R9, be⟩
       have X9 := VY.trans be; replace F := F.ext X9; replace B4 := B4.ext X9; replace B5 := B5.ext X9; obtain ⟨g9, cur, rfl, Wm, B9, Wn, hcz, htk⟩ := Eb R9 Om
       refine au 6 ?_
       refine ak (bM (o := 0) (s := 8) rfl Tn.u rfl Kr B5 rfl) ?_
       have X7 := F.aD So
       have m9 := B9.lt
       refine aB func11 rfl (ri _ (HP.ext X7) hp) ?_
       rintro e w8 ⟨_, c8, rfl, R8, ex⟩
       refine au 1 ?_
       obtain ⟨F,B4,B5⟩ := bC ex F B4 B5
       replace B9 := B9.ext ex; obtain ⟨g8, _, rfl, _⟩ := R8.get (i := 0) Om
       refine ak (xO (s := 3) (j := 0) rfl rfl Tn.u Kr rfl Om) ?_
       refine ak (dM (o := 0) (s := 1) rfl underlying37 rfl Kr rfl rfl) ?_
       have V9 : 0 < cur.size := by rw [hcz]; omega
       have Wo := B9.lt
       refine ag (av (i := 0) rfl rfl rfl Kr B9 V9) rfl ?_
       rintro _ w9 ⟨rfl, D9, cg⟩
       have Wj : Below g9 w8 w9 := (Below.refl g9 w8).grown cg Om (fun k hk => by injection hk with hk; omega); replace F := F.below Wj Om; replace B4 := B4.aE cg Om; replace B5 := B5.aE cg Om; replace R8 := R8.aE cg (by intro b off e; injection e with e; injection e; omega)
       refine au 4 ?_
       refine ak (dB 0 1 0 0 Tn.u) ?_
       refine ag (av (i := 0) rfl rfl rfl Kr B4 Nb) rfl ?_
       rintro _ _ ⟨rfl, D, cg⟩
       have ex := aA.one cg
       clear cg
       obtain ⟨F,B5,D9,R8⟩ := dj ex F B5 D9 R8
       replace B4 := D; clear D
       replace B4 := B4.congr (cs' := jZ ⟨some ⟨g9, 0, none⟩, 0 + h0.n, c9⟩ h1) rfl
       have XW := F.aD So
       have HX := KD (c9 := c9) (hn := ⟨some ⟨g8, 0, none⟩, 32, c8⟩) hl VX V7 XW D9 htk V9 (Bs.ext a1 XW) ac R8.bs
       have hxs := Cc (p := p) hx
       have CX := tZ F
       refine au 4 ?_
       refine ak (bM (o := 0) (s := 2) rfl Tn.u rfl Kr B4 rfl) ?_
       refine ak (bM (o := 0) (s := 8) rfl Tn.u rfl Kr B5 rfl) ?_
       refine au 1 ?_
       refine ak (aq rfl (cells := fN ⟨A, n, c⟩ an an) Kr) ?_
       have VH := F.aD So
       refine aB func12 rfl (gI (es := fN ⟨A, n, c⟩ an an) (ini := ks) (b1 := []) (b2 := []) _ HX hxs (HP.ext VH) hp ⟨⟨A, n, c⟩, an, an, rfl, HA.ext VH, Bs.nil _ _, Bs.nil _ _⟩ Om) ?_
       rintro e VL ⟨cg, rfl, G1, hlt, ex⟩
       obtain ⟨F,B4,B5,CX⟩ := bO ex F B4 B5 CX
       have VM := G1; obtain ⟨i0, i1, i2, i3, i4, s0, s1, s2, s3, s4, s5, s6, s7, s8, s9, VN, VO, y, rfl, _⟩ := VM; have C1 := aA.refl [] VL; have zx := CX.size
       refine au 4 ?_
       refine ag (cw (Z := #[.slice none 0 0, .int .u64 0, .slice none 0 0, .slice none 0 0, .slice none 0 0, .int .i64 0, .slice none 0 0, .slice none 0 0, .slice none 0 0, .slice none 0 0, .slice none 0 0, .slice none 0 0, .slice none 0 0, .slice none 0 0, .slice none 0 0, .slice none 0 0, .slice none 0 0, .slice none 0 0, .slice none 0 0, .slice none 0 0]) Kr) rfl ?_
       rintro _ VP ⟨Vz, rfl, Vy, Vw, ex⟩
       have VD : VV < Vz := Nat.lt_of_lt_of_le B4.lt Vw
       have VE : VW < Vz := Nat.lt_of_lt_of_le B5.lt Vw
       replace F := F.grow ex Vw
       replace B4 := B4.grow ex Vw
       replace B5 := B5.grow ex Vw
       replace CX := CX.grow ex Vw
       replace C1 := C1.grow ex Vw
       refine ag (aL (o := 0) rfl rfl Kr Vy Nb (aS rfl)) rfl ?_
       rintro _ VI ⟨rfl, D, cg⟩
       have ex := aA.one cg
       clear cg
       obtain ⟨F,B4,B5,CX,C1⟩ := jS ex F B4 B5 CX C1
       replace Vy := D; clear D
       replace Vy := Vy.congr (cs' := mV i0 (bN _ p ks).1.info.ctx.ep i1 i2 i3 (bN _ p ks).1.info.frm i4 s0 s1 s2 s3 s4 s5 s6 s7 s8 s9 VN VO y) rfl
       refine au 5 ?_
       refine ak (bM (o := 0) (s := 2) rfl Tn.u rfl Kr B4 rfl) ?_
       refine ak (bM (o := 0) (s := 8) rfl Tn.u rfl Kr B5 rfl) ?_
       refine au 1 ?_
       refine ak (aq rfl (cells := fN ⟨A, n, c⟩ an an) Kr) ?_
       have VJ := F.aD So
       have XX := CX.aD So
       refine aB func13 rfl (lk (es := fN ⟨A, n, c⟩ an an) (ini := ks) (b1 := []) (b2 := []) _ (HX.ext XX) hxs (HP.ext VJ) hp ⟨⟨A, n, c⟩, an, an, rfl, HA.ext VJ, Bs.nil _ _, Bs.nil _ _⟩ Om) ?_
       rintro e VQ ⟨cg, rfl, G2, ex⟩
       obtain ⟨F,C1,Vy⟩ := bC ex F C1 Vy
       have VR := G2; obtain ⟨j0, j1, j2, j3, j4, t0, t1, t2, t3, t4, t5, t6, t7, t8, t9, t10, t11, yy, rfl, _⟩ := VR; have C2 := aA.refl [] VQ; have V4 := F.size; have zc := C1.size
       refine au 4 ?_
       refine ag (cw (Z := #[.slice none 0 0, .int .u64 0, .slice none 0 0, .slice none 0 0, .slice none 0 0, .int .i64 0, .slice none 0 0, .slice none 0 0, .slice none 0 0, .slice none 0 0, .slice none 0 0, .slice none 0 0, .slice none 0 0, .slice none 0 0, .slice none 0 0, .slice none 0 0, .slice none 0 0, .slice none 0 0, .slice none 0 0, .slice none 0 0]) Kr) rfl ?_
       rintro _ VS ⟨VB, rfl, VA, Vx, ex⟩
       have VC : Vz < VB := Nat.lt_of_lt_of_le Vy.lt Vx
       replace F := F.grow ex Vx
       replace C1 := C1.grow ex Vx
       replace Vy := Vy.grow ex Vx
       replace C2 := C2.grow ex Vx
       refine ag (aL (o := 0) rfl rfl Kr VA Nb (aS rfl)) rfl ?_
       rintro _ VF ⟨rfl, D, cg⟩
       have ex := aA.one cg
       clear cg
       obtain ⟨F,C1,Vy,C2⟩ := dj ex F C1 Vy C2
       replace VA := D; clear D
       replace VA := VA.congr (cs' := mV j0 (bN _ p ks).1.info.ctx.ep j1 j2 j3 (bN _ p ks).1.info.frm j4 t0 t1 t2 t3 t4 t5 t6 t7 t8 t9 t10 t11 yy) rfl
       refine au 6 ?_
       refine ak (bg rfl Tn.u Tn.u (bc Om Om)) ?_
       refine au 1 ?_
       refine ak (cL rfl rfl) ?_
       refine ak (Y.as (aQ rfl) (congrArg Value.bool (decide_eq_true rfl))) ?_
       refine gE 71 (bM (o := 0) (s := 20) rfl Tn.u rfl Kr Vy rfl) ?_
       refine gE 71 (bM (o := 0) (s := 20) rfl Tn.u rfl Kr VA rfl) ?_
       have VT := C1.aD So
       have VU := C2.aD So
       refine df 71 rfl rfl func14 rfl rfl rfl (lo _ (G1.ext VT) (G2.ext VU) (lN (Nat.le_trans hxs.2.2 (show 500 ≤ 10000 by omega)))) rfl ?_
       rintro e V5 ⟨rfl, ex⟩
       replace F := F.ext ex
       refine au 6 ?_
       refine hret rfl ?_
       exact ⟨rfl, F.aD So⟩
      ·have HX : gF _ (jZ h0 h1) x := HW.ext (F.aD So)
       have hxs := hx
       have CX := tZ F
       refine au 4 ?_
       refine ak (bM (o := 0) (s := 2) rfl Tn.u rfl Kr B4 rfl) ?_
       refine ak (bM (o := 0) (s := 8) rfl Tn.u rfl Kr B5 rfl) ?_
       refine au 1 ?_
       refine ak (aq rfl (cells := fN ⟨A, n, c⟩ an an) Kr) ?_
       have VH := F.aD So
       refine aB func12 rfl (gI (es := fN ⟨A, n, c⟩ an an) (ini := ks) (b1 := []) (b2 := []) _ HX hxs (HP.ext VH) hp ⟨⟨A, n, c⟩, an, an, rfl, HA.ext VH, Bs.nil _ _, Bs.nil _ _⟩ Om) ?_
       rintro e VL ⟨cg, rfl, G1, hlt, ex⟩
       obtain ⟨F,B4,B5,CX⟩ := bO ex F B4 B5 CX
       have VM := G1; obtain ⟨i0, i1, i2, i3, i4, s0, s1, s2, s3, s4, s5, s6, s7, s8, s9, VN, VO, y, rfl, _⟩ := VM; have C1 := aA.refl [] VL; have zx := CX.size
       refine au 4 ?_
       refine ag (cw (Z := #[.slice none 0 0, .int .u64 0, .slice none 0 0, .slice none 0 0, .slice none 0 0, .int .i64 0, .slice none 0 0, .slice none 0 0, .slice none 0 0, .slice none 0 0, .slice none 0 0, .slice none 0 0, .slice none 0 0, .slice none 0 0, .slice none 0 0, .slice none 0 0, .slice none 0 0, .slice none 0 0, .slice none 0 0, .slice none 0 0]) Kr) rfl ?_
       rintro _ VP ⟨Vz, rfl, Vy, Vw, ex⟩
       have VD : VV < Vz := Nat.lt_of_lt_of_le B4.lt Vw
       have VE : VW < Vz := Nat.lt_of_lt_of_le B5.lt Vw
       try (have VG : VB < Vz := Nat.lt_of_lt_of_le VA.lt Vw)
       replace F := F.grow ex Vw
       replace B4 := B4.grow ex Vw
       replace B5 := B5.grow ex Vw
       replace CX := CX.grow ex Vw
       replace C1 := C1.grow ex Vw
       refine ag (aL (o := 0) rfl rfl Kr Vy Nb (aS rfl)) rfl ?_
       rintro _ VI ⟨rfl, D, cg⟩
       have ex := aA.one cg
       clear cg
       obtain ⟨F,B4,B5,CX,C1⟩ := jS ex F B4 B5 CX C1
       replace Vy := D; clear D
       replace Vy := Vy.congr (cs' := mV i0 (bN _ p ks).1.info.ctx.ep i1 i2 i3 (bN _ p ks).1.info.frm i4 s0 s1 s2 s3 s4 s5 s6 s7 s8 s9 VN VO y) rfl
       refine au 5 ?_
       refine ak (bM (o := 0) (s := 2) rfl Tn.u rfl Kr B4 rfl) ?_
       refine ak (bM (o := 0) (s := 8) rfl Tn.u rfl Kr B5 rfl) ?_
       refine au 1 ?_
       refine ak (aq rfl (cells := fN ⟨A, n, c⟩ an an) Kr) ?_
       have VJ := F.aD So
       have XX := CX.aD So
       refine aB func13 rfl (lk (es := fN ⟨A, n, c⟩ an an) (ini := ks) (b1 := []) (b2 := []) _ (HX.ext XX) hxs (HP.ext VJ) hp ⟨⟨A, n, c⟩, an, an, rfl, HA.ext VJ, Bs.nil _ _, Bs.nil _ _⟩ Om) ?_
       rintro e VQ ⟨cg, rfl, G2, ex⟩
       obtain ⟨F,C1,Vy⟩ := bC ex F C1 Vy
       have VR := G2; obtain ⟨j0, j1, j2, j3, j4, t0, t1, t2, t3, t4, t5, t6, t7, t8, t9, t10, t11, yy, rfl, _⟩ := VR; have C2 := aA.refl [] VQ; have V4 := F.size; have zc := C1.size
       refine au 4 ?_
       refine ag (cw (Z := #[.slice none 0 0, .int .u64 0, .slice none 0 0, .slice none 0 0, .slice none 0 0, .int .i64 0, .slice none 0 0, .slice none 0 0, .slice none 0 0, .slice none 0 0, .slice none 0 0, .slice none 0 0, .slice none 0 0, .slice none 0 0, .slice none 0 0, .slice none 0 0, .slice none 0 0, .slice none 0 0, .slice none 0 0, .slice none 0 0]) Kr) rfl ?_
       rintro _ VS ⟨VB, rfl, VA, Vx, ex⟩
       have VC : Vz < VB := Nat.lt_of_lt_of_le Vy.lt Vx
       replace F := F.grow ex Vx
       replace C1 := C1.grow ex Vx
       replace Vy := Vy.grow ex Vx
       replace C2 := C2.grow ex Vx
       refine ag (aL (o := 0) rfl rfl Kr VA Nb (aS rfl)) rfl ?_
       rintro _ VF ⟨rfl, D, cg⟩
       have ex := aA.one cg
       clear cg
       obtain ⟨F,C1,Vy,C2⟩ := dj ex F C1 Vy C2
       replace VA := D; clear D
       replace VA := VA.congr (cs' := mV j0 (bN _ p ks).1.info.ctx.ep j1 j2 j3 (bN _ p ks).1.info.frm j4 t0 t1 t2 t3 t4 t5 t6 t7 t8 t9 t10 t11 yy) rfl
       refine au 6 ?_
       refine ak (bg rfl Tn.u Tn.u (bc Om Om)) ?_
       refine au 1 ?_
       refine ak (cL rfl rfl) ?_
       refine ak (Y.as (aQ rfl) (congrArg Value.bool (decide_eq_true rfl))) ?_
       refine gE 71 (bM (o := 0) (s := 20) rfl Tn.u rfl Kr Vy rfl) ?_
       refine gE 71 (bM (o := 0) (s := 20) rfl Tn.u rfl Kr VA rfl) ?_
       have VT := C1.aD So
       have VU := C2.aD So
       refine df 71 rfl rfl func14 rfl rfl rfl (lo _ (G1.ext VT) (G2.ext VU) (lN (Nat.le_trans hxs.2.2 (show 500 ≤ 10000 by omega)))) rfl ?_
       rintro e V5 ⟨rfl, ex⟩
       replace F := F.ext ex
       refine au 6 ?_
       refine hret rfl ?_
       exact ⟨rfl, F.aD So⟩
     ·refine au 7 ?_
      refine aX rfl rfl ?_
      have HX : gF _ (jZ h0 h1) x := HW.ext (F.aD So)
      have hxs := hx
      have CX := tZ F
      refine au 4 ?_
      refine ak (bM (o := 0) (s := 2) rfl Tn.u rfl Kr B4 rfl) ?_
      refine ak (bM (o := 0) (s := 8) rfl Tn.u rfl Kr B5 rfl) ?_
      refine au 1 ?_
      refine ak (aq rfl (cells := fN ⟨A, n, c⟩ an an) Kr) ?_
      have VH := F.aD So
      refine aB func12 rfl (gI (es := fN ⟨A, n, c⟩ an an) (ini := ks) (b1 := []) (b2 := []) _ HX hxs (HP.ext VH) hp ⟨⟨A, n, c⟩, an, an, rfl, HA.ext VH, Bs.nil _ _, Bs.nil _ _⟩ Om) ?_
      rintro e VL ⟨cg, rfl, G1, hlt, ex⟩
      obtain ⟨F,B4,B5,CX⟩ := bO ex F B4 B5 CX
      have VM := G1; obtain ⟨i0, i1, i2, i3, i4, s0, s1, s2, s3, s4, s5, s6, s7, s8, s9, VN, VO, y, rfl, _⟩ := VM; have C1 := aA.refl [] VL; have zx := CX.size
      refine au 4 ?_
      refine ag (cw (Z := #[.slice none 0 0, .int .u64 0, .slice none 0 0, .slice none 0 0, .slice none 0 0, .int .i64 0, .slice none 0 0, .slice none 0 0, .slice none 0 0, .slice none 0 0, .slice none 0 0, .slice none 0 0, .slice none 0 0, .slice none 0 0, .slice none 0 0, .slice none 0 0, .slice none 0 0, .slice none 0 0, .slice none 0 0, .slice none 0 0]) Kr) rfl ?_
      rintro _ VP ⟨Vz, rfl, Vy, Vw, ex⟩
      have VD : VV < Vz := Nat.lt_of_lt_of_le B4.lt Vw
      have VE : VW < Vz := Nat.lt_of_lt_of_le B5.lt Vw
      try (have VG : VB < Vz := Nat.lt_of_lt_of_le VA.lt Vw)
      replace F := F.grow ex Vw
      replace B4 := B4.grow ex Vw
      replace B5 := B5.grow ex Vw
      replace CX := CX.grow ex Vw
      replace C1 := C1.grow ex Vw
      refine ag (aL (o := 0) rfl rfl Kr Vy Nb (aS rfl)) rfl ?_
      rintro _ VI ⟨rfl, D, cg⟩
      have ex := aA.one cg
      clear cg
      obtain ⟨F,B4,B5,CX,C1⟩ := jS ex F B4 B5 CX C1
      replace Vy := D; clear D
      replace Vy := Vy.congr (cs' := mV i0 (bN _ p ks).1.info.ctx.ep i1 i2 i3 (bN _ p ks).1.info.frm i4 s0 s1 s2 s3 s4 s5 s6 s7 s8 s9 VN VO y) rfl
      refine au 5 ?_
      refine ak (bM (o := 0) (s := 2) rfl Tn.u rfl Kr B4 rfl) ?_
      refine ak (bM (o := 0) (s := 8) rfl Tn.u rfl Kr B5 rfl) ?_
      refine au 1 ?_
      refine ak (aq rfl (cells := fN ⟨A, n, c⟩ an an) Kr) ?_
      have VJ := F.aD So
      have XX := CX.aD So
      refine aB func13 rfl (lk (es := fN ⟨A, n, c⟩ an an) (ini := ks) (b1 := []) (b2 := []) _ (HX.ext XX) hxs (HP.ext VJ) hp ⟨⟨A, n, c⟩, an, an, rfl, HA.ext VJ, Bs.nil _ _, Bs.nil _ _⟩ Om) ?_
      rintro e VQ ⟨cg, rfl, G2, ex⟩
      obtain ⟨F,C1,Vy⟩ := bC ex F C1 Vy
      have VR := G2; obtain ⟨j0, j1, j2, j3, j4, t0, t1, t2, t3, t4, t5, t6, t7, t8, t9, t10, t11, yy, rfl, _⟩ := VR; have C2 := aA.refl [] VQ; have V4 := F.size; have zc := C1.size
      refine au 4 ?_
      refine ag (cw (Z := #[.slice none 0 0, .int .u64 0, .slice none 0 0, .slice none 0 0, .slice none 0 0, .int .i64 0, .slice none 0 0, .slice none 0 0, .slice none 0 0, .slice none 0 0, .slice none 0 0, .slice none 0 0, .slice none 0 0, .slice none 0 0, .slice none 0 0, .slice none 0 0, .slice none 0 0, .slice none 0 0, .slice none 0 0, .slice none 0 0]) Kr) rfl ?_
      rintro _ VS ⟨VB, rfl, VA, Vx, ex⟩
      have VC : Vz < VB := Nat.lt_of_lt_of_le Vy.lt Vx
      replace F := F.grow ex Vx
      replace C1 := C1.grow ex Vx
      replace Vy := Vy.grow ex Vx
      replace C2 := C2.grow ex Vx
      refine ag (aL (o := 0) rfl rfl Kr VA Nb (aS rfl)) rfl ?_
      rintro _ VF ⟨rfl, D, cg⟩
      have ex := aA.one cg
      clear cg
      obtain ⟨F,C1,Vy,C2⟩ := dj ex F C1 Vy C2
      replace VA := D; clear D
      replace VA := VA.congr (cs' := mV j0 (bN _ p ks).1.info.ctx.ep j1 j2 j3 (bN _ p ks).1.info.frm j4 t0 t1 t2 t3 t4 t5 t6 t7 t8 t9 t10 t11 yy) rfl
      refine au 6 ?_
      refine ak (bg rfl Tn.u Tn.u (bc Om Om)) ?_
      refine au 1 ?_
      refine ak (cL rfl rfl) ?_
      refine ak (Y.as (aQ rfl) (congrArg Value.bool (decide_eq_true rfl))) ?_
      refine gE 71 (bM (o := 0) (s := 20) rfl Tn.u rfl Kr Vy rfl) ?_
      refine gE 71 (bM (o := 0) (s := 20) rfl Tn.u rfl Kr VA rfl) ?_
      have VT := C1.aD So
      have VU := C2.aD So
      refine df 71 rfl rfl func14 rfl rfl rfl (lo _ (G1.ext VT) (G2.ext VU) (lN (Nat.le_trans hxs.2.2 (show 500 ≤ 10000 by omega)))) rfl ?_
      rintro e V5 ⟨rfl, ex⟩
      replace F := F.ext ex
      refine au 6 ?_
      refine hret rfl ?_
      exact ⟨rfl, F.aD So⟩
    ·refine au 12 ?_
     refine aX rfl rfl ?_
     have HX : gF _ (jZ h0 h1) x := HW.ext (F.aD So)
     have hxs := hx
     have CX := tZ F
     refine au 4 ?_
     refine ak (bM (o := 0) (s := 2) rfl Tn.u rfl Kr B4 rfl) ?_
     refine ak (bM (o := 0) (s := 8) rfl Tn.u rfl Kr B5 rfl) ?_
     refine au 1 ?_
     refine ak (aq rfl (cells := fN ⟨A, n, c⟩ an an) Kr) ?_
     have VH := F.aD So
     refine aB func12 rfl (gI (es := fN ⟨A, n, c⟩ an an) (ini := ks) (b1 := []) (b2 := []) _ HX hxs (HP.ext VH) hp ⟨⟨A, n, c⟩, an, an, rfl, HA.ext VH, Bs.nil _ _, Bs.nil _ _⟩ Om) ?_
     rintro e VL ⟨cg, rfl, G1, hlt, ex⟩
     obtain ⟨F,B4,B5,CX⟩ := bO ex F B4 B5 CX
     have VM := G1; obtain ⟨i0, i1, i2, i3, i4, s0, s1, s2, s3, s4, s5, s6, s7, s8, s9, VN, VO, y, rfl, _⟩ := VM; have C1 := aA.refl [] VL; have zx := CX.size
     refine au 4 ?_
     refine ag (cw (Z := #[.slice none 0 0, .int .u64 0, .slice none 0 0, .slice none 0 0, .slice none 0 0, .int .i64 0, .slice none 0 0, .slice none 0 0, .slice none 0 0, .slice none 0 0, .slice none 0 0, .slice none 0 0, .slice none 0 0, .slice none 0 0, .slice none 0 0, .slice none 0 0, .slice none 0 0, .slice none 0 0, .slice none 0 0, .slice none 0 0]) Kr) rfl ?_
     rintro _ VP ⟨Vz, rfl, Vy, Vw, ex⟩
     have VD : VV < Vz := Nat.lt_of_lt_of_le B4.lt Vw
     have VE : VW < Vz := Nat.lt_of_lt_of_le B5.lt Vw
     try (have VG : VB < Vz := Nat.lt_of_lt_of_le VA.lt Vw)
     replace F := F.grow ex Vw
     replace B4 := B4.grow ex Vw
     replace B5 := B5.grow ex Vw
     replace CX := CX.grow ex Vw
     replace C1 := C1.grow ex Vw
     refine ag (aL (o := 0) rfl rfl Kr Vy Nb (aS rfl)) rfl ?_
     rintro _ VI ⟨rfl, D, cg⟩
     have ex := aA.one cg
     clear cg
     obtain ⟨F,B4,B5,CX,C1⟩ := jS ex F B4 B5 CX C1
     replace Vy := D; clear D
     replace Vy := Vy.congr (cs' := mV i0 (bN _ p ks).1.info.ctx.ep i1 i2 i3 (bN _ p ks).1.info.frm i4 s0 s1 s2 s3 s4 s5 s6 s7 s8 s9 VN VO y) rfl
     refine au 5 ?_
     refine ak (bM (o := 0) (s := 2) rfl Tn.u rfl Kr B4 rfl) ?_
     refine ak (bM (o := 0) (s := 8) rfl Tn.u rfl Kr B5 rfl) ?_
     refine au 1 ?_
     refine ak (aq rfl (cells := fN ⟨A, n, c⟩ an an) Kr) ?_
     have VJ := F.aD So
     have XX := CX.aD So
     refine aB func13 rfl (lk (es := fN ⟨A, n, c⟩ an an) (ini := ks) (b1 := []) (b2 := []) _ (HX.ext XX) hxs (HP.ext VJ) hp ⟨⟨A, n, c⟩, an, an, rfl, HA.ext VJ, Bs.nil _ _, Bs.nil _ _⟩ Om) ?_
     rintro e VQ ⟨cg, rfl, G2, ex⟩
     obtain ⟨F,C1,Vy⟩ := bC ex F C1 Vy
     have VR := G2; obtain ⟨j0, j1, j2, j3, j4, t0, t1, t2, t3, t4, t5, t6, t7, t8, t9, t10, t11, yy, rfl, _⟩ := VR; have C2 := aA.refl [] VQ; have V4 := F.size; have zc := C1.size
     refine au 4 ?_
     refine ag (cw (Z := #[.slice none 0 0, .int .u64 0, .slice none 0 0, .slice none 0 0, .slice none 0 0, .int .i64 0, .slice none 0 0, .slice none 0 0, .slice none 0 0, .slice none 0 0, .slice none 0 0, .slice none 0 0, .slice none 0 0, .slice none 0 0, .slice none 0 0, .slice none 0 0, .slice none 0 0, .slice none 0 0, .slice none 0 0, .slice none 0 0]) Kr) rfl ?_
     rintro _ VS ⟨VB, rfl, VA, Vx, ex⟩
     have VC : Vz < VB := Nat.lt_of_lt_of_le Vy.lt Vx
     replace F := F.grow ex Vx
     replace C1 := C1.grow ex Vx
     replace Vy := Vy.grow ex Vx
     replace C2 := C2.grow ex Vx
     refine ag (aL (o := 0) rfl rfl Kr VA Nb (aS rfl)) rfl ?_
     rintro _ VF ⟨rfl, D, cg⟩
     have ex := aA.one cg
     clear cg
     obtain ⟨F,C1,Vy,C2⟩ := dj ex F C1 Vy C2
     replace VA := D; clear D
     replace VA := VA.congr (cs' := mV j0 (bN _ p ks).1.info.ctx.ep j1 j2 j3 (bN _ p ks).1.info.frm j4 t0 t1 t2 t3 t4 t5 t6 t7 t8 t9 t10 t11 yy) rfl
     refine au 6 ?_
     refine ak (bg rfl Tn.u Tn.u (bc Om Om)) ?_
     refine au 1 ?_
     refine ak (cL rfl rfl) ?_
     refine ak (Y.as (aQ rfl) (congrArg Value.bool (decide_eq_true rfl))) ?_
     refine gE 71 (bM (o := 0) (s := 20) rfl Tn.u rfl Kr Vy rfl) ?_
     refine gE 71 (bM (o := 0) (s := 20) rfl Tn.u rfl Kr VA rfl) ?_
     have VT := C1.aD So
     have VU := C2.aD So
     refine df 71 rfl rfl func14 rfl rfl rfl (lo _ (G1.ext VT) (G2.ext VU) (lN (Nat.le_trans hxs.2.2 (show 500 ≤ 10000 by omega)))) rfl ?_
     rintro e V5 ⟨rfl, ex⟩
     replace F := F.ext ex
     refine au 6 ?_
     refine hret rfl ?_
     exact ⟨rfl, F.aD So⟩
end Go.Proofs.YtgfafidlkldeaaaGreat
