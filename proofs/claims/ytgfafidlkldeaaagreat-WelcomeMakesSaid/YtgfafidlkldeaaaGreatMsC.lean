/- The bytes of packages and proposals: what msg and the reference hand back; bytes told of what may be. -/
import Derived.Test.YtgfafidlkldeaaaGreatNdK
import Derived.Test.YtgfafidlkldeaaaGreatAu
import Derived.Test.YtgfafidlkldeaaaGreatCtxA
set_option linter.unusedVariables false
set_option linter.unusedSimpArgs false
set_option maxHeartbeats 4000000
set_option maxRecDepth 4000
namespace Go.Proofs.YtgfafidlkldeaaaGreat
section
open Go.RowKit Tryz
attribute [local irreducible] Y Ef WL WC WK WQ WM cx WN WF cT WJ gZ
open Wire Nd
theorem zx {cs : Array Value} {l : bO} (w : World) (H : dz w cs l) (hf : l.Fit) :
  Ct 215 #[.agg cs] w fun e w' => ∃ A' k c', e = .returned (.slice A' k c') ∧ Row w' w.heap.size 5 A' k c' ((dt l).map bv) ∧ Ext w w' := by
 obtain ⟨h0, h1, h2, h4, h5, rfl, hs, b0, b1, b2, b4, b5⟩ := H
 have l0 := b0.1; have l1 := b1.1; have l2 := b2.1; have l4 := b4.1
 obtain ⟨f0, f1, f2, f4, f5⟩ := hf
 have E := Ext.refl w
 refine aj 28 func215 rfl rfl rfl rfl ?_
 intro _ hret
 refine aU ?_
 intro _ _ B1 _ ex
 replace E := E.ext ex
 refine aU ?_
 refine aA Kr 16 rfl ?_; intro Vx ex Vy
 obtain ⟨E,B1⟩ := aY ex E B1
 refine zm [0, 1, 3, 4, 7, 8, 10] ?_
 refine my 11 rfl (Y.as (ah rfl Tn.u rfl (B1.get (i := 3) rfl)) (uB hs)) ?_
 refine ez 2 12 Kr ?_ ?_
 ·skip
  refine dG rfl func54 rfl rfl rfl (dX (Bs.ext b0 E) Om) rfl ?_
  rintro e w2 ⟨A2, k2, c2, rfl, R2, Vw, ex⟩
  obtain ⟨E,B1⟩ := aY ex E B1
  refine aU ?_
  refine ez 5 12 Kr ?_ ?_
  ·skip
   refine dG rfl func54 rfl rfl rfl (dX (Bs.ext b1 E) Om) rfl ?_
   rintro e w3 ⟨A3, k3, c3, rfl, R3, Vv, ex⟩
   obtain ⟨E,B1,R2⟩ := bC ex E B1 R2
   refine aU ?_
   refine ez 6 12 Kr ?_ ?_
   ·skip
    refine dG rfl func214 rfl rfl rfl (cw R2.bs R3.bs Om Om) rfl ?_
    rintro e w4 ⟨A4, c4, rfl, R4, ex⟩
    obtain ⟨E,B1⟩ := aY ex E B1
    refine aU ?_
    refine ez 9 12 Kr ?_ ?_
    ·skip
     refine dG rfl func54 rfl rfl rfl (dX (Bs.ext b2 E) Om) rfl ?_
     rintro e w5 ⟨A5, k5, c5, rfl, R5, Vr, ex⟩
     obtain ⟨E,B1,R4⟩ := bC ex E B1 R4
     refine aU ?_
     refine aM 12 Kr ?_; refine aO rfl (aB (z := .int .u8 0) Tn.u Kr rfl rfl rfl rfl rfl) rfl ?_
     rintro _ w6 ⟨g6, rfl, B6, Vs, ex⟩
     refine ⟨.inr ex, ?_⟩
     obtain ⟨E,B1,R4,R5⟩ := bU ex E B1 R4 R5
     have H6 := aZ (xs := [UInt8.ofNat l.src]) (B6.congr (by rfl)) rfl
     refine bm 13 rfl func214 rfl (cw R5.bs H6 Om Om) ?_
     rintro e w7 ⟨A7, c7, rfl, R7, ex⟩
     obtain ⟨E,B1,R4⟩ := bC ex E B1 R4
     refine aU ?_
     have Vl := E.size
     refine bm 14 rfl func214 rfl (cw R4.bs R7.bs Om Om) ?_
     rintro e w8 ⟨A8, c8, rfl, R8, ex⟩
     obtain ⟨E,B1⟩ := aY ex E B1
     replace R8 := R8.lower Vl
     refine zm [15] ?_
     refine al rfl (fun Vn => ?_) (fun Vn => ?_)
     ·refine aU ?_
      refine aL func54 rfl (dX (Bs.ext b4 E) Om) ?_
      rintro e w9 ⟨A9, k9, c9, rfl, R9, Vt, ex⟩
      obtain ⟨E,R8⟩ := aY ex E R8
      refine aU ?_
      have Vm := E.size
      refine aL func214 rfl (cw R8.bs R9.bs Om Om) ?_
      rintro e Vu ⟨Vo, Vp, rfl, Vq, ex⟩
      replace E := E.ext ex
      refine aU ?_
      refine hret rfl ?_
      exact ⟨Vo, _, Vp, rfl, (Vq.lower Vm).congr rfl (by unfold dt; rw [if_pos Om]; simp only [List.append_assoc]), E⟩
     ·refine aU ?_
      refine hret rfl ?_
      exact ⟨A8, _, c8, rfl, R8.congr rfl (by unfold dt; rw [if_neg Om]; simp only [List.append_assoc, List.append_nil]), E⟩
    ·skip
     refine aO rfl (aB (z := .int .u8 0) Tn.u Kr rfl rfl rfl rfl rfl) rfl ?_
     rintro _ w6 ⟨g6, rfl, B6, Vs, ex⟩
     refine ⟨.inr ex, ?_⟩
     obtain ⟨E,B1,R4⟩ := bC ex E B1 R4
     have H6 := aZ (xs := [UInt8.ofNat l.src]) (B6.congr (by rfl)) rfl
     refine bm 9 rfl func54 rfl (dX (Bs.ext b2 E) Om) ?_
     rintro e w5 ⟨A5, k5, c5, rfl, R5, Vr, ex⟩
     obtain ⟨E,B1,R4,H6⟩ := bU ex E B1 R4 H6
     refine aU ?_
     refine bm 13 rfl func214 rfl (cw R5.bs H6 Om Om) ?_
     rintro e w7 ⟨A7, c7, rfl, R7, ex⟩
     obtain ⟨E,B1,R4⟩ := bC ex E B1 R4
     refine aU ?_
     have Vl := E.size
     refine bm 14 rfl func214 rfl (cw R4.bs R7.bs Om Om) ?_
     rintro e w8 ⟨A8, c8, rfl, R8, ex⟩
     obtain ⟨E,B1⟩ := aY ex E B1
     replace R8 := R8.lower Vl
     refine zm [15] ?_
     refine al rfl (fun Vn => ?_) (fun Vn => ?_)
     ·refine aU ?_
      refine aL func54 rfl (dX (Bs.ext b4 E) Om) ?_
      rintro e w9 ⟨A9, k9, c9, rfl, R9, Vt, ex⟩
      obtain ⟨E,R8⟩ := aY ex E R8
      refine aU ?_
      have Vm := E.size
      refine aL func214 rfl (cw R8.bs R9.bs Om Om) ?_
      rintro e Vu ⟨Vo, Vp, rfl, Vq, ex⟩
      replace E := E.ext ex
      refine aU ?_
      refine hret rfl ?_
      exact ⟨Vo, _, Vp, rfl, (Vq.lower Vm).congr rfl (by unfold dt; rw [if_pos Om]; simp only [List.append_assoc]), E⟩
     ·refine aU ?_
      refine hret rfl ?_
      exact ⟨A8, _, c8, rfl, R8.congr rfl (by unfold dt; rw [if_neg Om]; simp only [List.append_assoc, List.append_nil]), E⟩
   ·skip
    refine aO rfl (aB (z := .int .u8 0) Tn.u Kr rfl rfl rfl rfl rfl) rfl ?_
    rintro _ w6 ⟨g6, rfl, B6, Vs, ex⟩
    refine ⟨.inr ex, ?_⟩
    obtain ⟨E,B1,R2,R3⟩ := bU ex E B1 R2 R3
    have H6 := aZ (xs := [UInt8.ofNat l.src]) (B6.congr (by rfl)) rfl
    refine bm 6 rfl func214 rfl (cw R2.bs R3.bs Om Om) ?_
    rintro e w4 ⟨A4, c4, rfl, R4, ex⟩
    obtain ⟨E,B1,H6⟩ := bC ex E B1 H6
    refine aU ?_
    refine bm 9 rfl func54 rfl (dX (Bs.ext b2 E) Om) ?_
    rintro e w5 ⟨A5, k5, c5, rfl, R5, Vr, ex⟩
    obtain ⟨E,B1,H6,R4⟩ := bU ex E B1 H6 R4
    refine aU ?_
    refine bm 13 rfl func214 rfl (cw R5.bs H6 Om Om) ?_
    rintro e w7 ⟨A7, c7, rfl, R7, ex⟩
    obtain ⟨E,B1,R4⟩ := bC ex E B1 R4
    refine aU ?_
    have Vl := E.size
    refine bm 14 rfl func214 rfl (cw R4.bs R7.bs Om Om) ?_
    rintro e w8 ⟨A8, c8, rfl, R8, ex⟩
    obtain ⟨E,B1⟩ := aY ex E B1
    replace R8 := R8.lower Vl
    refine zm [15] ?_
    refine al rfl (fun Vn => ?_) (fun Vn => ?_)
    ·refine aU ?_
     refine aL func54 rfl (dX (Bs.ext b4 E) Om) ?_
     rintro e w9 ⟨A9, k9, c9, rfl, R9, Vt, ex⟩
     obtain ⟨E,R8⟩ := aY ex E R8
     refine aU ?_
     have Vm := E.size
     refine aL func214 rfl (cw R8.bs R9.bs Om Om) ?_
     rintro e Vu ⟨Vo, Vp, rfl, Vq, ex⟩
     replace E := E.ext ex
     refine aU ?_
     refine hret rfl ?_
     exact ⟨Vo, _, Vp, rfl, (Vq.lower Vm).congr rfl (by unfold dt; rw [if_pos Om]; simp only [List.append_assoc]), E⟩
    ·refine aU ?_
     refine hret rfl ?_
     exact ⟨A8, _, c8, rfl, R8.congr rfl (by unfold dt; rw [if_neg Om]; simp only [List.append_assoc, List.append_nil]), E⟩
  ·skip
   refine aO rfl (aB (z := .int .u8 0) Tn.u Kr rfl rfl rfl rfl rfl) rfl ?_
   rintro _ w6 ⟨g6, rfl, B6, Vs, ex⟩
   refine ⟨.inr ex, ?_⟩
   obtain ⟨E,B1,R2⟩ := bC ex E B1 R2
   have H6 := aZ (xs := [UInt8.ofNat l.src]) (B6.congr (by rfl)) rfl
   refine bm 5 rfl func54 rfl (dX (Bs.ext b1 E) Om) ?_
   rintro e w3 ⟨A3, k3, c3, rfl, R3, Vv, ex⟩
   obtain ⟨E,B1,R2,H6⟩ := bU ex E B1 R2 H6
   refine aU ?_
   refine bm 6 rfl func214 rfl (cw R2.bs R3.bs Om Om) ?_
   rintro e w4 ⟨A4, c4, rfl, R4, ex⟩
   obtain ⟨E,B1,H6⟩ := bC ex E B1 H6
   refine aU ?_
   refine bm 9 rfl func54 rfl (dX (Bs.ext b2 E) Om) ?_
   rintro e w5 ⟨A5, k5, c5, rfl, R5, Vr, ex⟩
   obtain ⟨E,B1,H6,R4⟩ := bU ex E B1 H6 R4
   refine aU ?_
   refine bm 13 rfl func214 rfl (cw R5.bs H6 Om Om) ?_
   rintro e w7 ⟨A7, c7, rfl, R7, ex⟩
   obtain ⟨E,B1,R4⟩ := bC ex E B1 R4
   refine aU ?_
   have Vl := E.size
   refine bm 14 rfl func214 rfl (cw R4.bs R7.bs Om Om) ?_
   rintro e w8 ⟨A8, c8, rfl, R8, ex⟩
   obtain ⟨E,B1⟩ := aY ex E B1
   replace R8 := R8.lower Vl
   refine zm [15] ?_
   refine al rfl (fun Vn => ?_) (fun Vn => ?_)
   ·refine aU ?_
    refine aL func54 rfl (dX (Bs.ext b4 E) Om) ?_
    rintro e w9 ⟨A9, k9, c9, rfl, R9, Vt, ex⟩
    obtain ⟨E,R8⟩ := aY ex E R8
    refine aU ?_
    have Vm := E.size
    refine aL func214 rfl (cw R8.bs R9.bs Om Om) ?_
    rintro e Vu ⟨Vo, Vp, rfl, Vq, ex⟩
    replace E := E.ext ex
    refine aU ?_
    refine hret rfl ?_
    exact ⟨Vo, _, Vp, rfl, (Vq.lower Vm).congr rfl (by unfold dt; rw [if_pos Om]; simp only [List.append_assoc]), E⟩
   ·refine aU ?_
    refine hret rfl ?_
    exact ⟨A8, _, c8, rfl, R8.congr rfl (by unfold dt; rw [if_neg Om]; simp only [List.append_assoc, List.append_nil]), E⟩
 ·skip
  refine aO rfl (aB (z := .int .u8 0) Tn.u Kr rfl rfl rfl rfl rfl) rfl ?_
  rintro _ w6 ⟨g6, rfl, B6, Vs, ex⟩
  refine ⟨.inr ex, ?_⟩
  obtain ⟨E,B1⟩ := aY ex E B1
  have H6 := aZ (xs := [UInt8.ofNat l.src]) (B6.congr (by rfl)) rfl
  refine bm 2 rfl func54 rfl (dX (Bs.ext b0 E) Om) ?_
  rintro e w2 ⟨A2, k2, c2, rfl, R2, Vw, ex⟩
  obtain ⟨E,B1,H6⟩ := bC ex E B1 H6
  refine aU ?_
  refine bm 5 rfl func54 rfl (dX (Bs.ext b1 E) Om) ?_
  rintro e w3 ⟨A3, k3, c3, rfl, R3, Vv, ex⟩
  obtain ⟨E,B1,H6,R2⟩ := bU ex E B1 H6 R2
  refine aU ?_
  refine bm 6 rfl func214 rfl (cw R2.bs R3.bs Om Om) ?_
  rintro e w4 ⟨A4, c4, rfl, R4, ex⟩
  obtain ⟨E,B1,H6⟩ := bC ex E B1 H6
  refine aU ?_
  refine bm 9 rfl func54 rfl (dX (Bs.ext b2 E) Om) ?_
  rintro e w5 ⟨A5, k5, c5, rfl, R5, Vr, ex⟩
  obtain ⟨E,B1,H6,R4⟩ := bU ex E B1 H6 R4
  refine aU ?_
  refine bm 13 rfl func214 rfl (cw R5.bs H6 Om Om) ?_
  rintro e w7 ⟨A7, c7, rfl, R7, ex⟩
  obtain ⟨E,B1,R4⟩ := bC ex E B1 R4
  refine aU ?_
  have Vl := E.size
  refine bm 14 rfl func214 rfl (cw R4.bs R7.bs Om Om) ?_
  rintro e w8 ⟨A8, c8, rfl, R8, ex⟩
  obtain ⟨E,B1⟩ := aY ex E B1
  replace R8 := R8.lower Vl
  refine zm [15] ?_
  refine al rfl (fun Vn => ?_) (fun Vn => ?_)
  ·refine aU ?_
   refine aL func54 rfl (dX (Bs.ext b4 E) Om) ?_
   rintro e w9 ⟨A9, k9, c9, rfl, R9, Vt, ex⟩
   obtain ⟨E,R8⟩ := aY ex E R8
   refine aU ?_
   have Vm := E.size
   refine aL func214 rfl (cw R8.bs R9.bs Om Om) ?_
   rintro e Vu ⟨Vo, Vp, rfl, Vq, ex⟩
   replace E := E.ext ex
   refine aU ?_
   refine hret rfl ?_
   exact ⟨Vo, _, Vp, rfl, (Vq.lower Vm).congr rfl (by unfold dt; rw [if_pos Om]; simp only [List.append_assoc]), E⟩
  ·refine aU ?_
   refine hret rfl ?_
   exact ⟨A8, _, c8, rfl, R8.congr rfl (by unfold dt; rw [if_neg Om]; simp only [List.append_assoc, List.append_nil]), E⟩
theorem pq {cs : Array Value} {l : bO} (w : World) (H : dz w cs l) (hf : l.Fit) :
  Ct 159 #[.agg cs] w fun e w' => ∃ A' k c', e = .returned (.slice A' k c') ∧ Row w' w.heap.size 5 A' k c' ((jx l).map bv) ∧ Ext w w' := by
 have HH := H
 have hU := jn hf
 obtain ⟨h0, h1, h2, h4, h5, rfl, hs, b0, b1, b2, b4, b5⟩ := H
 have l5 := b5.1
 have f5 := hf.2.2.2.2
 have E := Ext.refl w
 refine aj 9 func159 rfl rfl rfl rfl ?_
 intro _ hret
 refine aU ?_
 intro _ _ B1 _ ex
 replace E := E.ext ex
 refine aU ?_
 refine aA Kr 7 rfl ?_; intro Vm ex Vn
 obtain ⟨E,B1⟩ := aY ex E B1
 refine zm [0, 2, 3] ?_
 refine bm 1 rfl func215 rfl (zx _ (HH.ext E) hf) ?_
 rintro e _ ⟨_, _, _, rfl, R2, ex⟩
 refine aU ?_
 replace E := E.ext ex
 have Vo := R2.bs.1
 refine bm 4 rfl func54 rfl (dX (Bs.ext b5 E) Om) ?_
 rintro e _ ⟨_, _, _, rfl, R3, _, ex⟩
 obtain ⟨E,R2⟩ := aY ex E R2
 refine aU ?_
 have Vl := E.size
 refine bm 5 rfl func214 rfl (cw R2.bs R3.bs Om Om) ?_
 rintro e _ ⟨A4, c4, rfl, R4, ex⟩
 replace E := E.ext ex
 refine zm [6] ?_
 refine hret rfl ?_
 exact ⟨A4, _, c4, rfl, R4.lower Vl, E⟩
end
section
open Go.RowKit Tryz
attribute [local irreducible] Y Ef WL WC WK WQ WM cx WN WF cT
open Nd
structure Pack where
 init : List UInt8
 leaf : bO
 sig : List UInt8
structure eC where
 kind : Nat
 pack : Pack
 leaf : bO
 at_ : Int
def Pack.zero : Pack := ⟨[], bO.zero, []⟩
def dk (i h0 h1 h2 : Hd) (s : Nat) (h4 h5 g : Hd) : Array Value := #[.slice i.A i.n i.c, .slice h0.A h0.n h0.c, .slice h1.A h1.n h1.c, .slice h2.A h2.n h2.c, .int .u8 (s : Int), .slice h4.A h4.n h4.c, .slice h5.A h5.n h5.c, .slice g.A g.n g.c]
def fG (B : Hd → List UInt8 → Prop) (cs : Array Value) (p : Pack) : Prop :=
 ∃ i h0 h1 h2 h4 h5 g, cs = dk i h0 h1 h2 p.leaf.src h4 h5 g ∧ p.leaf.src < 256 ∧ B i p.init ∧ B h0 p.leaf.box ∧ B h1 p.leaf.sign ∧ B h2 p.leaf.ident ∧ B h4 p.leaf.parent ∧ B h5 p.leaf.sig ∧ B g p.sig
section
variable {B B' : Hd → List UInt8 → Prop} {cs : Array Value} {p : Pack} {q : eC}
theorem fG.imp (h : fG B cs p) (f : ∀ h xs, B h xs → B' h xs) : fG B' cs p := by
 obtain ⟨i, h0, h1, h2, h4, h5, g, e, hs, a, b0, b1, b2, b4, b5, c⟩ := h
 exact ⟨i, h0, h1, h2, h4, h5, g, e, hs, f _ _ a, f _ _ b0, f _ _ b1, f _ _ b2, f _ _ b4, f _ _ b5, f _ _ c⟩
theorem fG.leaf (h : fG B cs p) : ik B ((cs.toList.drop 1).take 6).toArray p.leaf := by
 obtain ⟨i, h0, h1, h2, h4, h5, g, rfl, hs, a, b0, b1, b2, b4, b5, c⟩ := h
 exact ⟨h0, h1, h2, h4, h5, rfl, hs, b0, b1, b2, b4, b5⟩
end
def cS (w : World) (cs : Array Value) (p : Pack) : Prop := fG (nI w) cs p
section
variable {w w' : World} {cs : Array Value} {p : Pack} {q : eC}
theorem cS.ext (h : cS w cs p) (e : Ext w w') : cS w' cs p := fG.imp h fun _ _ b => Bs.ext b e
theorem cS.leaf (h : cS w cs p) : dz w ((cs.toList.drop 1).take 6).toArray p.leaf := fG.leaf h
end
def Pack.Fit (p : Pack) : Prop := p.init.length ≤ 1000000 ∧ p.leaf.Fit ∧ p.sig.length ≤ 1000000
/-! Which may be. -/
def iV (l : bO) (s : Nat) : Prop := aC l ∧ l.src = s
instance (l : bO) (s : Nat) : Decidable (iV l s) := by unfold iV; infer_instance
def df (p : Pack) : Prop := p.init.length = 32 ∧ iV p.leaf 1 ∧ p.sig.length = 64
instance (p : Pack) : Decidable (df p) := by unfold df; infer_instance
theorem wY {l : bO} : (kf l).2 = 0 ↔ aC l := by
 unfold kf
 split
 ·rename_i h; exact ⟨fun _ => h, fun _ => rfl⟩
 ·rename_i h; exact ⟨fun e => by simp at e, fun k => absurd k h⟩
section
variable {cs : Array Value} {l : bO} {p : Pack} {q : eC} {s : Nat}
theorem nN (w : World) (H : dz w cs l) (hf : l.Fit) :
  Ct 160 #[.agg cs, .int .u8 (s : Int)] w fun e w' => e = .returned (.bool (decide (iV l s))) ∧ Ext w w' := by
 have HL := H
 have hc := wY (l := l)
 obtain ⟨h0, h1, h2, h4, h5, rfl, hs, b0, b1, b2, b4, b5⟩ := H
 have E := Ext.refl w
 refine aj 20 func160 rfl rfl rfl rfl ?_
 intro _ hret
 refine aU ?_
 intro _ _ B2 _ ex
 replace E := E.ext ex
 refine aU ?_
 refine aL func216 rfl (kv _ (HL.ext E) hf) ?_
 rintro e _ ⟨_, _, _, rfl, _, ex⟩
 obtain ⟨E,B2⟩ := aY ex E B2
 refine au 12 ?_
 refine bH (bj rfl) rfl (fun q0 => ?_) (fun q0 => ?_)
 ·refine aU ?_
  refine hret rfl ?_
  exact ⟨by rw [decide_eq_decide.2 (show (l.src : Int) = (s : Int) ↔ iV l s from ⟨fun h => ⟨hc.1 Om, by omega⟩, fun h => by rw [h.2]⟩)], E⟩
 ·refine aU ?_
  refine hret rfl ?_
  exact ⟨aP fun h => q0 (by rw [hc.2 h.1]; rfl), E⟩
theorem tO (w : World) (H : dz w cs l) :
  Ct 33 #[.agg cs, .int .u8 (s : Int)] w fun e w' => e = .returned (.bool (decide (iV l s))) ∧ Ext w w' := by
 have HL := H
 obtain ⟨h0, h1, h2, h4, h5, rfl, hs, b0, b1, b2, b4, b5⟩ := H
 have E := Ext.refl w
 refine aj 13 func33 rfl rfl rfl rfl ?_
 intro _ hret
 refine aU ?_
 intro _ _ B2 _ ex
 replace E := E.ext ex
 refine aU ?_
 refine aL func79 rfl (pT _ (HL.ext E)) ?_
 rintro e _ ⟨rfl, ex⟩
 obtain ⟨E,B2⟩ := aY ex E B2
 refine au 1 ?_
 refine bH (bj rfl) rfl (fun q0 => ?_) (fun q0 => ?_)
 ·refine aU ?_
  refine hret rfl ?_
  exact ⟨by rw [decide_eq_decide.2 (show (l.src : Int) = (s : Int) ↔ iV l s from ⟨fun h => ⟨q0, by omega⟩, fun h => by rw [h.2]⟩)], E⟩
 ·refine aU ?_
  refine hret rfl ?_
  exact ⟨aP fun h => q0 h.1, E⟩
theorem kl (w : World) (H : cS w cs p) (hf : p.Fit) :
  Ct 84 #[.agg cs] w fun e w' => e = .returned (.bool (decide (df p))) ∧ Ext w w' := by
 have HL := H.leaf
 obtain ⟨i, h0, h1, h2, h4, h5, g, rfl, hs, a, b0, b1, b2, b4, b5, c⟩ := H
 have la := a.1; have lc := c.1
 have E := Ext.refl w
 refine aj 18 func84 rfl rfl rfl rfl ?_
 intro _ hret
 refine aU ?_
 intro _ _ B1 _ ex
 replace E := E.ext ex
 refine au 9 ?_
 refine bH (bj rfl) rfl (fun q0 => ?_) (fun q0 => ?_)
 ·refine aU ?_
  refine fE 7 rfl rfl func160 rfl rfl rfl (nN (s := 1) _ (HL.ext E) hf.2.1) rfl ?_
  rintro e _ ⟨rfl, ex⟩
  obtain ⟨E,B1⟩ := aY ex E B1
  refine au 2 ?_
  refine bH (bj rfl) rfl (fun q1 => ?_) (fun q1 => ?_)
  ·refine aU ?_
   refine hret rfl ?_
   exact ⟨dJ ⟨fun h => ⟨by omega, q1, by omega⟩, fun h => by have := h.2.2; omega⟩, E⟩
  ·refine aU ?_
   refine hret rfl ?_
   exact ⟨aP fun h => q1 h.2.1, E⟩
 ·refine aU ?_
  refine hret rfl ?_
  exact ⟨aP fun h => q0 (by rw [← la, h.1]; rfl), E⟩
theorem yI (w : World) (H : cS w cs p) :
  Ct 10 #[.agg cs] w fun e w' => e = .returned (.bool (decide (df p))) ∧ Ext w w' := by
 have HL := H.leaf
 obtain ⟨i, h0, h1, h2, h4, h5, g, rfl, hs, a, b0, b1, b2, b4, b5, c⟩ := H
 have la := a.1; have lc := c.1
 have E := Ext.refl w
 refine aj 18 func10 rfl rfl rfl rfl ?_
 intro _ hret
 refine aU ?_
 intro _ _ B1 _ ex
 replace E := E.ext ex
 refine au 9 ?_
 refine bH (bj rfl) rfl (fun q0 => ?_) (fun q0 => ?_)
 ·refine aU ?_
  refine fE 7 rfl rfl func33 rfl rfl rfl (tO (s := 1) _ (HL.ext E)) rfl ?_
  rintro e _ ⟨rfl, ex⟩
  obtain ⟨E,B1⟩ := aY ex E B1
  refine au 2 ?_
  refine bH (bj rfl) rfl (fun q1 => ?_) (fun q1 => ?_)
  ·refine aU ?_
   refine hret rfl ?_
   exact ⟨dJ ⟨fun h => ⟨by omega, q1, by omega⟩, fun h => by have := h.2.2; omega⟩, E⟩
  ·refine aU ?_
   refine hret rfl ?_
   exact ⟨aP fun h => q1 h.2.1, E⟩
 ·refine aU ?_
  refine hret rfl ?_
  exact ⟨aP fun h => q0 (by rw [← la, h.1]; rfl), E⟩
end
end
section
open Go.RowKit
attribute [local irreducible] Y Ef WL WC WK WQ WM cx WN WF cT
open Nd
def Pack.Small (p : Pack) : Prop := p.init.length ≤ 100 ∧ p.sig.length ≤ 100 ∧ (⟨0, p.leaf, Ak.zero⟩ : Node).Small
instance (p : Pack) : Decidable p.Small := by unfold Pack.Small; infer_instance
def eC.Small (p : eC) : Prop := p.pack.Small ∧ (⟨0, p.leaf, Ak.zero⟩ : Node).Small
instance (p : eC) : Decidable p.Small := by unfold eC.Small; infer_instance
theorem Pack.Small.fit {p : Pack} (h : p.Small) : p.Fit := ⟨by have := h.1; omega, h.2.2.fit.1, by have := h.2.1; omega⟩
section
variable {cs : Array Value} {p : Pack} {q : eC}
theorem zw (z : Int) (w : World) : Ct 183 #[.int .i64 z] w fun e w' => e = .returned (.bool (decide (0 ≤ z ∧ z ≤ 65535))) ∧ Ext w w' := by
 have E := Ext.refl w
 refine aj 9 Tryz.func183 rfl rfl rfl rfl ?_
 intro _ hret
 refine au 9 ?_
 refine bH (bj rfl) rfl (fun q0 => ?_) (fun q0 => ?_)
 ·refine aU ?_
  refine hret rfl ?_
  exact ⟨dJ ⟨fun h => by omega, fun h => by omega⟩, E⟩
 ·refine aU ?_
  refine hret rfl ?_
  exact ⟨aP fun h => by omega, E⟩
end
end
section
open Go.RowKit Tryz
attribute [local irreducible] Y Ef WL WC WK WQ WM cx WN WF cT
open Nd Wire
def jv (p : Pack) : List UInt8 := [0, 1, 0, 1] ++ vec p.init ++ jx p.leaf
def xX (p : Pack) : List UInt8 := jv p ++ vec p.sig
theorem tN {l : bO} (h : (⟨0, l, Ak.zero⟩ : Node).Small) : (jx l).length ≤ 1200 := by
 obtain ⟨f0, f1, f2, f4, f5, _⟩ := h
 have f0 : l.box.length ≤ 200 := f0
 have f1 : l.sign.length ≤ 200 := f1
 have f2 : l.ident.length ≤ 200 := f2
 have f4 : l.parent.length ≤ 200 := f4
 have f5 : l.sig.length ≤ 200 := f5
 have h0 := dy l.box; have h1 := dy l.sign; have h2 := dy l.ident; have h4 := dy l.parent; have h5 := dy l.sig
 unfold jx dt
 simp only [List.length_append, List.length_singleton]
 split
 ·omega
 ·simp only [List.length_nil]; omega
theorem jy {p : Pack} (h : p.Small) : (jv p).length ≤ 1400 := by
 have h1 := dy p.init; have h2 := tN h.2.2; have h3 := h.1
 unfold jv
 simp only [List.length_append, List.length_cons, List.length_nil]; omega
theorem CF {p : Pack} (h : p.Small) : (xX p).length ≤ 1600 := by
 have h1 := dy p.sig; have h2 := jy h; have h3 := h.2.1
 unfold xX
 rw [List.length_append]; omega
theorem lA {ok : Bool} {f : FuncId} {us : List Value} {fn : Func} {b : Code} {Ψ : World → Option Addr → Nat → Nat → Prop} (w : World) (hf : Tryz.prog.funcs[f]? = some fn) (hb : fn.body = some b) (hnm : (fn.name == "runtime.NumGoroutine") = false)
  (hp : ok = true → ∀ w1 : World, Ext w w1 → Ct f us.toArray w1 fun e w' => ∃ A k c, e = .returned (.slice A k c) ∧ Ψ w' A k c ∧ Ext w1 w') :
  Ct 83 #[.bool ok, .func (.func f) #[] us.toArray] w fun e w' => ∃ A k c, ∃ z : Nat, e = .returned (.tuple #[.slice A k c, .int .u8 (z : Int)]) ∧ (ok = true → z = 0 ∧ Ψ w' A k c) ∧ (ok = false → z = 3 ∧ A = none ∧ k = 0 ∧ c = 0) ∧ Ext w w' := by
 have E := Ext.refl w
 refine bK 10 func83 rfl rfl rfl rfl ?_
 intro _ hret
 refine aU ?_
 refine bW rfl (fun Vl => ?_) (fun Vl => ?_)
 ·refine aU ?_
  refine hret rfl rfl ?_
  exact ⟨none, 0, 0, 3, rfl, fun h => (by rw [h] at Vl; cases Vl), fun _ => ⟨rfl, rfl, rfl, rfl⟩, E⟩
 ·have hok : ok = true := by cases ok <;> simp_all
  refine aU ?_
  refine af (lK (Φ := fun v w' => ∃ A k c, v = .slice A k c ∧ Ψ w' A k c ∧ Ext _ w') (xs := []) (vs := []) rfl hf hb hnm rfl (hp hok _ E) (fun _ _ ⟨A, k, c, h1, h2, h3⟩ => ⟨_, h1, A, k, c, rfl, h2, h3⟩)) rfl ?_
  rintro _ _ ⟨A2, k2, c2, rfl, P2, ex⟩
  replace E := E.ext ex
  refine aU ?_
  refine hret rfl rfl ?_
  exact ⟨A2, k2, c2, 0, rfl, fun _ => ⟨rfl, P2⟩, fun h => (by rw [h] at hok; cases hok), E⟩
section
variable {cs : Array Value} {l : bO} {p : Pack} {q : eC}
theorem nO (w : World) (H : dz w cs l) (hf : l.Fit) (ok : aC l) :
  Ct 164 #[.agg cs] w fun e w' => ∃ A' k c', e = .returned (.slice A' k c') ∧ Row w' w.heap.size 5 A' k c' ((jx l).map bv) ∧ Ext w w' := by
 have HL := H
 have e1 : kf l = (jx l, 0) := by unfold kf; rw [if_pos ok]
 obtain ⟨h0, h1, h2, h4, h5, rfl, hs, b0, b1, b2, b4, b5⟩ := H
 have E := Ext.refl w
 refine aj 11 func164 rfl rfl rfl rfl ?_
 intro _ hret
 refine aU ?_
 intro _ _ _ _ ex
 replace E := E.ext ex
 have Vl := E.size
 refine aU ?_
 refine aL func216 rfl (kv _ (HL.ext E) hf) ?_
 rintro e _ ⟨A2, k2, c2, rfl, R2, ex⟩
 replace E := E.ext ex
 rw [e1] at R2
 refine aU ?_
 refine hret rfl ?_
 exact ⟨A2, k2, c2, rfl, R2.lower Vl, E⟩
theorem lU (w : World) (H : cS w cs p) (hf : p.Fit) (ok : df p) :
  Ct 88 #[.agg cs] w fun e w' => ∃ A' k c', e = .returned (.slice A' k c') ∧ Row w' w.heap.size 5 A' k c' ((jv p).map bv) ∧ Ext w w' := by
 have HL := H.leaf
 have hB := C5 hf.2.1
 have h6 := hf.1
 obtain ⟨i, h0, h1, h2, h4, h5, g, rfl, hs, a, b0, b1, b2, b4, b5, c⟩ := H
 have la := a.1
 have E := Ext.refl w
 refine aj 14 func88 rfl rfl rfl rfl ?_
 intro _ hret
 refine aU ?_
 intro _ _ B1 _ ex
 replace E := E.ext ex
 refine aU ?_
 refine aL func163 rfl (gl none 0 0 2 1 [] _ (Bs.nil _ _) Om Om Om) ?_
 rintro e _ ⟨A2, c2, rfl, R2, ex⟩
 obtain ⟨E,B1⟩ := aY ex E B1
 refine aU ?_
 refine aL func163 rfl (gl A2 _ c2 2 1 _ _ R2.bs Om Om Om) ?_
 rintro e _ ⟨A3, c3, rfl, R3, ex⟩
 obtain ⟨E,B1⟩ := aY ex E B1
 refine aU ?_
 refine aA Kr 9 rfl ?_; intro Vn ex Vo
 obtain ⟨E,B1,R3⟩ := bC ex E B1 R3
 refine zm [0, 1, 2, 4, 5] ?_
 have Vl := E.size
 refine bm 3 rfl func87 rfl (cQ A3 i.A _ c3 i.n i.c _ _ _ R3.bs Om (Bs.ext a E) Om) ?_
 rintro e _ ⟨_, _, _, rfl, R4, _, ex⟩
 refine aU ?_
 replace E := E.ext ex
 have Vp := bu i.n; replace R4 := R4.lower Vl
 refine bm 6 rfl func164 rfl (nO _ (HL.ext E) hf.2.1 ok.2.1.1) ?_
 rintro e _ ⟨_, _, _, rfl, R5, ex⟩
 refine aU ?_
 obtain ⟨E,R4⟩ := aY ex E R4
 have Vq := R5.bs.1
 have Vm := E.size
 refine aM 7 Kr ?_; refine aO rfl (aQ rfl rfl bF R4 R5.at R5.len aH Om Om Vm) rfl ?_
 rintro _ _ ⟨A6, c6, rfl, R6, be, _, _⟩
 refine ⟨.inl rfl, ?_⟩
 replace E := E.trans be; have R7 := R6.cat
 refine zm [8] ?_
 refine hret rfl ?_
 exact ⟨A6, _, c6, rfl, R7.congr rfl (by unfold jv; rw [List.nil_append]; rfl), E⟩
theorem qe (w : World) (H : cS w cs p) (Vl : p.Small) :
  Ct 81 #[.agg cs] w fun e w' => ∃ A' k c', e = .returned (.slice A' k c') ∧ Row w' w.heap.size 5 A' k c' ((jv p).map bv) ∧ Ext w w' := by
 have HL := H.leaf
 have hf := Vl.fit
 have hB := tN Vl.2.2
 have h6 := Vl.1
 obtain ⟨i, h0, h1, h2, h4, h5, g, rfl, hs, a, b0, b1, b2, b4, b5, c⟩ := H
 have la := a.1
 have E := Ext.refl w
 refine aj 13 func81 rfl rfl rfl rfl ?_
 intro _ hret
 refine aU ?_
 intro _ _ B1 _ ex
 replace E := E.ext ex
 refine aU ?_
 refine aA Kr 11 rfl ?_; intro Vn ex Vo
 obtain ⟨E,B1⟩ := aY ex E B1
 refine zm [3, 4, 6, 7] ?_
 refine bm 0 rfl func158 rfl (jY 1 _ Om) ?_
 rintro e _ ⟨A2, c2, rfl, R2, ex⟩
 replace E := E.ext ex
 refine aU ?_
 refine bm 1 rfl func158 rfl (jY 1 _ Om) ?_
 rintro e _ ⟨A3, c3, rfl, R3, ex⟩
 obtain ⟨E,R2⟩ := aY ex E R2
 refine aU ?_
 refine bm 2 rfl func80 rfl (dh A2 A3 _ c2 _ c3 _ _ _ R2.bs Om R3.bs Om) ?_
 rintro e _ ⟨A4, c4, rfl, R4, ex⟩
 replace E := E.ext ex
 refine aU ?_
 refine bm 5 rfl func82 rfl (dq i.A i.n i.c _ _ (Bs.ext a E) Om) ?_
 rintro e _ ⟨A5, k5, c5, rfl, R5, _, ex⟩
 refine aU ?_
 obtain ⟨E,R4⟩ := aY ex E R4
 have Vp := bu i.n
 refine bm 8 rfl func159 rfl (pq _ (HL.ext E) hf.2.1) ?_
 rintro e _ ⟨A6, k6, c6, rfl, R6, ex⟩
 refine aU ?_
 obtain ⟨E,R4,R5⟩ := bC ex E R4 R5
 have Vq := R6.bs.1
 have Vm := E.size
 refine bm 9 rfl func122 rfl (dO A4 A5 A6 _ c4 k5 c5 k6 c6 _ _ _ _ R4.bs Om R5.bs Om R6.bs Om) ?_
 rintro e _ ⟨A7, c7, rfl, R7, ex⟩
 replace E := E.ext ex
 refine zm [10] ?_
 refine hret rfl ?_
 exact ⟨A7, _, c7, rfl, (R7.lower Vm).congr rfl (by unfold jv; rfl), E⟩
end
end
end Go.Proofs.YtgfafidlkldeaaaGreat
