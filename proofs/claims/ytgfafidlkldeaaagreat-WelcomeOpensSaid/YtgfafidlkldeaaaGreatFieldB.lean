/- The field's numbers by what they are worth: Num, Add, Sub, Neg, Mul, Square, Same, Zero, Odd: what each hands back. The field's Same and Zero. -/
import Derived.Test.YtgfafidlkldeaaaGreatMsZ
import Derived.Test.YtgfafidlkldeaaaGreatBigC
import Derived.Test.YtgfafidlkldeaaaGreatVc7
import Derived.Lib.Mul64
import Derived.Laws.Externs
import Derived.Laws.StructEq
import Derived.ChangeKeysEq
set_option linter.unusedVariables false
set_option linter.unusedSimpArgs false
set_option maxHeartbeats 4000000
set_option maxRecDepth 4000
namespace Go.Proofs.YtgfafidlkldeaaaGreat
variable {cs ds old : Array Value} {a b base c gm j k m n q r x : Nat} {S f g h s : Nat → Nat} {t t' ty : TypeId} {w : World} {i : jq}
section
open Go.RowKit
attribute [local irreducible] Y Ef WL WC WK WQ WM cv WN WF cZ WJ gI
open Wire Nd M20
theorem oF {s : St} {B : Nat} (h : ru s ≤ B) : (dh s).1.length ≤ B ∧ ru (dh s).2 ≤ B := by have := Dh s; omega
theorem Ay {α : Type} (z : α) (p : α × St) (ok : Bool) : (db z p ok).2 = if eY p.2 ≠ 0 then eY p.2 else if ok then 0 else 3 := by
 unfold db;split
 ·rfl
 split <;> rfl
theorem xZ {α : Type} {z : α} {p : α × St} {ok : Bool} (h : (if eY p.2 ≠ 0 then eY p.2 else if ok then 0 else 3) ≠ 0) : db z p ok = (z, if eY p.2 ≠ 0 then eY p.2 else if ok then 0 else 3) := by rw [← Ay z] at h ⊢;exact Prod.ext (y5 h) rfl
theorem uJ {α : Type} {z : α} {p : α × St} {ok : Bool} (h : ¬ (if eY p.2 ≠ 0 then eY p.2 else if ok then 0 else 3) ≠ 0) : db z p ok = (p.1, 0) := by
 unfold db;split at h
 ·rename_i h1; exact absurd h1 h
 rename_i h1;rw [if_neg h1];split at h
 ·rename_i h2; rw [if_pos h2]
 exact absurd (show (3 : Nat) ≠ 0 by decide) h
theorem zp (h : old.size = k) (hc : cs.size = k) : (old.toList.take 0 ++ cs.toList ++ old.toList.drop (0 + cs.size)).toArray = cs := by have e : old.toList.drop (0 + cs.size) = [] := List.drop_of_length_le So;rw [e]; simp
end
section
open Go.RowKit Tryz
attribute [local irreducible] Y Ef WL WC WK WQ WM cv WN WF cZ WJ gI
open Wire Nd M20
section
variable {x : kg} {g : Nat}
theorem ug (w : World) (H : fX w cs i) :
  Ct 111 #[.agg cs] w fun e w' => e = .returned (.bool (decide (gL i))) ∧ Ext w w' := by
 obtain ⟨gr, tr, u, tg, sg, rfl, he, hz, a, b, c, d, k⟩ := H;have n1 := a.1; have n2 := b.1; have n3 := c.1; have n4 := d.1; have n5 := k.1;have E := Ext.refl w;refine ai 39 func111 rfl rfl rfl rfl ?_;intro _ hret;refine aU ?_;intro _ _ B1 _ ex;replace E := E.ext ex;refine aU ?_;intro _ _ D3 Vq exA;refine aU ?_;intro _ _ cg;have ex := exA.aA cg Vq; clear cg exA D3;obtain ⟨E,B1⟩ := aZ ex E B1;refine au 7 ?_;refine bf (qC rfl rfl) rfl (fun q1 => ?_) (fun q1 => ?_)
 ·refine au 4 ?_;refine aG 10 rfl rfl (cO rfl rfl) rfl (fun q2 => ?_) (fun q2 => ?_)
  ·refine au 5 ?_;refine aG 16 rfl rfl (cO rfl rfl) rfl (fun q3 => ?_) (fun q3 => ?_)
   ·refine au 5 ?_;refine aG 22 rfl rfl (cO rfl rfl) rfl (fun q4 => ?_) (fun q4 => ?_)
    ·refine aU ?_;refine fJ 28 rfl rfl func183 rfl rfl rfl (Ej _ _) rfl ?_;rintro e _ ⟨rfl, ex⟩;obtain ⟨E,B1⟩ := aZ ex E B1;refine au 2 ?_;refine lJ (aY rfl) rfl (fun q5 => ?_) (fun q5 => ?_)
     ·refine aU ?_;refine hret rfl ?_;exact ⟨dM ⟨fun h => ⟨by omega, by omega, by omega, by omega, (by simpa using q5), by omega⟩, fun h => by have := h.2.2.2.2.2; omega⟩, E⟩
     refine aU ?_;refine hret rfl ?_;exact ⟨aR fun h => (by rw [decide_eq_true h.2.2.2.2.1] at q5; cases q5), E⟩
    refine aU ?_;refine hret rfl ?_;exact ⟨aR fun h => by have := h.2.2.2.1; omega, E⟩
   refine aU ?_;refine hret rfl ?_;exact ⟨aR fun h => by have := h.2.2.1; omega, E⟩
  refine aU ?_;refine hret rfl ?_;exact ⟨aR fun h => by have := h.2.1; omega, E⟩
 refine aU ?_;refine hret rfl ?_;exact ⟨aR fun h => by have := h.1; omega, E⟩
end
def mW : Array Value := oY an 0 an an an 0 an
theorem jQ.zero (base : Nat) (w : World) : jQ base w mW jq.zero := ⟨_, _, _, _, _, rfl, (by decide), (by decide), Fb.nil _ _ _, Fb.nil _ _ _, Fb.nil _ _ _, Fb.nil _ _ _, Fb.nil _ _ _⟩
theorem jQ.size {x : jq} (h : jQ base w cs x) : cs.size = 7 ∧ M7 cs.toList = true := by obtain ⟨g, t, u, tg, sg, rfl, _⟩ := h; exact ⟨rfl, rfl⟩
theorem BF {N gi gr M : Nat} {s : St} (w : World) (H : In N [gi, gr, gm] w gi gr s) (B : ao w gm 42 mW) (hi : gi ≠ gm) (hr : gr ≠ gm) (Vq : M ≤ gi) (Vr : M ≤ gr) (hM : M ≤ w.heap.size) :
  Ct 106 #[.pointer (some ⟨gi, 0, none⟩), .pointer (some ⟨gm, 0, none⟩)] w fun e w' => e = .returned (.tuple #[]) ∧ In N [gi, gr, gm] w' gi gr (lA s).2 ∧ (∃ cs, ao w' gm 42 cs ∧ cs.size = 7 ∧ Kp w'.heap.size [gi, gm] (fun w => jQ M w cs (lA s).1) w') ∧ QE M [gm] w w' := by
 have hli := H.To;have hlr := H.Sz;have hlm := B.lt;have F := aE.refl [gr, gi, gm] w
 obtain ⟨c, hc⟩ : ∃ c, c = vU s := ⟨_, rfl⟩
 obtain ⟨t, ht⟩ : ∃ t, t = dh (dq 1 0 c.2) := ⟨_, rfl⟩
 obtain ⟨f, hf⟩ : ∃ f, f = eB 4 t.2 := ⟨_, rfl⟩
 have hX : lA s = (⟨c.1, t.1, (f.1 : Int), (dh f.2).1⟩, (dh f.2).2) := by rw [hf, ht, hc]; rfl
 have Vs : f.1 < 4294967296 := by rw [hf]; exact rJ 4 _
 refine gj 18 func106 rfl rfl rfl rfl ?_;intro _ hret;refine aU ?_;refine aC func107 rfl (Im _ H) ?_;rintro e _ ⟨cs, rfl, HC, H1, ex⟩;refine au 1 ?_;obtain ⟨F,B⟩ := iz ex F B;rw [← hc] at H1 HC; obtain ⟨g, tr, u, rfl, he, ja, jb, jc⟩ := HC; have Ja := ja.kk (S := [gi, gr, gm]) So; have Jb := jb.kk (S := [gi, gr, gm]) So; have Jc := jc.kk (S := [gi, gr, gm]) So;refine aU ?_;intro _ D cg;have ex := aE.one cg;clear cg;obtain ⟨F,H1,Ja,Jb,Jc⟩ := ux ex F H1 Ja Jb Jc;replace B := D; clear D;replace B := B.congr (cs' := oY g c.1.ep tr u an 0 an) rfl;refine aU ?_;refine aC func108 rfl (mJ 1 0 1 0 rfl rfl _ Om H1) ?_;rintro e _ ⟨rfl, H2, ex⟩;obtain ⟨F,B,Ja,Jb,Jc⟩ := ux ex F B Ja Jb Jc;refine aU ?_;have q2 := F.size;refine aC func93 rfl (iX _ H2) ?_;rintro e _ ⟨A1, n1, c1, rfl, _, V1, H3, ex⟩;refine au 1 ?_;obtain ⟨F,B,Ja,Jb,Jc⟩ := ux ex F B Ja Jb Jc;rw [← ht] at H3 V1; have J1 := V1.kk (S := [gi, gr, gm]) So;refine aU ?_;intro _ D cg;have ex := aE.one cg;clear cg;obtain ⟨F,Ja,Jb,Jc,H3,J1⟩ := nQ ex F Ja Jb Jc H3 J1;replace B := D; clear D;refine aU ?_;refine aC func109 rfl (tK 4 4 rfl _ Om H3) ?_;rintro e _ ⟨rfl, H4, ex⟩;refine au 1 ?_;rw [← hf] at H4 ⊢;obtain ⟨F,B,Ja,Jb,Jc,J1⟩ := nQ ex F B Ja Jb Jc J1;refine aU ?_;intro _ D cg;have ex := aE.one cg;clear cg;obtain ⟨F,Ja,Jb,Jc,J1,H4⟩ := nQ ex F Ja Jb Jc J1 H4;replace B := D; clear D;refine aU ?_;have q3 := F.size;refine aC func93 rfl (iX _ H4) ?_;rintro e _ ⟨A2, n2, c2, rfl, _, V2, H5, ex⟩;obtain ⟨F,B,Ja,Jb,Jc,J1⟩ := nQ ex F B Ja Jb Jc J1;have J2 := V2.kk (S := [gi, gr, gm]) So;refine aU ?_;intro _ D cg;have ex := aE.one cg;clear cg;obtain ⟨F,Ja,Jb,Jc,J1,H5,J2⟩ := Mv ex F Ja Jb Jc J1 H5 J2;replace B := D; clear D;replace B := B.congr (cs' := oY g c.1.ep tr u ⟨A1, n1, c1⟩ (f.1 : Int) ⟨A2, n2, c2⟩) rfl;refine aU ?_;refine hret (.inr rfl) ?_;rw [hX];exact ⟨rfl, H5, ⟨_, B, rfl, (((((Ja.um Ja.1 (Nat.le_refl _)).and (Jb.um Jb.1 (Nat.le_refl _))).and (Jc.um Jc.1 (Nat.le_refl _))).and (J1.um J1.1 (Nat.le_refl _))).and (J2.um J2.1 (Nat.le_refl _))).map (fun _ ⟨⟨⟨⟨a, b⟩, c⟩, d⟩, e⟩ => ⟨_, _, _, _, _, rfl, he, (by show (-9223372036854775808 : Int) ≤ (f.1 : Int) ∧ (f.1 : Int) ≤ 9223372036854775807; omega), a.mono Om, b.mono Om, c.mono Om, d.mono Om, e.mono Om⟩) |>.mono (by simp)⟩, F.Rj hM⟩
def jq.Fit (i : jq) : Prop := i.ctx.grp.length ≤ 1000000 ∧ i.ctx.tree.length ≤ 1000000 ∧ i.ctx.trans.length ≤ 1000000 ∧ i.tag.length ≤ 1000000 ∧ i.sig.length ≤ 1000000
theorem ND {s : St} (h : ru s ≤ 10000) : (lA s).1.Fit := by have h1 := rI 2 1 s;have h2 := rI 2 1 (dq 2 1 s);have h3 := oF (s := dq 2 1 (dq 2 1 s)) (B := 10000) Om;have h4 := CI (s := (dh (dq 2 1 (dq 2 1 s))).2) 8;have h5 := oF (s := (eB 8 (dh (dq 2 1 (dq 2 1 s))).2).2) (B := 10000) Om;have h6 := oF h5.2;have h7 := rI 1 0 (dh (dh (eB 8 (dh (dq 2 1 (dq 2 1 s))).2).2).2).2;have h8 := rI 1 0 (vU s).2;have Vq : ru (dq 1 0 (vU s).2) ≤ 10000 := Nat.le_trans h8 (Nat.le_trans h7 h6.2);have h9 := oF Vq;have Vs := CI (s := (dh (dq 1 0 (vU s).2)).2) 4;have Vr := oF (s := (eB 4 (dh (dq 1 0 (vU s).2)).2).2) (B := 10000) Om;exact ⟨Nat.le_trans h3.1 Om, Nat.le_trans h5.1 Om, Nat.le_trans h6.1 Om, Nat.le_trans h9.1 Om, Nat.le_trans Vr.1 Om⟩
theorem BP {x : jq} (w : World) (B : ao w gm 42 cs) (hz : cs.size = 7) (H : fX w cs x) :
  Ct 110 #[.pointer (some ⟨gm, 0, none⟩)] w fun e w' => e = .returned (.bool (decide (gL x))) ∧ Ext w w' := by
 have E := Ext.refl w;refine ai 4 func110 rfl rfl rfl rfl ?_;intro _ hret;refine au 7 ?_;refine al (aW rfl Tn.u rfl (by rw [hz]; kernel_rfl) B) ?_;refine aC func111 rfl (ug _ H) ?_;rintro e _ ⟨rfl, ex⟩;replace E := E.ext ex;refine aU ?_;refine hret rfl ?_;exact ⟨rfl, E⟩
theorem Gj {A : Oa} {b : Lb} (w : World) (HA : Bs w A n b) (hc : n ≤ c) (hn : n ≤ 1048576) :
  Ct 43 #[.slice A n c] w fun e w' => ∃ cs, e = .returned (.tuple #[.agg cs, .int .u8 (((dj b).2 : Nat) : Int)]) ∧ jQ w.heap.size w' cs (dj b).1 ∧ (dj b).2 < 256 ∧ Ext w w' := by
 have F := aE.refl [] w;have KA : Kp w.heap.size [] (fun w => Bs w A n b) w := Kp.bs HA (by simp);have hX : dj b = db jq.zero (lA (.ok b)) (decide (gL (lA (.ok b)).1)) := rfl;refine du (s := 7) 17 func43 rfl rfl rfl underlying42 rfl Kr rfl ?_;intro _ hret;refine aU ?_;intro _ Vv B2 Vs ex;have Vz := ex.size;replace F := F.grow ex Vs;replace KA := KA.grow ex Vs;refine aU ?_;intro Vx Vr B4 Vq ex;have VA := B4.lt;have Vw : Vv < Vr := Nat.lt_of_lt_of_le B2.lt Vq;replace F := F.grow ex Vq;replace KA := KA.grow ex Vq;replace B2 := B2.grow ex Vq;refine au 4 ?_;refine al (kr rfl) ?_;refine au 8 ?_;refine al (kr rfl) ?_;have q2 := B2.lt; have q4 := B4.lt; have q5 := F.size;replace B4 := B4.congr (cs' := mW) rfl;refine aC func95 rfl (xD (N := w.heap.size) (V := [Vr]) (t := (lA (.ok b)).2) (okv := decide (gL (lA (.ok b)).1)) (us := [.pointer (some ⟨Vr, 0, none⟩)]) (vs := [.pointer (some ⟨Vr, 0, none⟩)]) (Ψ := fun gi w => ∃ cs, ao w Vr 42 cs ∧ cs.size = 7 ∧ Kp w.heap.size [gi, Vr] (fun w => jQ Vx.heap.size w cs (lA (.ok b)).1) w) _ (KA.mono (by simp)) hc Om So func106 rfl rfl func110 rfl rfl (fun w1 gi gr E hi hr H hS => BF w1 H (B4.ext E) Om Om hi hr E.size) (fun gi w1 w2 hi ⟨cs, B, hz, K⟩ C => ⟨cs, B.bk C So, hz, (K.bk C (by simp)).um C.size (Nat.le_refl _)⟩) (fun gi w1 ⟨cs, B, hz, K⟩ _ => BP w1 B hz (jQ.at K.out))) ?_;rintro e _ ⟨rfl, ⟨gi, _, cs, BM, hz, KM⟩, Vt, ex⟩;obtain ⟨F,B2⟩ := iz ex F B2;have Vu := (jQ.kk KM.out (S := [Vv, Vr]) So); obtain ⟨_, ho⟩ := jQ.size KM.out; clear KM;refine aU ?_;refine ak rfl (fun Vy => ?_) (fun Vy => ?_)
 ·have e1 := xZ (z := jq.zero) (p := lA (.ok b)) (ok := decide (gL (lA (.ok b)).1)) Om;refine au 2 ?_;refine al (ar rfl (cells := mW) Kr) ?_;refine aU ?_;intro _ D cg;have ex := aE.one cg;clear cg;replace F := F.bk ex;replace B2 := D; clear D;replace B2 := B2.congr (cs' := mW) rfl;refine aU ?_;refine hret rfl rfl B2 rfl ?_;rw [hX, e1]; exact ⟨_, rfl, jQ.zero _ _, (by dsimp only; split; exact Vt; split <;> omega), (F.drop Om).drop Om |>.aS (by simp)⟩
 have e1 := uJ (z := jq.zero) (p := lA (.ok b)) (ok := decide (gL (lA (.ok b)).1)) Om;refine au 4 ?_;refine al (aW rfl Tn.u rfl (by rw [hz]; kernel_rfl) BM) ?_;refine ag (aP (o := 0) rfl rfl (by rw [hz]; kernel_rfl) B2 (by rw [hz]; decide) (aO ho)) rfl ?_;rintro _ _ ⟨rfl, D2, cg⟩;have ex := aE.one cg;clear cg; rw [zp (k := 7) rfl hz] at D2;obtain ⟨F,Vu⟩ := iz ex F Vu;refine aU ?_;refine hret rfl rfl D2 hz ?_;rw [hX, e1]; exact ⟨_, rfl, jQ.mono Vu.out Om, (by show 0 < 256; omega), (F.drop Om).drop Om |>.aS (by simp)⟩
variable {x : kg}
theorem xO {a b : jq} (w : World) (H : fX w cs a) (K : fX w ds b) (hf : a.Fit) (hg : b.Fit) :
  Ct 24 #[.agg cs, .agg ds] w fun e w' => e = .returned (.bool (decide (a = b))) ∧ Ext w w' := by
 have HC := (jB.ctx H).at;have KC := (jB.ctx K).at;obtain ⟨gr, tr, u, tg, sg, rfl, he, hz, h1, h2, h3, h4, h5⟩ := H;obtain ⟨Vq, Vr, u', Vs, Vt, rfl, Vu, Vv, k1, k2, k3, k4, k5⟩ := K;obtain ⟨f1, f2, f3, f4, f5⟩ := hf;obtain ⟨g1, g2, g3, g4, g5⟩ := hg;have n4 := h4.1; have n5 := h5.1; have m4 := k4.1; have m5 := k5.1;have E := Ext.refl w;refine ai 31 func24 rfl rfl rfl rfl ?_;intro _ hret;refine aU ?_;intro _ _ B2 _ ex;replace E := E.ext ex;refine aU ?_;intro _ _ B3 _ ex;obtain ⟨E,B2⟩ := aZ ex E B2;refine aU ?_;refine aC func64 rfl (uw _ (HC.ext E) (KC.ext E) ⟨f1, f2, f3⟩ ⟨g1, g2, g3⟩) ?_;rintro e _ ⟨rfl, ex⟩;obtain ⟨E,B2,B3⟩ := bF ex E B2 B3;refine au 1 ?_;refine bf (aY rfl) rfl (fun q0 => ?_) (fun q0 => ?_)
 ·refine aU ?_;refine fJ 10 rfl rfl func26 rfl rfl rfl (lM (Bs.ext h4 E) (Bs.ext k4 E) Om Om) rfl ?_;rintro e _ ⟨rfl, ex⟩;obtain ⟨E,B2,B3⟩ := bF ex E B2 B3;refine au 2 ?_;refine bf (aY rfl) rfl (fun q1 => ?_) (fun q1 => ?_)
  ·refine au 6 ?_;refine bf (aY rfl) rfl (fun q2 => ?_) (fun q2 => ?_)
   ·refine aU ?_;refine fJ 24 rfl rfl func26 rfl rfl rfl (lM (Bs.ext h5 E) (Bs.ext k5 E) Om Om) rfl ?_;rintro e _ ⟨rfl, ex⟩;replace E := E.ext ex;refine aU ?_;refine hret rfl ?_;exact ⟨dM ⟨fun h => JM.2 ⟨q0, q1, q2, h⟩, fun h => by rw [h]⟩, E⟩
   refine aU ?_;refine hret rfl ?_;exact ⟨aR fun h => q2 (by rw [h]), E⟩
  refine aU ?_;refine hret rfl ?_;exact ⟨aR fun h => q1 (by rw [h]), E⟩
 refine aU ?_;refine hret rfl ?_;exact ⟨aR fun h => q0 (by rw [h]), E⟩
theorem pX (w : World) (H : fX w cs i) :
  Ct 19 #[.agg cs] w fun e w' => e = .returned (.bool (decide (gL i))) ∧ Ext w w' := by
 obtain ⟨gr, tr, u, tg, sg, rfl, he, hz, a, b, c, d, k⟩ := H;have n1 := a.1; have n2 := b.1; have n3 := c.1; have n4 := d.1; have n5 := k.1;have E := Ext.refl w;refine ai 44 func19 rfl rfl rfl rfl ?_;intro _ hret;refine aU ?_;intro _ _ _ _ ex;replace E := E.ext ex;refine au 9 ?_;refine bf (qC rfl rfl) rfl (fun q1 => ?_) (fun q1 => ?_)
 ·refine au 5 ?_;refine aG 8 rfl rfl (cO rfl rfl) rfl (fun q2 => ?_) (fun q2 => ?_)
  ·refine au 6 ?_;refine aG 15 rfl rfl (cO rfl rfl) rfl (fun q3 => ?_) (fun q3 => ?_)
   ·refine au 5 ?_;refine aG 22 rfl rfl (cO rfl rfl) rfl (fun q4 => ?_) (fun q4 => ?_)
    ·refine au 4 ?_;refine aG 28 rfl rfl (vy rfl rfl) rfl (fun q5 => ?_) (fun q5 => ?_)
     ·refine au 4 ?_;refine aG 33 rfl rfl (qC rfl rfl) rfl (fun q6 => ?_) (fun q6 => ?_)
      ·refine aU ?_;refine hret rfl ?_;exact ⟨dM ⟨fun h => ⟨by omega, by omega, by omega, by omega, ⟨by omega, by omega⟩, by omega⟩, fun h => by have := h.2.2.2.2.2; omega⟩, E⟩
      refine aU ?_;refine hret rfl ?_;exact ⟨aR fun h => by have := h.2.2.2.2.1.2; omega, E⟩
     refine aU ?_;refine hret rfl ?_;exact ⟨aR fun h => by have := h.2.2.2.2.1.1; omega, E⟩
    refine aU ?_;refine hret rfl ?_;exact ⟨aR fun h => by have := h.2.2.2.1; omega, E⟩
   refine aU ?_;refine hret rfl ?_;exact ⟨aR fun h => by have := h.2.2.1; omega, E⟩
  refine aU ?_;refine hret rfl ?_;exact ⟨aR fun h => by have := h.2.1; omega, E⟩
 refine aU ?_;refine hret rfl ?_;exact ⟨aR fun h => by have := h.1; omega, E⟩
theorem gu (w : World) (H : fX w cs i) (hs : i.ctx.Small) (ht : i.tag.length ≤ 1000) :
  Ct 53 #[.agg cs] w fun e w' => ∃ A' k c', e = .returned (.slice A' k c') ∧ Row w' w.heap.size 5 A' k c' ((zo i).map bv) ∧ k ≤ 2000 ∧ Ext w w' := by
 have HC := (jB.ctx H).at;obtain ⟨gr, tr, u, tg, sg, rfl, he, hz, a, b, c, d, k⟩ := H;have n4 := d.1;have E := Ext.refl w;refine ai 15 func53 rfl rfl rfl rfl ?_;intro _ hret;refine aU ?_;intro _ _ B1 _ ex;replace E := E.ext ex;refine aU ?_;refine az Kr 13 rfl ?_; intro Vv ex Vw;obtain ⟨E,B1⟩ := aZ ex E B1;refine zm [0, 1, 4, 5, 8, 9] ?_;refine fR 2 3 Kr ?_ ?_
 ·skip;refine eW rfl func119 rfl rfl rfl (jH _ _ _ (HC.ext E) hs) rfl ?_;rintro e w2 ⟨A2, k2, c2, rfl, R2, Vu, ex⟩;refine aU ?_;replace E := E.ext ex;have H2 := R2.bs;refine fR 3 6 Kr ?_ ?_
  ·skip;refine aQ rfl (aF (z := .int .u8 0) Tn.u Kr rfl rfl rfl rfl rfl) rfl ?_;rintro _ w3 ⟨g3, rfl, B3, Vr, ex⟩;refine ⟨.inr ex, ?_⟩;obtain ⟨E,H2⟩ := aZ ex E H2;have H3 := bh (xs := [(0 : UInt8)]) (B3.congr (by rfl)) rfl;refine bz 6 rfl func82 rfl (dZ tg.A tg.n tg.c _ _ (Bs.ext d E) Om) ?_;rintro e w4 ⟨A4, k4, c4, rfl, R4, Vs, ex⟩;refine aU ?_;obtain ⟨E,H2,H3⟩ := bF ex E H2 H3;have Vt := bE tg.n; have H4 := R4.bs;refine bz 7 rfl func122 rfl (fm A2 _ A4 k2 c2 1 1 k4 c4 _ _ _ _ H2 Om H3 Om H4 Om) ?_;rintro e w5 ⟨A5, c5, rfl, R5, ex⟩;refine aU ?_;replace E := E.ext ex;have H5 := R5.bs;refine bz 10 rfl func123 rfl (nL i.frm _) ?_;rintro e w6 ⟨A6, c6, rfl, R6, ex⟩;refine aU ?_;obtain ⟨E,H5⟩ := aZ ex E H5;have H6 := R6.bs;have Vq := E.size;refine bz 11 rfl func80 rfl (dS A5 A6 _ c5 4 c6 _ _ _ H5 Om H6 Om) ?_;rintro e w7 ⟨A7, c7, rfl, R7, ex⟩;replace E := E.ext ex;refine zm [12] ?_;refine hret rfl ?_;exact ⟨A7, _, c7, rfl, (R7.lower Vq).congr rfl (by unfold zo; simp), by omega, E⟩
  skip;refine eW rfl func82 rfl rfl rfl (dZ tg.A tg.n tg.c _ _ (Bs.ext d E) Om) rfl ?_;rintro e w4 ⟨A4, k4, c4, rfl, R4, Vs, ex⟩;refine aU ?_;obtain ⟨E,H2⟩ := aZ ex E H2;have Vt := bE tg.n; have H4 := R4.bs;refine aL 3 Kr ?_; refine aQ rfl (aF (z := .int .u8 0) Tn.u Kr rfl rfl rfl rfl rfl) rfl ?_;rintro _ w3 ⟨g3, rfl, B3, Vr, ex⟩;refine ⟨.inr ex, ?_⟩;obtain ⟨E,H2,H4⟩ := bF ex E H2 H4;have H3 := bh (xs := [(0 : UInt8)]) (B3.congr (by rfl)) rfl;refine bz 7 rfl func122 rfl (fm A2 _ A4 k2 c2 1 1 k4 c4 _ _ _ _ H2 Om H3 Om H4 Om) ?_;rintro e w5 ⟨A5, c5, rfl, R5, ex⟩;refine aU ?_;replace E := E.ext ex;have H5 := R5.bs;refine bz 10 rfl func123 rfl (nL i.frm _) ?_;rintro e w6 ⟨A6, c6, rfl, R6, ex⟩;refine aU ?_;obtain ⟨E,H5⟩ := aZ ex E H5;have H6 := R6.bs;have Vq := E.size;refine bz 11 rfl func80 rfl (dS A5 A6 _ c5 4 c6 _ _ _ H5 Om H6 Om) ?_;rintro e w7 ⟨A7, c7, rfl, R7, ex⟩;replace E := E.ext ex;refine zm [12] ?_;refine hret rfl ?_;exact ⟨A7, _, c7, rfl, (R7.lower Vq).congr rfl (by unfold zo; simp), by omega, E⟩
 skip;refine aQ rfl (aF (z := .int .u8 0) Tn.u Kr rfl rfl rfl rfl rfl) rfl ?_;rintro _ w3 ⟨g3, rfl, B3, Vr, ex⟩;refine ⟨.inr ex, ?_⟩;replace E := E.ext ex;have H3 := bh (xs := [(0 : UInt8)]) (B3.congr (by rfl)) rfl;refine bz 2 rfl func119 rfl (jH _ _ _ (HC.ext E) hs) ?_;rintro e w2 ⟨A2, k2, c2, rfl, R2, Vu, ex⟩;refine aU ?_;obtain ⟨E,H3⟩ := aZ ex E H3;have H2 := R2.bs;refine bz 6 rfl func82 rfl (dZ tg.A tg.n tg.c _ _ (Bs.ext d E) Om) ?_;rintro e w4 ⟨A4, k4, c4, rfl, R4, Vs, ex⟩;refine aU ?_;obtain ⟨E,H3,H2⟩ := bF ex E H3 H2;have Vt := bE tg.n; have H4 := R4.bs;refine bz 7 rfl func122 rfl (fm A2 _ A4 k2 c2 1 1 k4 c4 _ _ _ _ H2 Om H3 Om H4 Om) ?_;rintro e w5 ⟨A5, c5, rfl, R5, ex⟩;refine aU ?_;replace E := E.ext ex;have H5 := R5.bs;refine bz 10 rfl func123 rfl (nL i.frm _) ?_;rintro e w6 ⟨A6, c6, rfl, R6, ex⟩;refine aU ?_;obtain ⟨E,H5⟩ := aZ ex E H5;have H6 := R6.bs;have Vq := E.size;refine bz 11 rfl func80 rfl (dS A5 A6 _ c5 4 c6 _ _ _ H5 Om H6 Om) ?_;rintro e w7 ⟨A7, c7, rfl, R7, ex⟩;replace E := E.ext ex;refine zm [12] ?_;refine hret rfl ?_;exact ⟨A7, _, c7, rfl, (R7.lower Vq).congr rfl (by unfold zo; simp), by omega, E⟩
end
section
section
namespace Fp
def p : Nat := 57896044618658097711785492504343953926634992332820282019728792003956564819949
def fn (n : Nat) (f : Nat → Nat) : List Nat := (List.range n).map f
theorem eT (n : Nat) (f : Nat → Nat) : (fn n f).length = n := by simp [fn]
theorem sP (f : Nat → Nat) (h : j < n) : (fn n f).getD j 0 = f j := by simp [fn, h]
theorem oV (h : ∀ j, j < n → f j = g j) : fn n f = fn n g := by unfold fn;simp_all
theorem AI (n : Nat) (f : Nat → Nat) (i x : Nat) : (fn n f).set i x = fn n (fun j => if j = i then x else f j) := by
 apply List.ext_getElem
 ·simp [fn]
 intro j _ _;simp only [fn, List.getElem_set, List.getElem_map, List.getElem_range];grind
theorem RV (l : List Nat) : l = fn l.length (fun j => l.getD j 0) := by
 apply List.ext_getElem
 ·simp [fn]
 intro j h1 _;simp [fn, h1]
def val (f : Nat → Nat) : Nat := f 0 + 2251799813685248 * f 1 + 5070602400912917605986812821504 * f 2 + 11417981541647679048466287755595961091061972992 * f 3 + 25711008708143844408671393477458601640355247900524685364822016 * f 4
theorem val_congr (h : ∀ j, j < 5 → f j = g j) : val f = val g := by unfold val;rw [h 0 (by omega), h 1 (by omega), h 2 (by omega), h 3 (by omega), h 4 (by omega)]
def small (f : Nat → Nat) : Prop := ∀ j, j < 5 → f j < 2251799813840896
def carry (f : Nat → Nat) (j : Nat) : Nat := f j % 2251799813685248 + (if j = 0 then f 4 / 2251799813685248 * 19 else f (j - 1) / 2251799813685248)
theorem Fv (f : Nat → Nat) : val f = val (carry f) + p * (f 4 / 2251799813685248) := by simp only [val, carry, p];simp;omega
theorem LF (h : ∀ j, j < 5 → f j < 18446744073709551616) (j : Nat) (hj : j < 5) : carry f j < 2251799813685248 + 155648 := by unfold carry;grind
theorem ic (h : ∀ j, j < 5 → f j < 18446744073709551616) : small (carry f) := fun j hj => by have := LF h j hj; omega
theorem ve (h : small f) (j : Nat) (hj : j < 5) : carry f j < 2251799813685248 + 19 := by
 unfold carry;have h4 := h 4 (by omega);split
 ·omega
 have := h (j - 1) (by omega); omega
theorem fG (f : Nat → Nat) : val (carry f) % p = val f % p := by rw [Fv f, Nat.add_mul_mod_self_left]
def qc (g : Nat → Nat) : Nat → Nat
 | 0 => 19
 | i + 1 => (g i + qc g i) / 2251799813685248
def rc (g : Nat → Nat) (q : Nat) : Nat → Nat
 | 0 => 19 * q
 | i + 1 => (g i + rc g q i) / 2251799813685248
theorem OR (h : ∀ j, j < 5 → g j < 4503599627370496) (i : Nat) (hi : i ≤ 5) : qc g i ≤ 19 := by
 induction i with
 | zero => exact Nat.le_refl _
 | succ i ih => have := ih (by omega); have := h i (by omega); rw [qc]; omega
theorem OS (hq : q ≤ 19) (h : ∀ j, j < 5 → g j < 4503599627370496) (i : Nat) (hi : i ≤ 5) : rc g q i ≤ 361 := by
 induction i with
 | zero => rw [rc]; omega
 | succ i ih => have := ih (by omega); have := h i (by omega); rw [rc]; omega
def st (g : Nat → Nat) (q i j : Nat) : Nat := if j < i then (g j + rc g q j) % 2251799813685248 else if j = i then g j + rc g q j else g j
theorem Li (g : Nat → Nat) (q i : Nat) : st g q i i = g i + rc g q i := by simp [st]
theorem NI (g : Nat → Nat) (q i : Nat) : st g q i (i + 1) = g (i + 1) := by unfold st; rw [if_neg (by omega), if_neg (by omega)]
theorem Mu (g : Nat → Nat) (q j : Nat) : (if j = 0 then g 0 + 19 * q else g j) = st g q 0 j := by
 by_cases h : j = 0
 ·subst h; simp [st, rc]
 simp [st, h]
theorem Oe (g : Nat → Nat) (q i j : Nat) : (if j = i then (g i + rc g q i) % 2251799813685248 else if j = i + 1 then g (i + 1) + (g i + rc g q i) / 2251799813685248 else st g q i j) = st g q (i + 1) j := by
 by_cases h1 : j = i
 ·subst h1; rw [if_pos rfl]; unfold st; rw [if_pos (by omega)]
 rw [if_neg h1];by_cases h2 : j = i + 1
 ·subst h2; rw [if_pos rfl]; unfold st; rw [if_neg (by omega), if_pos rfl, rc]
 rw [if_neg h2]; unfold st;grind
theorem Ps (g : Nat → Nat) (q j : Nat) (hj : j < 5) : (if j = 4 then (g 4 + rc g q 4) % 2251799813685248 else st g q 4 j) = (g j + rc g q j) % 2251799813685248 := by
 by_cases h : j = 4
 ·grind
 rw [if_neg h]; unfold st; rw [if_pos (by omega)]
def gp (v j : Nat) : Nat := v / 2251799813685248 ^ j % 2251799813685248
theorem DS (v j : Nat) : gp v j < 2251799813685248 := Nat.mod_lt _ (by omega)
theorem ID (h : Nat → Nat) (hl : ∀ j, j < 5 → h j < 2251799813685248) (j : Nat) (hj : j < 5) : gp (val h) j = h j := by
 have h0 := hl 0 (by omega); have h1 := hl 1 (by omega); have h2 := hl 2 (by omega); have h3 := hl 3 (by omega); have h4 := hl 4 (by omega);unfold gp val
 match j, hj with
 | 0, _ => omega
 | 1, _ => omega
 | 2, _ => omega
 | 3, _ => omega
 | 4, _ => omega
theorem yO (v : Nat) (hv : v < 57896044618658097711785492504343953926634992332820282019728792003956564819968) : val (gp v) = v := by simp only [gp, val, Nat.pow_zero, Nat.pow_one];omega
theorem Qg (g : Nat → Nat) : qc g 5 = (val g + 19) / 57896044618658097711785492504343953926634992332820282019728792003956564819968 := by simp only [qc, val];omega
theorem Qy (g : Nat → Nat) (q : Nat) : val (fun j => (g j + rc g q j) % 2251799813685248) + 57896044618658097711785492504343953926634992332820282019728792003956564819968 * rc g q 5 = val g + 19 * q := by simp only [rc, val];omega
theorem Ci (hl : ∀ j, j < 5 → h j < 2251799813685248) : val h < 57896044618658097711785492504343953926634992332820282019728792003956564819968 := by have h0 := hl 0 (by omega); have h1 := hl 1 (by omega); have h2 := hl 2 (by omega); have h3 := hl 3 (by omega); have h4 := hl 4 (by omega);unfold val;omega
theorem JG (hf : small f) (hg : g = carry (carry f)) (j : Nat) (hj : j < 5) : (g j + rc g (qc g 5) j) % 2251799813685248 = gp (val f % p) j := by
 have hs := ic (f := f) (fun j hj => by have := hf j hj; omega);have hb : ∀ j, j < 5 → g j < 2251799813685248 + 19 := fun j hj => by rw [hg]; exact ve hs j hj
 have hvg : val g % p = val f % p := by rw [hg, fG, fG]
 have hq := Qg g;have hr := Qy g (qc g 5);have hlt := Ci (h := fun j => (g j + rc g (qc g 5) j) % 2251799813685248) (fun j _ => Nat.mod_lt _ (by omega))
 have hgv : val g < 2 * p - 100 := by have h0 := hb 0 (by omega); have h1 := hb 1 (by omega); have h2 := hb 2 (by omega); have h3 := hb 3 (by omega); have h4 := hb 4 (by omega);unfold val p;omega
 have key : val (fun j => (g j + rc g (qc g 5) j) % 2251799813685248) = val g % p := by
  unfold p at hgv ⊢;have hc : qc g 5 = 0 ∨ qc g 5 = 1 := by omega
  omega
 rw [← hvg, ← key];exact (ID (fun j => (g j + rc g (qc g 5) j) % 2251799813685248) (fun j _ => Nat.mod_lt _ (by omega)) j hj).symm
def CF (f g : Nat → Nat) (t r : Nat) : Nat := if (t / 5 + t % 5) % 5 = r then f (t / 5) * (if 5 ≤ t / 5 + t % 5 then g (t % 5) * 19 else g (t % 5)) else 0
def acc (f g : Nat → Nat) : Nat → Nat → Nat
 | 0, _ => 0
 | t + 1, r => acc f g t r + CF f g t r
theorem LP (f0 f1 f2 f3 f4 g0 g1 g2 g3 g4 : Nat) :
  ∃ k, (f0 + 2251799813685248 * f1 + 5070602400912917605986812821504 * f2 + 11417981541647679048466287755595961091061972992 * f3 + 25711008708143844408671393477458601640355247900524685364822016 * f4) * (g0 + 2251799813685248 * g1 + 5070602400912917605986812821504 * g2 + 11417981541647679048466287755595961091061972992 * g3 + 25711008708143844408671393477458601640355247900524685364822016 * g4) = (f0 * g0 + 19 * (f1 * g4) + 19 * (f2 * g3) + 19 * (f3 * g2) + 19 * (f4 * g1)) + 2251799813685248 * (f0 * g1 + f1 * g0 + 19 * (f2 * g4) + 19 * (f3 * g3) + 19 * (f4 * g2)) + 5070602400912917605986812821504 * (f0 * g2 + f1 * g1 + f2 * g0 + 19 * (f3 * g4) + 19 * (f4 * g3)) + 11417981541647679048466287755595961091061972992 * (f0 * g3 + f1 * g2 + f2 * g1 + f3 * g0 + 19 * (f4 * g4)) + 25711008708143844408671393477458601640355247900524685364822016 * (f0 * g4 + f1 * g3 + f2 * g2 + f3 * g1 + f4 * g0) + 57896044618658097711785492504343953926634992332820282019728792003956564819949 * k := by
 refine ⟨((f1 * g4) + (f2 * g3) + 2251799813685248 * (f2 * g4) + (f3 * g2) + 2251799813685248 * (f3 * g3) + 5070602400912917605986812821504 * (f3 * g4) + (f4 * g1) + 2251799813685248 * (f4 * g2) + 5070602400912917605986812821504 * (f4 * g3) + 11417981541647679048466287755595961091061972992 * (f4 * g4)), ?_⟩;grind
theorem Jq (hf : small f) (hg : small g) (t r : Nat) (ht : t ≤ 25) : acc f g t r ≤ t * 385365782469381738054997774434304 := by
  induction t with
  | zero => simp [acc]
  | succ t ih =>
    have h1 := ih (by omega)
    have h2 : CF f g t r ≤ 385365782469381738054997774434304 := by
      unfold CF;split
      · have Vq := hf (t / 5) (by omega)
        have Vr := hg (t % 5) (by omega);have : f (t / 5) * (if 5 ≤ t / 5 + t % 5 then g (t % 5) * 19 else g (t % 5)) ≤ 4503599627370496 * (4503599627370496 * 19) := Nat.mul_le_mul (by omega) (by split <;> omega);omega
      omega
    rw [acc]
    omega
theorem Og (f g : Nat → Nat) : ∃ k, val f * val g = val (acc f g 25) + p * k := by obtain ⟨k, hk⟩ := LP (f 0) (f 1) (f 2) (f 3) (f 4) (g 0) (g 1) (g 2) (g 3) (g 4);refine ⟨k, hk.trans ?_⟩;congr 1;simp only [val, acc, CF];grind
theorem IN (hf : small f) (hg : small g) : acc f g 25 4 ≤ 101412048018258352119736256430080 := by
 have e : acc f g 25 4 = f 0 * g 4 + f 1 * g 3 + f 2 * g 2 + f 3 * g 1 + f 4 * g 0 := by simp [acc, CF]
 have h : ∀ i k, i < 5 → k < 5 → f i * g k ≤ 4503599627370496 * 4503599627370496 := fun i k hi hk => Nat.mul_le_mul (by have := hf i hi; omega) (by have := hg k hk; omega);have h0 := h 0 4 (by omega) (by omega); have h1 := h 1 3 (by omega) (by omega); have h2 := h 2 2 (by omega) (by omega); have h3 := h 3 1 (by omega) (by omega); have h4 := h 4 0 (by omega) (by omega);omega
def fr (s : Nat → Nat) : Nat → Nat
 | 0 => 0
 | i + 1 => (s i + fr s i) / 2251799813685248
theorem OQ (h : ∀ j, j < 5 → s j ≤ 9634144561734543451374944360857600) (i : Nat) (hi : i ≤ 5) : fr s i ≤ 4278419646001973101 := by
 induction i with
 | zero => exact Nat.zero_le _
 | succ i ih => have := ih (by omega); have := h i (by omega); rw [fr]; omega
theorem M9 (h : ∀ j, j < 5 → s j ≤ 9634144561734543451374944360857600) (h4 : s 4 ≤ 101412048018258352119736256430080) : fr s 5 ≤ 45035996273706861 := by have := OQ h 4 (by omega);rw [fr]; omega
theorem P0 (s : Nat → Nat) : val (fun j => (s j + fr s j) % 2251799813685248) + 57896044618658097711785492504343953926634992332820282019728792003956564819968 * fr s 5 = val s := by simp only [fr, val];omega
theorem NV (s : Nat → Nat) : val (fun j => (s j + fr s j) % 2251799813685248 + (if j = 0 then fr s 5 * 19 else 0)) + p * fr s 5 = val s := by
 have h := P0 s
 simp only [val, p] at *
 simp;omega
def num : List UInt8 → Nat
 | [] => 0
 | b :: bs => b.toNat + 256 * num bs
theorem qf : ∀ (l : List UInt8), num l < 256 ^ l.length
  | [] => by simp [num]
  | b :: l => by have := qf l;have := b.toNat_lt;simp only [num, List.length_cons, Nat.pow_succ];omega
theorem kx : ∀ (a b : List UInt8), num (a ++ b) = num a + 256 ^ a.length * num b
  | [], b => by simp [num]
  | d :: a, b => by simp only [List.cons_append, num, kx a b, List.length_cons, Nat.pow_succ];rw [Nat.mul_add, Nat.mul_comm (256 ^ a.length) 256, Nat.mul_assoc];omega
theorem RK (n : Nat) : num (List.replicate n 0) = 0 := by
 induction n with
 | zero => rfl
 | succ n ih => rw [List.replicate_succ, num, ih]; rfl
theorem td (l : List UInt8) (k : Nat) (hk : k ≤ l.length) : num (l.drop k) = num l / 256 ^ k := by have h := kx (l.take k) (l.drop k);rw [List.take_append_drop, List.length_take, Nat.min_eq_left hk] at h;have hl := qf (l.take k);rw [List.length_take, Nat.min_eq_left hk] at hl;rw [h, Nat.add_mul_div_left _ _ (Nat.pow_pos (by omega)), Nat.div_eq_of_lt hl, Nat.zero_add]
theorem JC (l : List UInt8) (k : Nat) (hk : k ≤ l.length) : num (l.take k) = num l % 256 ^ k := by have h := kx (l.take k) (l.drop k);rw [List.take_append_drop, List.length_take, Nat.min_eq_left hk] at h;have hl := qf (l.take k);rw [List.length_take, Nat.min_eq_left hk] at hl;rw [h, Nat.add_mul_mod_self_left, Nat.mod_eq_of_lt hl]
def word (X : List UInt8) (o : Nat) : Nat := num ((X.drop o).take 8)
theorem mI (X : List UInt8) (o : Nat) (h : o + 8 ≤ X.length) : word X o = num X / 256 ^ o % 18446744073709551616 := by unfold word;rw [JC _ _ (by simp; omega), td _ _ (by omega)]
theorem word_lt (X : List UInt8) (o : Nat) (h : o + 8 ≤ X.length) : word X o < 18446744073709551616 := by rw [mI X o h]; omega
theorem Fj (X : List UInt8) (o j : Nat) (hj : j < 8) (h : o + 8 ≤ X.length) : num ((X.drop (o + j)).take (8 - j)) = (X.getD (o + j) 0).toNat + 256 * num ((X.drop (o + (j + 1))).take (8 - (j + 1))) := by
 have hl : o + j < X.length := by omega
 rw [List.drop_eq_getElem_cons hl, show 8 - j = (8 - (j + 1)) + 1 by omega, List.take_succ_cons, num];grind
theorem MY (X : List UInt8) (o j : Nat) (hj : j ≤ 8) : num ((X.drop (o + j)).take (8 - j)) < 256 ^ (8 - j) := by
 have h := qf ((X.drop (o + j)).take (8 - j));have h2 : ((X.drop (o + j)).take (8 - j)).length ≤ 8 - j := by simp; omega
 exact Nat.lt_of_lt_of_le h (Nat.pow_le_pow_right (by omega) h2)
def pad (b : List UInt8) : List UInt8 := b.take 32 ++ List.replicate (32 - (b.take 32).length) 0
theorem cP (b : List UInt8) : (pad b).length = 32 := by unfold pad; simp; omega
theorem MB (b : List UInt8) : num (pad b) = num (b.take 32) := by unfold pad; rw [kx, RK, Nat.mul_zero, Nat.add_zero]
def RL (b : List UInt8) : Nat := num (b.take 32) % 57896044618658097711785492504343953926634992332820282019728792003956564819968 % p
def BJ (X : List UInt8) (j : Nat) : Nat := if j = 0 then word X 0 % 2251799813685248 else if j = 1 then word X 6 / 8 % 2251799813685248 else if j = 2 then word X 12 / 64 % 2251799813685248 else if j = 3 then word X 19 / 2 % 2251799813685248 else word X 24 / 4096 % 2251799813685248
theorem Qn (X : List UInt8) (j : Nat) : BJ X j < 2251799813685248 := by unfold BJ;grind
theorem Nf (X : List UInt8) (h : X.length = 32) : val (BJ X) = num X % 57896044618658097711785492504343953926634992332820282019728792003956564819968 := by
 have h0 := mI X 0 (by omega); have h1 := mI X 6 (by omega); have h2 := mI X 12 (by omega); have h3 := mI X 19 (by omega); have h4 := mI X 24 (by omega);rw [show (256 : Nat) ^ 0 = 1 from rfl] at h0;rw [show (256 : Nat) ^ 6 = 281474976710656 from rfl] at h1;rw [show (256 : Nat) ^ 12 = 79228162514264337593543950336 from rfl] at h2;rw [show (256 : Nat) ^ 19 = 5708990770823839524233143877797980545530986496 from rfl] at h3;rw [show (256 : Nat) ^ 24 = 6277101735386680763835789423207666416102355444464034512896 from rfl] at h4;have e0 : BJ X 0 = num X % 2251799813685248 := by unfold BJ; grind
 have e1 : BJ X 1 = num X / 2251799813685248 % 2251799813685248 := by unfold BJ; grind
 have e2 : BJ X 2 = num X / 5070602400912917605986812821504 % 2251799813685248 := by unfold BJ; rw [if_neg (by omega), if_neg (by omega), if_pos rfl, h2]; omega
 have e3 : BJ X 3 = num X / 11417981541647679048466287755595961091061972992 % 2251799813685248 := by unfold BJ; rw [if_neg (by omega), if_neg (by omega), if_neg (by omega), if_pos rfl, h3]; omega
 have e4 : BJ X 4 = num X / 25711008708143844408671393477458601640355247900524685364822016 % 2251799813685248 := by unfold BJ; rw [if_neg (by omega), if_neg (by omega), if_neg (by omega), if_neg (by omega), h4]; omega
 unfold val;omega
def le (n x : Nat) : List UInt8 := (List.range n).map fun j => UInt8.ofNat (x / 256 ^ j % 256)
theorem cY (n x : Nat) : (le n x).length = n := by simp [le]
theorem mu (T : Nat) : 2 ^ T = 2 ^ (T % 8) * 256 ^ (T / 8) := by rw [show (256 : Nat) = 2 ^ 8 from rfl, ← Nat.pow_mul, ← Nat.pow_add];congr 1;omega
theorem Dy {T : Nat} (hx : x < 2 ^ T) : x / 256 ^ (T / 8) < 2 ^ (T % 8) := by rw [mu] at hx;exact Nat.div_lt_of_lt_mul (by grind)
theorem CR (T : Nat) : 2 ^ (T % 8) ≤ 128 := by have h := Nat.pow_le_pow_right (n := 2) (by omega) (show T % 8 ≤ 7 by omega);exact h
theorem Hs {T : Nat} (j : Nat) (hx : x < 2 ^ T) (hb : b ≤ 1) : (if j = T / 8 then x / 256 ^ (T / 8) + b * 2 ^ (T % 8) else x / 256 ^ j % 256) = (x + b * 2 ^ T) / 256 ^ j % 256 := by
 have h1 := Dy hx;have h2 := CR T;by_cases h : j = T / 8
 ·subst h;rw [if_pos rfl]
  have e : x + b * 2 ^ T = x + 256 ^ (T / 8) * (b * 2 ^ (T % 8)) := by rw [mu T, ← Nat.mul_assoc, Nat.mul_comm (256 ^ (T / 8))]
  rw [e, Nat.add_mul_div_left _ _ (Nat.pow_pos (by omega))];have h3 : b * 2 ^ (T % 8) ≤ 1 * 2 ^ (T % 8) := Nat.mul_le_mul_right _ hb;grind
 rw [if_neg h];rcases Nat.lt_or_ge j (T / 8) with h3 | h3
 ·obtain ⟨d, hd⟩ : ∃ d, T / 8 = j + 1 + d := ⟨T / 8 - (j + 1), by omega⟩
  have e : 2 ^ T = 256 ^ j * (256 * (2 ^ (T % 8) * 256 ^ d)) := by rw [mu T, hd, Nat.pow_add, Nat.pow_succ];grind
  rw [e, ← Nat.mul_assoc b, Nat.mul_comm b, Nat.mul_assoc, Nat.add_mul_div_left _ _ (Nat.pow_pos (by omega)), ← Nat.mul_assoc b, Nat.mul_comm b, Nat.mul_assoc, Nat.add_mul_mod_self_left]
 have h4 : 2 ^ (T + 1) ≤ 256 ^ j := by rw [show (256 : Nat) = 2 ^ 8 from rfl, ← Nat.pow_mul];exact Nat.pow_le_pow_right (by omega) (by omega)
 have h5 : x + b * 2 ^ T < 256 ^ j := by have : b * 2 ^ T ≤ 1 * 2 ^ T := Nat.mul_le_mul_right _ hb;omega
 rw [Nat.div_eq_of_lt (by omega), Nat.div_eq_of_lt h5]
theorem Jj (a i k : Nat) (hk : k < 51) : gp a i / 2 ^ k % 2 = a / 2 ^ (51 * i + k) % 2 := by unfold gp;rw [show (2251799813685248 : Nat) = 2 ^ 51 from rfl, show (2 : Nat) ^ 51 = 2 ^ k * 2 ^ (51 - k) from by rw [← Nat.pow_add]; congr 1; omega, Nat.mod_mul_right_div_self, ← Nat.pow_add, show k + (51 - k) = 51 by omega, ← Nat.pow_mul, Nat.div_div_eq_div_mul, ← Nat.pow_add];exact Nat.mod_mod_of_dvd _ ⟨2 ^ (51 - k - 1), by rw [← Nat.pow_succ']; congr 1; omega⟩
theorem sE (n x : Nat) (h : x < 256 ^ n) : num (le n x) = x := by
  induction n generalizing x with
  | zero => simp at h; subst h; rfl
  | succ n ih =>
    have e : le (n + 1) x = UInt8.ofNat (x % 256) :: le n (x / 256) := by
      unfold le;rw [List.range_succ_eq_map, List.map_cons, List.map_map];congr 1
      · simp
      apply List.map_congr_left;intro _ _;simp only [Function.comp_apply];rw [Nat.div_div_eq_div_mul, Nat.pow_succ, Nat.mul_comm]
    rw [e, num, ih _ (by omega), UInt8.toNat_ofNat']
    omega
end Fp
end
namespace Nt
def ll (r : Nat) : Prop := 2 ≤ r ∧ ∀ d, d ∣ r → d = 1 ∨ d = r
def ch : Nat → Nat → Nat
 | _, 0 => 1
 | 0, _ + 1 => 0
 | n + 1, k + 1 => ch n k + ch n (k + 1)
theorem rK (n : Nat) : ch n 0 = 1 := by cases n <;> rfl
theorem mw : ∀ (n k : Nat), n < k → ch n k = 0
 | 0, 0, h => absurd h (by omega)
 | 0, k + 1, _ => rfl
 | n + 1, 0, h => absurd h (by omega)
 | n + 1, k + 1, h => by rw [ch, mw n k (by omega), mw n (k + 1) (by omega)]
theorem CZ : ∀ n : Nat, ch n n = 1
 | 0 => rfl
 | n + 1 => by rw [ch, CZ n, mw n (n + 1) (by omega)]
theorem vQ : ∀ (n k : Nat), (k + 1) * ch (n + 1) (k + 1) = (n + 1) * ch n k
  | 0, 0 => rfl
  | 0, k + 1 => by rw [mw (0 + 1) (k + 1 + 1) (by omega), mw 0 (k + 1) (by omega), Nat.mul_zero, Nat.mul_zero]
  | n + 1, 0 => by have h := vQ n 0;have e : ch (n + 1 + 1) (0 + 1) = ch (n + 1) 0 + ch (n + 1) (0 + 1) := rfl;rw [rK] at h e;rw [e, rK];omega
  | n + 1, k + 1 => by
    have h1 := vQ n k;have h2 := vQ n (k + 1);rw [show ch (n + 1 + 1) (k + 1 + 1) = ch (n + 1) (k + 1) + ch (n + 1) (k + 1 + 1) from rfl];have e : ch (n + 1) (k + 1) = ch n k + ch n (k + 1) := rfl
    have a1 : (k + 1 + 1) * (ch (n + 1) (k + 1) + ch (n + 1) (k + 1 + 1)) = (k + 1) * ch (n + 1) (k + 1) + ch (n + 1) (k + 1) + (k + 1 + 1) * ch (n + 1) (k + 1 + 1) := by rw [Nat.mul_add, Nat.add_mul (k + 1) 1, Nat.one_mul]
    rw [a1, h1, h2, Nat.add_mul (n + 1) 1 (ch (n + 1) (k + 1)), Nat.one_mul];have a2 : (n + 1) * ch (n + 1) (k + 1) = (n + 1) * ch n k + (n + 1) * ch n (k + 1) := by rw [e, Nat.mul_add]
    omega
def dp (f : Nat → Nat) : Nat → Nat
 | 0 => 0
 | n + 1 => dp f n + f n
theorem qw {f g : Nat → Nat} : ∀ (n : Nat), (∀ k, k < n → f k = g k) → dp f n = dp g n
 | 0, _ => rfl
 | n + 1, h => by rw [dp, dp, qw n (fun k hk => h k (by omega)), h n (by omega)]
theorem uM (f g : Nat → Nat) : ∀ n, dp (fun k => f k + g k) n = dp f n + dp g n
 | 0 => rfl
 | n + 1 => by rw [dp, dp, dp, uM f g n]; omega
theorem uC (f : Nat → Nat) (c : Nat) : ∀ n, dp (fun k => f k * c) n = dp f n * c
 | 0 => by rw [dp, dp, Nat.zero_mul]
 | n + 1 => by rw [dp, dp, uC f c n, Nat.add_mul]
theorem jx (f : Nat → Nat) : ∀ n, dp f (n + 1) = f 0 + dp (fun k => f (k + 1)) n
 | 0 => by rw [dp, dp, dp]; omega
 | n + 1 => by rw [dp, jx f n, dp]; omega
theorem uV {f : Nat → Nat} {d : Nat} : ∀ n, (∀ k, k < n → d ∣ f k) → d ∣ dp f n
 | 0, _ => Nat.dvd_zero _
 | n + 1, h => Nat.dvd_add (uV n fun k hk => h k (by omega)) (h n (by omega))
theorem Oo (a : Nat) : ∀ n, (a + 1) ^ n = dp (fun k => ch n k * a ^ k) (n + 1)
  | 0 => by simp [dp, ch]
  | n + 1 => by
    rw [Nat.pow_succ, Oo a n, jx (fun k => ch (n + 1) k * a ^ k)]
    have e1 : dp (fun k => ch (n + 1) (k + 1) * a ^ (k + 1)) (n + 1) = dp (fun k => ch n k * a ^ k) (n + 1) * a + dp (fun k => ch n (k + 1) * a ^ (k + 1)) (n + 1) := by rw [← uC, ← uM];refine qw _ fun k _ => ?_;rw [ch, Nat.add_mul, Nat.pow_succ, Nat.mul_assoc]
    have e2 : dp (fun k => ch n (k + 1) * a ^ (k + 1)) (n + 1) = dp (fun k => ch n (k + 1) * a ^ (k + 1)) n := by rw [dp, mw n (n + 1) (by omega), Nat.zero_mul, Nat.add_zero]
    have e3 := jx (fun k => ch n k * a ^ k) n;simp only [rK, Nat.pow_zero, Nat.mul_one] at e3 ⊢;rw [e1, e2, Nat.mul_add, Nat.mul_one];omega
theorem ll.UF (h : ll r) (hk : ¬ r ∣ k) : Nat.Coprime r k := by
 rcases h.2 _ (Nat.gcd_dvd_left r k) with e | e
 ·exact e
 exact absurd (e ▸ Nat.gcd_dvd_right r k) hk
theorem ll.dvd_mul (h : ll r) (hd : r ∣ a * b) : r ∣ a ∨ r ∣ b := by
 by_cases ha : r ∣ a
 ·exact .inl ha
 exact .inr ((h.UF ha).dvd_of_dvd_mul_left hd)
theorem ll.PJ (h : ll r) (h0 : 0 < k) (hk : k < r) : r ∣ ch r k := by
 obtain ⟨k, rfl⟩ : ∃ j, k = j + 1 := ⟨k - 1, by omega⟩
 obtain ⟨n, rfl⟩ : ∃ j, r = j + 1 := ⟨r - 1, by omega⟩
 have hm := vQ n k;rcases h.dvd_mul (a := k + 1) (b := ch (n + 1) (k + 1)) (hm ▸ Nat.dvd_mul_right _ _) with hd | hd
 ·exact absurd (Nat.le_of_dvd (by omega) hd) (by omega)
 exact hd
theorem zv (h : ll r) (a : Nat) : ∃ c, (a + 1) ^ r = a ^ r + 1 + r * c := by
 obtain ⟨n, rfl⟩ : ∃ j, r = j + 1 := ⟨r - 1, by have := h.1; omega⟩
 rw [Oo, dp, jx, CZ, rK, Nat.pow_zero, Nat.mul_one, Nat.one_mul];obtain ⟨c, hc⟩ := uV (d := n + 1) (f := fun k => ch (n + 1) (k + 1) * a ^ (k + 1)) n (fun k hk => Nat.dvd_trans (h.PJ (by omega) (by omega)) (Nat.dvd_mul_right _ _));grind
theorem vW (h : ll r) (a : Nat) : a ^ r % r = a % r := by
  induction a with
  | zero => rw [Nat.zero_pow (by have := h.1; omega)]
  | succ a ih =>
    obtain ⟨c, hc⟩ := zv h a
    rw [hc, Nat.add_mul_mod_self_left, Nat.add_mod, ih, ← Nat.add_mod]
theorem wY (h : b ≤ a) : b % r = a % r ↔ r ∣ a - b := by
 rw [Nat.dvd_iff_mod_eq_zero];obtain ⟨c, rfl⟩ := Nat.exists_eq_add_of_le h;rw [Nat.add_sub_cancel_left];constructor
 ·intro he;rcases Nat.eq_zero_or_pos r with h0 | h0
  ·grind
  have h1 := Nat.add_mod b c r;have hb := Nat.mod_lt b h0;have hc := Nat.mod_lt c h0;rw [← he] at h1;rw [Nat.mod_def (b % r + c % r)] at h1;by_cases hlt : b % r + c % r < r
  ·rw [Nat.div_eq_of_lt hlt] at h1; omega
  rw [show (b % r + c % r) / r = 1 from by rw [Nat.div_eq_iff h0]; omega] at h1; omega
 intro hc;rw [Nat.add_mod, hc, Nat.add_zero, Nat.mod_mod]
theorem ll.cancel (h : ll r) (ha : ¬ r ∣ a) (he : a * b % r = a * c % r) : b % r = c % r := by
 have main : ∀ b c : Nat, c ≤ b → a * b % r = a * c % r → b % r = c % r := by
  intro b c hle he;have hd : r ∣ a * b - a * c := (wY (Nat.mul_le_mul_left a hle)).1 he.symm;rw [← Nat.mul_sub] at hd;rcases h.dvd_mul hd with hd | hd
  ·omega
  exact ((wY hle).2 hd).symm
 rcases Nat.le_total c b with hle | hle
 ·grind
 grind
theorem Ee (h : ll r) (ha : ¬ r ∣ a) : a ^ (r - 1) % r = 1 := by
 have h2 := h.1;have hf := vW h a
 obtain ⟨n, rfl⟩ : ∃ j, r = j + 1 := ⟨r - 1, by omega⟩
 have := h.cancel (a := a) (b := a ^ n) (c := 1) ha (by rw [Nat.mul_comm, ← Nat.pow_succ, hf, Nat.mul_one]);rw [Nat.add_sub_cancel, this, Nat.mod_eq_of_lt (by omega)]
theorem OL {y : Nat} (hx : x % r = 1 % r) : x * y % r = y % r := by rw [Nat.mul_mod, hx, ← Nat.mul_mod, Nat.one_mul]
theorem ym (hx : x % r = 1 % r) (k : Nat) : x ^ k % r = 1 % r := by rw [Nat.pow_mod, hx, ← Nat.pow_mod, Nat.one_pow]
theorem one_gcd : ∀ (x y : Nat), a ^ x % r = 1 % r → a ^ y % r = 1 % r → a ^ Nat.gcd x y % r = 1 % r := by
  intro x y
  induction x, y using Nat.gcd.induction with
  | H0 y => grind
  | H1 x y hx ih =>
    intro h1 h2
    rw [Nat.gcd_rec]
    refine ih ?_ h1
    have e : a ^ y = (a ^ x) ^ (y / x) * a ^ (y % x) := by rw [← Nat.pow_mul, ← Nat.pow_add, Nat.div_add_mod]
    rw [e, OL (ym h1 _)] at h2
    exact h2
theorem TM {g : Nat} (hn : 1 < n) (hq : ll q) (a : Nat) (hm : n - 1 = q * m) (h1 : a ^ (n - 1) % n = 1) (h2 : a ^ m % n = g + 1) (h3 : Nat.gcd g n = 1) (hr : ll r) (hd : r ∣ n) : q ∣ r - 1 := by
 have Vs := hr.1
 have Vq : a ^ (n - 1) % r = 1 % r := by have := congrArg (· % r) h1;simpa [Nat.mod_mod_of_dvd _ hd] using this
 have hra : ¬ r ∣ a := fun hc => by
  obtain ⟨j, hj⟩ : ∃ j, n - 1 = j + 1 := ⟨n - 2, by omega⟩
  have : r ∣ a ^ (n - 1) := by rw [hj, Nat.pow_succ]; grind
  rw [Nat.mod_eq_zero_of_dvd this, Nat.mod_eq_of_lt (by omega)] at Vq;cases Vq
 apply Classical.byContradiction;intro hcon;have hf : a ^ (r - 1) % r = 1 % r := by rw [Ee hr hra, Nat.mod_eq_of_lt (by omega)]
 have hg := one_gcd (n - 1) (r - 1) Vq hf
 have hgm : Nat.gcd (n - 1) (r - 1) ∣ m := by have c1 : Nat.Coprime q (Nat.gcd (n - 1) (r - 1)) := hq.UF fun hc => hcon (Nat.dvd_trans hc (Nat.gcd_dvd_right _ _));refine c1.symm.dvd_of_dvd_mul_left (n := m) (m := q) ?_;rw [← hm]; exact Nat.gcd_dvd_left _ _
 have Vr : a ^ m % r = 1 % r := by obtain ⟨k, hk⟩ := hgm;rw [hk, Nat.pow_mul];exact ym hg k
 have : (g + 1) % r = 1 % r := by have e := congrArg (· % r) h2;simp only [Nat.mod_mod_of_dvd _ hd] at e;rw [← e, Vr]
 have hdg : r ∣ g := by have := (wY (show 1 ≤ g + 1 by omega)).1 this.symm;grind
 have := Nat.dvd_gcd hdg hd;simp_all
theorem pn (hn : 2 ≤ n) : ∃ r, ll r ∧ r ∣ n ∧ (r = n ∨ r * r ≤ n) := by
  have key : ∀ k d : Nat, d + k = n → 2 ≤ d → (∀ e, 2 ≤ e → e < d → ¬ e ∣ n) → ∃ r, 2 ≤ r ∧ r ∣ n ∧ ∀ e, 2 ≤ e → e < r → ¬ e ∣ n := by
    intro k
    induction k with
    | zero => intro d hd h2 hmin; exact ⟨d, h2, by simp_all, hmin⟩
    | succ k ih =>
      intro d hd h2 hmin
      by_cases hdn : d ∣ n
      · exact ⟨d, h2, hdn, hmin⟩
      refine ih (d + 1) (by omega) (by omega) fun e h2 he => ?_
      grind
  obtain ⟨r, h2, hrn, hmin⟩ := key (n - 2) 2 (by omega) (by omega) (fun e h1 h2 => by omega);refine ⟨r, ⟨h2, fun d hd => ?_⟩, hrn, ?_⟩
  · have Vq : d ≠ 0 := fun h => by subst h; have := Nat.eq_zero_of_zero_dvd hd; omega
    have hle := Nat.le_of_dvd (by omega) hd;by_cases h1 : d = 1
    · exact .inl h1
    right;by_cases hlt : d < r
    · exact absurd (Nat.dvd_trans hd hrn) (hmin d (by omega) hlt)
    omega
  obtain ⟨k, hk⟩ := hrn;by_cases Vr : k = 1
  · grind
  right;have Vs : k ≠ 0 := fun h => by subst h; omega
  have : ¬ k < r := fun hlt => hmin k (by omega) hlt ⟨r, by rw [hk, Nat.mul_comm]⟩;rw [hk];exact Nat.mul_le_mul_left r (by omega)
theorem iM {F : Nat} (hn : 2 ≤ n) (hF : n < F * F) (h : ∀ r, ll r → r ∣ n → F ∣ r - 1) : ll n := by
 obtain ⟨r, hr, hd, hc⟩ := pn hn;rcases hc with rfl | hc
 ·exact hr
 have h2 := hr.1;have := Nat.le_of_dvd (by omega) (h r hr hd);have : F * F ≤ r * r := Nat.mul_le_mul (by omega) (by omega);omega
def Dp (n : Nat) : Nat → Nat → Bool
 | 0, _ => true
 | k + 1, d => n % d != 0 && Dp n k (d + 1)
theorem tj {n : Nat} : ∀ (k d : Nat), Dp n k d = true → ∀ e, d ≤ e → e < d + k → ¬ e ∣ n
  | 0, d, _, e, h1, h2 => by omega
  | k + 1, d, h, e, h1, h2 => by
    simp only [Dp, Bool.and_eq_true, bne_iff_ne, ne_eq] at h;by_cases he : e = d
    · subst he; exact fun hd => h.1 (Nat.mod_eq_zero_of_dvd hd)
    exact tj k (d + 1) h.2 e (by omega) (by omega)
theorem gR (hn : 2 ≤ n) (hk : n < (k + 2) * (k + 2)) (h : Dp n k 2 = true) : ll n := by
 obtain ⟨r, hr, hd, hc⟩ := pn hn;rcases hc with rfl | hc
 ·exact hr
 have hlt : r < k + 2 := Classical.byContradiction fun hge => by have : (k + 2) * (k + 2) ≤ r * r := Nat.mul_le_mul (by omega) (by omega);omega
 exact absurd hd (tj k 2 h r hr.1 (by omega))
def pw (n : Nat) : Nat → Nat → Nat → Nat
 | 0, _, _ => 1 % n
 | f + 1, a, e => if e = 0 then 1 % n else if e % 2 = 0 then pw n f (a * a % n) (e / 2) else a * pw n f (a * a % n) (e / 2) % n
theorem pd (n : Nat) : ∀ (f a e : Nat), e < 2 ^ f → pw n f a e = a ^ e % n
  | 0, a, e, h => by
    obtain rfl : e = 0 := by rw [Nat.pow_zero] at h; omega
    rfl
  | f + 1, a, e, h => by
    rw [pw];by_cases h0 : e = 0
    · rw [if_pos h0, h0, Nat.pow_zero]
    rw [if_neg h0, pd n f (a * a % n) (e / 2) (by rw [Nat.pow_succ] at h; omega), ← Nat.pow_mod, ← Nat.pow_two, ← Nat.pow_mul];by_cases h2 : e % 2 = 0
    · rw [if_pos h2, show 2 * (e / 2) = e by omega]
    rw [if_neg h2, Nat.mul_mod, Nat.mod_mod, ← Nat.mul_mod, Nat.mul_comm, ← Nat.pow_succ, show (2 * (e / 2)).succ = e by omega]
theorem iD (hq : ll q) (f a : Nat) (h : (decide (1 < n) && decide (n - 1 = q * m) && decide (n < 2 ^ f) && decide (pw n f a (n - 1) = 1) && decide (0 < pw n f a m) && decide (Nat.gcd (pw n f a m - 1) n = 1)) = true) (hr : ll r) (hd : r ∣ n) : q ∣ r - 1 := by
 simp only [Bool.and_eq_true, decide_eq_true_eq] at h;obtain ⟨⟨⟨⟨⟨h0, hm⟩, hf⟩, h1⟩, hp⟩, h2⟩ := h;have hmn : m ≤ n - 1 := by rw [hm]; exact Nat.le_mul_of_pos_left m (by grind)
 rw [pd n f a (n - 1) (by omega)] at h1;rw [pd n f a m (by omega)] at hp h2;exact TM (g := a ^ m % n - 1) h0 hq a hm h1 (by omega) h2 hr hd
theorem pe (h : Nat.gcd a b = 1) (ha : a ∣ c) (hb : b ∣ c) : a * b ∣ c := Nat.Coprime.mul_dvd_of_dvd_of_dvd h ha hb
theorem Bc : ll 430751 := gR (k := 660) (by omega) (by omega) (by decide +kernel)
theorem Gz : ll 4153 := gR (k := 66) (by omega) (by omega) (by decide +kernel)
theorem EU : ll 75707 := gR (k := 280) (by omega) (by omega) (by decide +kernel)
theorem M6 : ll 127 := gR (k := 12) (by omega) (by omega) (by decide +kernel)
theorem yM : ll 8574133 := gR (k := 2930) (by omega) (by omega) (by decide +kernel)
theorem Qu : ll 31757755568855353 :=
 iM (F := 430751 * 4153) (by omega) (by omega) fun _ hr hd => pe (by decide +kernel) (iD (m := 73726481352) Bc 60 2 (by decide +kernel) hr hd) (iD (m := 7646943310584) Gz 60 2 (by decide +kernel) hr hd)
theorem P5 : ll 1919519569386763 :=
 iM (F := 8574133 * 127) (by omega) (by omega) fun _ hr hd => pe (by decide +kernel) (iD (m := 223873314) yM 60 2 (by decide +kernel) hr hd) (iD (m := 15114327318006) M6 60 2 (by decide +kernel) hr hd)
theorem Qb : ll 75445702479781427272750846543864801 :=
 iM (F := 1919519569386763 * 75707) (by omega) (by omega) fun _ hr hd => pe (by decide +kernel) (iD (m := 39304471641247389600) P5 120 2 (by decide +kernel) hr hd) (iD (m := 996548568557483816196003626400) EU 120 2 (by decide +kernel) hr hd)
theorem QM : ll 74058212732561358302231226437062788676166966415465897661863160754340907 :=
 iM (F := 75445702479781427272750846543864801 * 31757755568855353) (by omega) (by omega) fun _ hr hd => pe (by decide +kernel) (iD (m := 981609426360740691344999861639072106) Qb 240 2 (by decide +kernel) hr hd) (iD (m := 2331972502653487852620185443007392165117953542933313402) Qu 240 2 (by decide +kernel) hr hd)
theorem Se : ll 57896044618658097711785492504343953926634992332820282019728792003956564819949 :=
 iM (F := 74058212732561358302231226437062788676166966415465897661863160754340907) (by omega) (by omega) fun _ hr hd => iD (m := 781764) QM 256 2 (by decide +kernel) hr hd
end Nt
namespace Fp
theorem Sr : 0 < p := by unfold p; omega
theorem OD : 2 < p := by unfold p; omega
theorem UN : Nt.ll p := Nt.Se
instance : NeZero p := ⟨by unfold p; omega⟩
abbrev F := Fin p
def of (x : Nat) : F := ⟨x % p, Nat.mod_lt _ Sr⟩
theorem Ql (a : F) : of a.val = a := Fin.ext (Nat.mod_eq_of_lt a.isLt)
theorem wh (x : Nat) : (of x).val = x % p := rfl
theorem val_add (a b : F) : (a + b).val = (a.val + b.val) % p := Fin.val_add a b
theorem val_mul (a b : F) : (a * b).val = a.val * b.val % p := Fin.val_mul a b
theorem val_sub (a b : F) : (a - b).val = (a.val + p - b.val) % p := by grind
theorem val_neg (a : F) : (-a).val = (p - a.val) % p := by rw [Fin.neg_def]
theorem val_zero : (0 : F).val = 0 := rfl
theorem val_one : (1 : F).val = 1 := rfl
theorem Kf (x y : Nat) : of (x * y) = of x * of y := Fin.ext (by rw [val_mul, wh, wh, wh, Nat.mul_mod])
theorem val_inj {a b : F} : a.val = b.val ↔ a = b := ⟨Fin.ext, fun h => by rw [h]⟩
theorem val_eq_zero {a : F} : a.val = 0 ↔ a = 0 := val_inj (b := 0)
theorem zero_or {a b : F} (h : a * b = 0) : a = 0 ∨ b = 0 := by
 have hv : a.val * b.val % p = 0 := by grind
 rcases UN.dvd_mul (Nat.dvd_of_mod_eq_zero hv) with hd | hd
 ·left; exact val_eq_zero.1 (Nat.eq_zero_of_dvd_of_lt hd a.isLt)
 right; exact val_eq_zero.1 (Nat.eq_zero_of_dvd_of_lt hd b.isLt)
theorem cancel {a b c : F} (ha : a ≠ 0) (h : a * b = a * c) : b = c := by
 have : a * (b - c) = 0 := by grind
 rcases zero_or this with h | h
 ·grind
 grind
def pow (a : F) (e : Nat) : F := of (a.val ^ e)
theorem Di (a : F) (e : Nat) : (pow a e).val = a.val ^ e % p := rfl
theorem pow_zero (a : F) : pow a 0 = 1 := by unfold pow; rw [Nat.pow_zero]; rfl
theorem pow_succ (a : F) (e : Nat) : pow a (e + 1) = pow a e * a := by unfold pow; rw [Nat.pow_succ, Kf, Ql]
theorem pow_one (a : F) : pow a 1 = a := by rw [show (1 : Nat) = 0 + 1 from rfl, pow_succ, pow_zero]; grind
theorem pow_add (a : F) (m n : Nat) : pow a (m + n) = pow a m * pow a n := by unfold pow; rw [Nat.pow_add, Kf]
theorem pow_mul (a : F) (m n : Nat) : pow a (m * n) = pow (pow a m) n := by
 induction n with
 | zero => rw [Nat.mul_zero, pow_zero, pow_zero]
 | succ n ih => rw [Nat.mul_succ, pow_add, ih, pow_succ]
theorem zero_pow (h : 0 < n) : pow 0 n = 0 := by
 obtain ⟨m, rfl⟩ : ∃ m, n = m + 1 := ⟨n - 1, by omega⟩
 rw [pow_succ]; grind
theorem kK (a : F) (n : Nat) : pow a (2 * n) = pow a n * pow a n := by rw [Nat.two_mul, pow_add]
theorem vW {a : F} (h : a ≠ 0) : pow a (p - 1) = 1 := by have := Nt.Ee UN (a := a.val) (fun hd => h (val_eq_zero.1 (Nat.eq_zero_of_dvd_of_lt hd a.isLt)));exact Fin.ext this
def inv (a : F) : F := pow a (p - 2)
theorem kz {a : F} (h : a ≠ 0) : a * inv a = 1 := by have hf := vW h;have hp := OD;rw [show p - 1 = (p - 2) + 1 by omega, pow_succ] at hf;unfold inv; grind
theorem inv_zero : inv 0 = 0 := by unfold inv; exact zero_pow (by have := OD; omega)
theorem Iv {a : F} (h : a ≠ 0) : inv a ≠ 0 := fun hc => by have h1 := kz h;grind
theorem nK : (1 : F) ≠ 0 := fun h => by grind
theorem Ch {a b : F} (h : a * b = 1) : b = inv a := by have ha : a ≠ 0 := fun hc => nK (by grind);exact cancel ha (by rw [h, kz ha])
def half : Nat := 28948022309329048855892746252171976963317496166410141009864396001978282409974
theorem Px : p - 1 = 2 * half := rfl
def tT (a : F) : Prop := pow a half = 0 ∨ pow a half = 1
instance (a : F) : Decidable (tT a) := inferInstanceAs (Decidable (_ ∨ _))
theorem pow_eq_zero {a : F} (h : pow a n = 0) : a = 0 := by
  induction n with
  | zero => rw [pow_zero] at h; grind
  | succ n ih =>
    rw [pow_succ] at h
    rcases zero_or h with h | h
    · exact ih h
    exact h
theorem lN {a x : F} (h : x * x = a) : tT a := by
 by_cases hx : x = 0
 ·left;subst hx; rw [← h, show (0 : F) * 0 = 0 by grind];exact zero_pow (by unfold half; omega)
 right;rw [← h, show x * x = pow x 2 by rw [show (2 : Nat) = 2 * 1 from rfl, kK, pow_one], ← pow_mul, ← Px];exact vW hx
def nu : Nat := 14474011154664524427946373126085988481658748083205070504932198000989141204987
theorem BO : half = 2 * nu := rfl
def e8 : Nat := 7237005577332262213973186563042994240829374041602535252466099000494570602494
theorem Qs : 2 * e8 = nu + 1 := rfl
def im : F := of 19681161376707505956807079304988542015446066515923890162744021073123829784752
theorem BG : pow (of 2) nu = im := Fin.ext (by
 rw [Di, show (of 2).val = 2 from rfl, ← Nt.pd p 256 2 nu (by decide +kernel)]
 decide +kernel)
theorem Pf : im * im = -1 := by decide +kernel
def bY (a : F) : F := pow a e8
theorem Ku (a : F) : bY a * bY a = a * pow a nu := by unfold bY;rw [← kK, Qs, pow_succ]; grind
theorem ya {a : F} (h : tT a) : bY a * bY a = a ∨ (bY a * im) * (bY a * im) = a := by
 have hg := Ku a;have hi := Pf;rcases h with h | h
 ·left;obtain rfl := pow_eq_zero h;rw [hg]; grind
 have hq : pow a nu * pow a nu = 1 := by rw [← kK, ← BO, h]
 have : (pow a nu - 1) * (pow a nu + 1) = 0 := by grind
 rcases zero_or this with hz | hz
 ·left; grind
 right; grind
theorem Ih {x : F} (h : x.val % 2 = 1) : (-x).val % 2 = 0 := by
 rw [val_neg];have hp : p % 2 = 1 := by decide +kernel
 rw [show (p - x.val) % p = p - x.val from Nat.mod_eq_of_lt (by omega)];omega
def root (a : F) : F := let x := if bY a * bY a = a then bY a else bY a * im; if x.val % 2 = 1 then -x else x
theorem Nu {a : F} (h : tT a) : root a * root a = a := by
 have h2 := ya h;unfold root;by_cases hg : bY a * bY a = a
 ·simp only [if_pos hg]; split <;> grind
 simp only [if_neg hg];split <;> grind
theorem EG (a : F) : (root a).val % 2 = 0 := by
 have key : ∀ x : F, (if x.val % 2 = 1 then -x else x).val % 2 = 0 := fun x => by
  by_cases h : x.val % 2 = 1
  ·rw [if_pos h]; exact Ih h
  grind
 exact key _
theorem FT {x y : F} (h : x * x = y * y) : x = y ∨ x = -y := by
 have : (x - y) * (x + y) = 0 := by grind
 rcases zero_or this with h | h
 ·left; grind
 right; grind
end Fp
namespace Ed
open Fp
def d : F := of 37095705934669439343138083508754565189542113879843219016388785533085940283555
theorem TP : pow d half = -1 := Fin.ext (by
 rw [Di, show d.val = 37095705934669439343138083508754565189542113879843219016388785533085940283555 from rfl, ← Nt.pd p 256 _ half (by decide +kernel)]
 decide +kernel)
theorem lH : (2 : F) ≠ 0 := by decide +kernel
theorem QI : ¬ tT d := fun h => by
 have h1 := TP;rcases h with h | h
 ·rw [h] at h1; exact absurd h1 (by decide +kernel)
 rw [h] at h1; exact absurd h1 (by decide +kernel)
theorem KF : im * im = -1 := by decide +kernel
def On (P : F × F) : Prop := P.2 * P.2 - P.1 * P.1 = 1 + d * P.1 * P.1 * P.2 * P.2
instance (P : F × F) : Decidable (On P) := inferInstanceAs (Decidable (_ = _))
def add (P Q : F × F) : F × F := ((P.1 * Q.2 + Q.1 * P.2) * inv (1 + d * P.1 * Q.1 * P.2 * Q.2), (P.2 * Q.2 + P.1 * Q.1) * inv (1 - d * P.1 * Q.1 * P.2 * Q.2))
def O : F × F := (0, 1)
def neg (P : F × F) : F × F := (-P.1, P.2)
theorem Dq {a b : F} (h : a * a = d * (b * b)) : b = 0 := by
 by_cases hb : b = 0
 ·exact hb
 exfalso;apply QI;have hi := kz hb;refine lN (x := a * inv b) ?_;grind
theorem SL (e : F) : e * 0 = 0 := by grind
theorem UW (e : F) : (1 : F) + e * 0 * 0 * 0 * 0 = 1 := by
 have h : e * 0 * 0 * 0 * 0 = 0 := by grind
 simp_all
theorem UT : (0 : F) * 0 - 0 * 0 = 0 := by decide +kernel
theorem UK {x y : F} (h : On (x, y)) : ¬ (x = 0 ∧ y = 0) := fun ⟨h1, h2⟩ => by subst h1; subst h2;unfold On at h;simp only at h;rw [UW, UT] at h;grind
theorem di {a b : F} (ha : a ≠ 0) (hb : b ≠ 0) : a * b ≠ 0 := fun h => (zero_or h).elim ha hb
theorem CW {x1 y1 x2 y2 e : F} (h1 : On (x1, y1)) (h2 : On (x2, y2)) (he : e * e = 1) : d * x1 * x2 * y1 * y2 ≠ e := fun hc => by
 unfold On at h1 h2;simp only at h1 h2;have hi := KF;have hen : e ≠ 0 := fun h0 => nK (by grind);have hxy : x1 * y1 ≠ 0 := fun h0 => hen (by grind)
 -- (i x1 + e' y1)^2 = - d x1^2 y1^2 (i x2 + y2)^2 , both signs
 have a1 : (im * x1 + e * y1) * (im * x1 + e * y1) = d * ((x1 * y1 * (im * x2 + y2)) * (x1 * y1 * (im * x2 + y2))) := by grind
 have a2 : (im * x1 - e * y1) * (im * x1 - e * y1) = d * ((x1 * y1 * (im * x2 - y2)) * (x1 * y1 * (im * x2 - y2))) := by grind
 have him : im ≠ 0 := fun h0 => nK (by grind);have c1 := (zero_or (Dq a1)).resolve_left hxy;have c2 := (zero_or (Dq a2)).resolve_left hxy;have hy : 2 * y2 = 0 := by grind
 have Vq := (zero_or hy).resolve_left lH;grind
theorem xe {x1 y1 x2 y2 : F} (h1 : On (x1, y1)) (h2 : On (x2, y2)) : 1 + d * x1 * x2 * y1 * y2 ≠ 0 := fun h =>
 CW h1 h2 (e := -1) (by decide +kernel) (by grind)
theorem xm {x1 y1 x2 y2 : F} (h1 : On (x1, y1)) (h2 : On (x2, y2)) : 1 - d * x1 * x2 * y1 * y2 ≠ 0 := fun h =>
 CW h1 h2 (e := 1) (by decide +kernel) (by grind)
theorem Qi {x1 y1 x2 y2 x3 y3 : F} (E1 : On (x1, y1)) (E2 : On (x2, y2)) (E3 : On (x3, y3)) :
  ((x1*y2+x2*y1)*(1-d*x1*x2*y1*y2)*y3 + x3*(y1*y2+x1*x2)*(1+d*x1*x2*y1*y2)) * ((1-d*x2*x3*y2*y3)*(1+d*x2*x3*y2*y3) + d*x1*y1*(x2*y3+x3*y2)*(y2*y3+x2*x3))
  = (x1*(y2*y3+x2*x3)*(1+d*x2*x3*y2*y3) + (x2*y3+x3*y2)*(1-d*x2*x3*y2*y3)*y1) * ((1-d*x1*x2*y1*y2)*(1+d*x1*x2*y1*y2) + d*x3*y3*(x1*y2+x2*y1)*(y1*y2+x1*x2)) := by
 unfold On at E1 E2 E3;grind
theorem QO {x1 y1 x2 y2 x3 y3 : F} (E1 : On (x1, y1)) (E2 : On (x2, y2)) (E3 : On (x3, y3)) :
  ((y1*y2+x1*x2)*(1+d*x1*x2*y1*y2)*y3 + x3*(x1*y2+x2*y1)*(1-d*x1*x2*y1*y2)) * ((1-d*x2*x3*y2*y3)*(1+d*x2*x3*y2*y3) - d*x1*y1*(x2*y3+x3*y2)*(y2*y3+x2*x3))
  = (y1*(y2*y3+x2*x3)*(1+d*x2*x3*y2*y3) + (x2*y3+x3*y2)*(1-d*x2*x3*y2*y3)*x1) * ((1-d*x1*x2*y1*y2)*(1+d*x1*x2*y1*y2) - d*x3*y3*(x1*y2+x2*y1)*(y1*y2+x1*x2)) := by
 unfold On at E1 E2 E3;grind
theorem RZ {x1 y1 x2 y2 : F} (E1 : On (x1, y1)) (E2 : On (x2, y2)) :
  ((y1*y2+x1*x2)*(1+d*x1*x2*y1*y2))*((y1*y2+x1*x2)*(1+d*x1*x2*y1*y2)) - ((x1*y2+x2*y1)*(1-d*x1*x2*y1*y2))*((x1*y2+x2*y1)*(1-d*x1*x2*y1*y2))
  = ((1-d*x1*x2*y1*y2)*(1+d*x1*x2*y1*y2))*((1-d*x1*x2*y1*y2)*(1+d*x1*x2*y1*y2)) + d * ((y1*y2+x1*x2)*(y1*y2+x1*x2)) * ((x1*y2+x2*y1)*(x1*y2+x2*y1)) := by
 unfold On at E1 E2;grind
theorem sA {a b c : F} (hb : b ≠ 0) (h : a = c * b) : c = a * inv b := by have := kz hb;grind
theorem div_mul {a b : F} (hb : b ≠ 0) : a * inv b * b = a := by have := kz hb;grind
theorem su {P Q : F × F} (h1 : On P) (h2 : On Q) : 1 + d * P.1 * Q.1 * P.2 * Q.2 ≠ 0 := xe (x1 := P.1) (y1 := P.2) (x2 := Q.1) (y2 := Q.2) h1 h2
theorem lI {P Q : F × F} (h1 : On P) (h2 : On Q) : 1 - d * P.1 * Q.1 * P.2 * Q.2 ≠ 0 := xm (x1 := P.1) (y1 := P.2) (x2 := Q.1) (y2 := Q.2) h1 h2
theorem sF {P Q : F × F} (h1 : On P) (h2 : On Q) : (add P Q).1 * (1 + d * P.1 * Q.1 * P.2 * Q.2) = P.1 * Q.2 + Q.1 * P.2 := div_mul (xe h1 h2)
theorem ni {P Q : F × F} (h1 : On P) (h2 : On Q) : (add P Q).2 * (1 - d * P.1 * Q.1 * P.2 * Q.2) = P.2 * Q.2 + P.1 * Q.1 := div_mul (xm h1 h2)
theorem wO {P Q : F × F} (h1 : On P) (h2 : On Q) : On (add P Q) := by
 obtain ⟨x1, y1⟩ := P;obtain ⟨x2, y2⟩ := Q;have hx := sF h1 h2;have hy := ni h1 h2;have hp := xe h1 h2;have hm := xm h1 h2;have ho := RZ h1 h2
 generalize add (x1, y1) (x2, y2) = R at *
 obtain ⟨x, y⟩ := R;simp only at hx hy;unfold On;simp only;have hpm := di (di hp hm) (di hp hm);refine cancel hpm ?_
 generalize d = e at *
 generalize Vq : 1 + e * x1 * x2 * y1 * y2 = s at *
 generalize Vr : 1 - e * x1 * x2 * y1 * y2 = t at *
 rw [← hx, ← hy] at ho;clear hx hy hp hm Vq Vr hpm h1 h2;grind
theorem Ut : On O := by decide +kernel
theorem vJ {P : F × F} (h : On P) : On (neg P) := by
 obtain ⟨x, y⟩ := P
 unfold On neg at *
 grind
theorem add_comm (P Q : F × F) : add P Q = add Q P := by obtain ⟨x1, y1⟩ := P;obtain ⟨x2, y2⟩ := Q;unfold add;grind
theorem inv_one : inv (1 : F) = 1 := (Ch (a := 1) (b := 1) (by decide +kernel)).symm
theorem JU (P : F × F) : add P O = P := by
 obtain ⟨x, y⟩ := P;unfold add O;simp only;have e1 : x * 1 + 0 * y = x := by grind
 have e2 : y * 1 + x * 0 = y := by grind
 have e3 : d * x * 0 * y * 1 = 0 := by grind
 have e4 : (1 : F) + 0 = 1 := by decide +kernel
 have e5 : (1 : F) - 0 = 1 := by decide +kernel
 rw [e1, e2, e3, e4, e5, inv_one];clear e1 e2 e3 e4 e5;grind
theorem add_neg {P : F × F} (h : On P) : add P (neg P) = O := by
 have hn := vJ h;have hx := sF h hn;have hy := ni h hn;have hp := xe (x1 := P.1) (y1 := P.2) (x2 := (neg P).1) (y2 := (neg P).2) h hn;have hm := xm (x1 := P.1) (y1 := P.2) (x2 := (neg P).1) (y2 := (neg P).2) h hn;refine Prod.ext ?_ ?_
 ·refine cancel hp ?_
  unfold neg O at *
  grind
 refine cancel hm ?_
 unfold neg O On at *
 grind
theorem Ds {A B n m u r : F} (hA : A ≠ 0) (hB : B ≠ 0) (hu : u * A = n) (hr : r * B = m) (key : n * B = m * A) : u = r := by refine cancel (di hA hB) ?_;grind
theorem add_assoc {P Q R : F × F} (h1 : On P) (h2 : On Q) (h3 : On R) : add (add P Q) R = add P (add Q R) := by
 have Vq := wO h1 h2;have Vr := wO h2 h3;have Vs := sF h1 h2;have Vt := ni h1 h2;have Vu := sF h2 h3;have Vv := ni h2 h3;have xl := sF Vq h3;have yl := ni Vq h3;have xr := sF h1 Vr;have yr := ni h1 Vr;have pl := su Vq h3;have ml := lI Vq h3;have pr := su h1 Vr;have mr := lI h1 Vr;have Vw := su h1 h2;have Vx := lI h1 h2;have Vy := su h2 h3;have Vz := lI h2 h3;have ax := Qi h1 h2 h3;have ay := QO h1 h2 h3
 generalize add (add P Q) R = L at *
 generalize add P (add Q R) = M at *
 generalize add P Q = S at *
 generalize add Q R = T at *
 obtain ⟨x1, y1⟩ := P; obtain ⟨x2, y2⟩ := Q; obtain ⟨x3, y3⟩ := R; obtain ⟨a, b⟩ := S; obtain ⟨f, g⟩ := T; obtain ⟨u, v⟩ := L; obtain ⟨r, s⟩ := M
 simp only at *
 clear h1 h2 h3 Vq Vr;have hne := di (di Vw Vx) (di Vy Vz)
 generalize d = e at *
 refine Prod.ext ?_ ?_
 ·show u = r;refine Ds pl pr xl xr (cancel hne ?_);rw [← Vs, ← Vt, ← Vu, ← Vv] at ax;clear xl yl xr yr pl ml pr mr ay Vs Vt Vu Vv hne Vw Vx Vy Vz;grind
 show v = s;refine Ds ml mr yl yr (cancel hne ?_);rw [← Vs, ← Vt, ← Vu, ← Vv] at ay;clear xl yl xr yr pl ml pr mr ax Vs Vt Vu Vv hne Vw Vx Vy Vz;grind
theorem xN (P : F × F) : add O P = P := by rw [add_comm, JU]
theorem neg_neg (P : F × F) : neg (neg P) = P := by obtain ⟨x, y⟩ := P;unfold neg;grind
def mul : Nat → F × F → F × F
 | 0, _ => O
 | n + 1, P => add (mul n P) P
theorem mb {P : F × F} (h : On P) : ∀ n, On (mul n P)
 | 0 => Ut
 | n + 1 => wO (mb h n) h
theorem mul_one (P : F × F) : mul 1 P = P := xN P
theorem mul_add {P : F × F} (h : On P) (m : Nat) : ∀ n, mul (m + n) P = add (mul m P) (mul n P)
  | 0 => (JU _).symm
  | n + 1 => by show add (mul (m + n) P) P = add (mul m P) (add (mul n P) P);rw [mul_add h m n, add_assoc (mb h m) (mb h n) h]
theorem mul_two {P : F × F} (h : On P) (n : Nat) : mul (2 * n) P = add (mul n P) (mul n P) := by rw [Nat.two_mul, mul_add h]
theorem Ot : ∀ n, mul n O = O
 | 0 => rfl
 | n + 1 => by show add (mul n O) O = O; rw [Ot n, JU]
theorem rH {P : F × F} (h : On P) (m : Nat) : ∀ n, mul (m * n) P = mul n (mul m P)
  | 0 => rfl
  | n + 1 => by show mul (m * n + m) P = add (mul n (mul m P)) (mul m P);rw [mul_add h, rH h m n]
/-! Points by quotients. -/
structure Q4 where
 (x y z t : F)
def oE (q : Q4) (P : F × F) : Prop := q.z ≠ 0 ∧ q.x = P.1 * q.z ∧ q.y = P.2 * q.z ∧ q.t * q.z = q.x * q.y
def xF (p q : Q4) : Q4 :=
 let a := (p.y - p.x) * (q.y - q.x)
 let b := (p.y + p.x) * (q.y + q.x)
 let c := p.t * (d + d) * q.t
 let e := (p.z + p.z) * q.z
 ⟨(b - a) * (e - c), (e + c) * (b + a), (e - c) * (e + c), (b - a) * (b + a)⟩
theorem Pa {q : Q4} {P : F × F} (h : oE q P) : q.t = P.1 * P.2 * q.z := by obtain ⟨h1, h2, h3, h4⟩ := h;refine cancel h1 ?_;grind
theorem wA {p q : Q4} {P Q : F × F} (h : oE p P) (k : oE q Q) (hP : On P) (hQ : On Q) : oE (xF p q) (add P Q) := by
 have ht := Pa h;have kt := Pa k;have hx := sF hP hQ;have hy := ni hP hQ;have pp := su hP hQ;have pm := lI hP hQ;obtain ⟨h1, h2, h3, _⟩ := h;obtain ⟨k1, k2, k3, _⟩ := k
 generalize add P Q = R at *
 obtain ⟨x1, y1⟩ := P; obtain ⟨x2, y2⟩ := Q; obtain ⟨x, y⟩ := R;obtain ⟨a, b, z1, t1⟩ := p; obtain ⟨e, f, z2, t2⟩ := q
 simp only at *
 clear hP hQ;subst h2 h3 k2 k3 ht kt;unfold xF oE;simp only
 generalize d = D at *
 have eF : (y1 * z1 + x1 * z1) * (y2 * z2 + x2 * z2) - (y1 * z1 - x1 * z1) * (y2 * z2 - x2 * z2) = 2 * (z1 * z2) * (x1 * y2 + x2 * y1) := by grind
 have eI : (y1 * z1 + x1 * z1) * (y2 * z2 + x2 * z2) + (y1 * z1 - x1 * z1) * (y2 * z2 - x2 * z2) = 2 * (z1 * z2) * (y1 * y2 + x1 * x2) := by grind
 have eG : (z1 + z1) * z2 - x1 * y1 * z1 * (D + D) * (x2 * y2 * z2) = 2 * (z1 * z2) * (1 - D * x1 * x2 * y1 * y2) := by grind
 have eH : (z1 + z1) * z2 + x1 * y1 * z1 * (D + D) * (x2 * y2 * z2) = 2 * (z1 * z2) * (1 + D * x1 * x2 * y1 * y2) := by grind
 rw [eF, eI, eG, eH, ← hx, ← hy];have hz := di lH (di h1 k1);clear hx hy eF eI eG eH
 generalize 1 + D * x1 * x2 * y1 * y2 = A at *
 generalize 1 - D * x1 * x2 * y1 * y2 = B at *
 generalize 2 * (z1 * z2) = Z at *
 refine ⟨di (di hz pm) (di hz pp), ?_, ?_, ?_⟩
 ·grind
 ·grind
 grind
def qO : Q4 := ⟨0, 1, 1, 0⟩
theorem OH : oE qO O := ⟨nK, by decide +kernel, by decide +kernel, by decide +kernel⟩
def RM (P : F × F) : Q4 := ⟨P.1, P.2, 1, P.1 * P.2⟩
theorem Kq (P : F × F) : oE (RM P) P := by unfold RM oE;grind
theorem Hp {p q : Q4} {P Q : F × F} (h : oE p P) (k : oE q Q) : (p.x * q.z = q.x * p.z ∧ p.y * q.z = q.y * p.z) ↔ P = Q := by
 obtain ⟨h1, h2, h3, _⟩ := h;obtain ⟨k1, k2, k3, _⟩ := k;obtain ⟨x1, y1⟩ := P; obtain ⟨x2, y2⟩ := Q
 simp only at *
 rw [h2, h3, k2, k3];have hz := di h1 k1
 generalize p.z = z at *
 generalize q.z = u at *
 clear h2 h3 k2 k3;constructor
 ·rintro ⟨_, _⟩;refine Prod.ext (cancel hz ?_) (cancel hz ?_)
  ·grind
  grind
 grind
def ub (p : Q4) (n : Nat) : Nat → Q4
 | 0 => qO
 | j + 1 => let o := xF (ub p n j) (ub p n j); if n / 2 ^ (252 - j) % 2 = 1 then xF o p else o
theorem CY {p : Q4} {P : F × F} (h : oE p P) (hP : On P) (n : Nat) (hn : n < 2 ^ 253) : ∀ j, j ≤ 253 → oE (ub p n j) (mul (n / 2 ^ (253 - j)) P)
  | 0, _ => by rw [Nat.sub_zero, Nat.div_eq_of_lt hn]; exact OH
  | j + 1, hj => by
    have ih := CY h hP n hn j (by omega);have hm := mb hP (n / 2 ^ (253 - j));have h2 := wA ih ih hm hm;rw [← mul_two hP] at h2;have e : n / 2 ^ (253 - j) = n / 2 ^ (252 - j) / 2 := by rw [Nat.div_div_eq_div_mul, ← Nat.pow_succ, show (252 - j).succ = 253 - j from by omega]
    rw [show 253 - (j + 1) = 252 - j from by omega];show oE (if n / 2 ^ (252 - j) % 2 = 1 then xF (xF (ub p n j) (ub p n j)) p else xF (ub p n j) (ub p n j)) _;by_cases hb : n / 2 ^ (252 - j) % 2 = 1
    · rw [if_pos hb]
      have h3 := wA h2 h (mb hP _) hP;rw [show n / 2 ^ (252 - j) = 2 * (n / 2 ^ (253 - j)) + 1 from by omega];exact h3
    rw [if_neg hb, show n / 2 ^ (252 - j) = 2 * (n / 2 ^ (253 - j)) from by omega];exact h2
def L : Nat := 7237005577332262213973186563042994240857116359379907606001950938285454250989
def B : F × F := (of 15112221349535400772501151409588531511454012693041857206046113283949847762202, of 46316835694926478169428394003475163141307993866256225615783033603165251855960)
theorem tQ : On B := by decide +kernel
theorem Ao : (ub (RM B) L 253).x = 0 ∧ (ub (RM B) L 253).y = (ub (RM B) L 253).z := by decide +kernel
theorem Et : L < 2 ^ 253 := by decide +kernel
theorem AW : mul L B = O := by have h := CY (Kq B) tQ L Et 253 (Nat.le_refl _);rw [Nat.sub_self, Nat.pow_zero, Nat.div_one] at h;refine ((Hp h OH).1 ?_);obtain ⟨h1, h2⟩ := Ao;rw [h1, h2];unfold qO;grind
end Ed
end
section
open Go.RowKit Tryz
attribute [local irreducible] Y Ef WL WC WK WQ WM cv
def fe (f : Nat → Nat) : Array Value := aM .u64 (Fp.fn 5 f)
theorem aj (f : Nat → Nat) : (fe f).size = 5 := by rw [fe, bu, Fp.eT]
theorem dR (f : Nat → Nat) {i : Nat} (hi : i = j) (h : j < 5) : (fe f)[i]? = some (.int .u64 (f j : Nat)) := by subst hi; rw [fe, dL _ _ _ (by rw [Fp.eT]; exact h), Fp.sP f h]
theorem iU (f : Nat → Nat) (i x : Nat) : (fe f).setIfInBounds i (.int .u64 (x : Int)) = fe (fun j => if j = i then x else f j) := by rw [fe, gD, Fp.AI, fe]
theorem bC (f : Nat → Nat) : (fe f).all (·.oneCell') = true := dc _ _
theorem dY (h : ∀ j, j < 5 → f j = g j) : fe f = fe g := by unfold fe; rw [Fp.oV h]
theorem vo (x : Nat) (_ : x < 18446744073709551616) : (x : Int) / 2 ^ (min (51 : Int).toNat IntKind.u64.bits) = ((x / 2251799813685248 : Nat) : Int) := by rw [show (2 : Int) ^ (min (51 : Int).toNat IntKind.u64.bits) = ((2251799813685248 : Nat) : Int) from rfl];exact (Int.natCast_ediv _ _).symm
theorem lT (x : Nat) (hx : x < 18446744073709551616) : bits .and .u64 (x : Int) 2251799813685247 = ((x % 2251799813685248 : Nat) : Int) := by have h := (cD (p := x) (q := 2251799813685247) hx Om).1;rw [show ((2251799813685247 : Int)) = ((2251799813685247 : Nat) : Int) from rfl, h, show (2251799813685247 : Nat) = 2 ^ 51 - 1 from rfl, Nat.and_two_pow_sub_one_eq_mod]
theorem kb (f : Nat → Nat) (w : World) (hf : ∀ j, j < 5 → f j < 18446744073709551616) :
  Ct 202 #[.agg (fe f)] w fun e w' => e = .returned (.agg (fe (Fp.carry f))) ∧ Ext w w' := by
 refine aK (s := 5) 46 func202 rfl rfl rfl underlying134 rfl Kr rfl ?_;intro _ hret;refine aU ?_;intro w1 g1 (B1 : ao _ _ _ (fe f)) VI ex;have E1 := ex;refine aU ?_;intro w2 g2 (B2 : ao _ _ _ (fe (fun _ => 0))) Vv ex;have E2 := E1.ext ex; have Vt := B1.ext ex;refine au 4 ?_;refine al (ar rfl (cells := fe (fun _ => 0)) Kr) ?_;refine aU ?_;intro w3 g3 (B3 : ao _ _ _ (fe (fun _ => 0))) Vw ex;have E3 := E2.ext ex; have Vx := Vt.ext ex; have Vq : w.heap.size ≤ g3 := Nat.le_trans E2.size Vw; have Vy := B2.ext ex;refine ag (ah rfl rfl Kr B3 rfl (bC _)) rfl ?_;rintro _ w4 ⟨rfl, B4, cg⟩;have E4 := E3.aA cg Vq; have VJ := Vt.lt; have VK := B2.lt; have Vz := Vx.aA cg Om; have VA := Vy.aA cg Om; replace B4 : ao w4 g3 132 (fe (fun _ => 0)) := B4;refine aU ?_;refine aD (fun n' L wr => ∃ i : Nat, L = [(1, .pointer (some ⟨g1, 0, none⟩)), (2, .pointer (some ⟨g2, 0, none⟩)), (3, .pointer (some ⟨g3, 0, none⟩)), (12, .agg (fe f)), (13, .int .i64 (i : Int))] ∧ n' = 5 - i ∧ (i ≤ 5 ∧ Ext w wr ∧ ao wr g1 134 (fe f) ∧ ao wr g2 134 (fe (fun _ => 0)) ∧ ao wr g3 132 (fe (fun j => if j < i then f j / 2251799813685248 else 0)))) _ _ ⟨0, rfl, rfl, by omega, E4, Vz, VA, B4⟩ Ls ?_;rintro _ n' L wr ⟨i, rfl, rfl, _, F, C1, C2, C3⟩ VB;refine aU ?_;refine ak rfl (fun VC => ?_) (fun VC => ?_)
 ·refine au 7 ?_;refine al (po rfl rfl Tn.u Tn.u rfl Kr rfl Om (dR f rfl Om)) ?_;refine au 7 ?_;refine al (cB rfl rfl Om (vo _ (hf i Om))) ?_;refine au 1 ?_;refine ag (aq rfl rfl rfl Kr C3 (by rw [aj]; omega)) rfl ?_;rintro _ _ ⟨rfl, B5, cg⟩;rw [Nat.zero_add, iU] at B5; have F5 := F.aA cg Vq; have D1 := C1.aA cg Om; have D2 := C2.aA cg Om;refine au 7 ?_;refine ae ?_;refine VB _ _ ⟨i + 1, rfl, rfl, by omega, F5, D1, D2, B5.congr (dY fun j hj => by split <;> split <;> (try split) <;> (first | omega | rfl | (exfalso; omega) | (subst_vars; rfl)))⟩ Om Ls
 refine aU ?_;intro w6 g6 (B6 : ao _ _ _ (fe (fun _ => 0))) VD ex;have E6 := F.ext ex; have D1 := C1.ext ex; have D2 := C2.ext ex; have D3 := C3.ext ex; have Vr : w.heap.size ≤ g6 := Nat.le_trans F.size VD; have VL := C3.lt; have VE := C2.lt;refine aU ?_;refine aD (fun n' L wq => ∃ k : Nat, L = [(2, .pointer (some ⟨g2, 0, none⟩)), (3, .pointer (some ⟨g3, 0, none⟩)), (6, .pointer (some ⟨g6, 0, none⟩)), (23, .agg (fe f)), (24, .int .i64 (k : Int))] ∧ n' = 5 - k ∧ (k ≤ 5 ∧ Ext w wq ∧ ao wq g2 134 (fe (fun _ => 0)) ∧ ao wq g3 132 (fe (fun j => if j < i then f j / 2251799813685248 else 0)) ∧ ao wq g6 134 (fe (fun j => if j < k then Fp.carry f j else 0)))) _ _ ⟨0, rfl, rfl, by omega, E6, D2, D3, B6⟩ Ls ?_;rintro _ n' L wq ⟨k, rfl, rfl, _, G, K2, K3, K6⟩ Vu;refine aU ?_;refine ak rfl (fun VF => ?_) (fun VF => ?_)
 ·refine au 7 ?_;refine al (po rfl rfl Tn.u Tn.u rfl Kr rfl Om (dR f rfl Om)) ?_;refine au 7 ?_;refine al (aN rfl rfl (bD (n := k + 4) Om Om)) ?_;refine al (ck rfl rfl Om (show (((k + 4 : Nat) : Int).tmod 5 = (((k + 4) % 5 : Nat) : Int)) from rfl)) ?_;refine au 1 ?_;refine al (af rfl Tn.u rfl (K3.get (dR _ (by rw [Nat.zero_add]) Om))) ?_;refine au 2 ?_
  obtain ⟨c, hc⟩ : ∃ c, c = (if (k + 4) % 5 < i then f ((k + 4) % 5) / 2251799813685248 else 0) := ⟨_, rfl⟩
  rw [← hc];have hcl : c < 8192 := by rw [hc]; have := hf ((k + 4) % 5) Om; split <;> omega
  have hkl := hf k Om;refine aU ?_;refine ak rfl (fun VG => ?_) (fun VG => ?_)
  ·refine au 2 ?_;refine al (cL rfl rfl (aH (n := c * 19) Om Om)) ?_;refine au 6 ?_;refine al (cV rfl rfl (lT _ (hf k Om))) ?_;refine au 1 ?_;refine al (aN rfl rfl (aH (n := f k % 2251799813685248 + c * 19) Om Om)) ?_;refine au 2 ?_;refine ag (aq rfl rfl rfl Kr K6 (by rw [aj]; omega)) rfl ?_;rintro _ w7 ⟨rfl, B7, cg⟩;rw [Nat.zero_add, iU] at B7; have G7 := G.aA cg Vr; have L2 := K2.aA cg Om; have L3 := K3.aA cg Om;refine au 7 ?_;refine ae ?_
   refine Vu _ _ ⟨k + 1, rfl, rfl, by omega, G7, L2, L3, B7.congr (dY fun j hj => by
    have VH : k = 0 := by omega
    subst VH;by_cases Vs : j = 0
    ·subst Vs; rw [if_pos rfl, if_pos Om, hc, if_pos Om]; rfl
    rw [if_neg Vs, if_neg Om, if_neg Om])⟩ Om Ls
  refine au 5 ?_;refine al (cV rfl rfl (lT _ (hf k Om))) ?_;refine au 1 ?_;refine al (aN rfl rfl (aH (n := f k % 2251799813685248 + c) Om Om)) ?_;refine au 2 ?_;refine ag (aq rfl rfl rfl Kr K6 (by rw [aj]; omega)) rfl ?_;rintro _ w7 ⟨rfl, B7, cg⟩;rw [Nat.zero_add, iU] at B7; have G7 := G.aA cg Vr; have L2 := K2.aA cg Om; have L3 := K3.aA cg Om;refine au 7 ?_;refine ae ?_
  refine Vu _ _ ⟨k + 1, rfl, rfl, by omega, G7, L2, L3, B7.congr (dY fun j hj => by
   by_cases Vs : j = k
   ·subst Vs; rw [if_pos rfl, if_pos Om, hc, if_pos Om, Fp.carry, if_neg Om, show (j + 4) % 5 = j - 1 by omega]
   rw [if_neg Vs]; by_cases h2 : j < k
   ·rw [if_pos h2, if_pos Om]
   rw [if_neg h2, if_neg Om])⟩ Om Ls
 refine au 8 ?_;refine ag (ah rfl rfl (by rw [aj]; kernel_rfl) K2 (by rw [aj, aj]) (bC _)) rfl ?_;rintro _ _ ⟨rfl, B8, cg⟩;have G8 := G.aA cg (Nat.le_trans E1.size Vv);refine aU ?_;refine hret rfl B8 (aj _) ?_;exact ⟨by rw [dY (g := Fp.carry f) fun j hj => by rw [if_pos Om]], G8⟩
theorem mM (f : Nat → Nat) (w : World) (hf : Fp.small f) :
  Ct 209 #[.agg (fe f)] w fun e w' => e = .returned (.agg (fe (Fp.gp (Fp.val f % Fp.p)))) ∧ Ext w w' := by
 obtain ⟨h, hh⟩ : ∃ h, h = Fp.carry (Fp.carry f) := ⟨_, rfl⟩
 have hs := Fp.ic (f := f) (fun j hj => by have := hf j hj; omega);have hb : ∀ j, j < 5 → h j < 2251799813685248 + 19 := fun j hj => by rw [hh]; exact Fp.ve hs j hj
 have Vs : ∀ j, j < 5 → h j < 4503599627370496 := fun j hj => by have := hb j hj; omega
 have hend : ∀ j, j < 5 → (h j + Fp.rc h (Fp.qc h 5) j) % 2251799813685248 = Fp.gp (Fp.val f % Fp.p) j := fun j hj => Fp.JG hf hh j hj;refine aK (s := 5) 64 func209 rfl rfl rfl underlying134 rfl Kr rfl ?_;intro _ hret;refine aU ?_;intro w1 g1 (B1 : ao _ _ _ (fe f)) Vq ex;have E1 := ex; have VI := B1.lt;refine aU ?_;intro w2 g2 (B2 : ao _ _ _ (fe (fun _ => 0))) Vv ex;have E2 := E1.ext ex; have Vw := B1.ext ex; have Vt : w.heap.size ≤ g2 := Nat.le_trans E1.size Vv;refine aU ?_;refine aC func202 rfl (kb f _ (fun j hj => by have := hf j hj; omega)) ?_;rintro e _ ⟨rfl, ex⟩;refine aU ?_;have E3 := E2.ext ex; have C1 := Vw.ext ex; have C2 := B2.ext ex;refine aC func202 rfl (kb _ _ (fun j hj => by have := hs j hj; omega)) ?_;rintro e _ ⟨rfl, ex⟩;refine au 1 ?_;rw [← hh]; have E4 := E3.ext ex; have D1 := C1.ext ex; have D2 := C2.ext ex;refine ag (ah rfl rfl (by rw [aj]; kernel_rfl) D1 (by rw [aj, aj]) (bC _)) rfl ?_;rintro _ w5 ⟨rfl, B5, cg⟩;have E5 := E4.aA cg Vq; have D5 := D2.aA cg Om;refine au 5 ?_;refine al (bS rfl rfl Tn.u Kr (j := 0) rfl Om) ?_;refine al (af rfl Tn.u rfl (B5.get (dR h (j := 0) rfl Om))) ?_;refine al (aN rfl rfl (aH (n := h 0 + 19) Om (by have := hb 0 Om; omega))) ?_;refine al (cB rfl rfl Om (vo _ (by have := hb 0 Om; omega))) ?_;refine aU ?_;refine aD (fun n' L wr => ∃ i : Nat, L = [(1, .pointer (some ⟨g1, 0, none⟩)), (2, .pointer (some ⟨g2, 0, none⟩)), (3, .int .u64 ((Fp.qc h i : Nat) : Int)), (4, .int .i64 (i : Int))] ∧ n' = 5 - i ∧ (i ≤ 5 ∧ wr = w5)) _ _ ⟨1, rfl, rfl, by omega, rfl⟩ Ls ?_;rintro _ n' L wr ⟨i, rfl, rfl, _, hw⟩ Vx;refine aU ?_;refine ak rfl (fun Vy => ?_) (fun Vy => ?_)
 ·have hq := Fp.OR Vs i Om;have hbi := hb i Om;refine au 8 ?_;refine al (af rfl Tn.u rfl ((hw ▸ B5 : ao wr g1 134 (fe h)).get (dR h (by rw [Nat.zero_add]) Om))) ?_;refine au 1 ?_;refine al (aN rfl rfl (aH (n := h i + Fp.qc h i) Om Om)) ?_;refine al (cB rfl rfl Om (vo _ Om)) ?_;refine au 9 ?_;refine ae ?_;refine Vx _ _ ⟨i + 1, rfl, rfl, by omega, hw⟩ Om Ls
 refine au 6 ?_;obtain rfl : i = 5 := by omega
 subst hw
 obtain ⟨q, hq⟩ : ∃ q, q = Fp.qc h 5 := ⟨_, rfl⟩
 have Vr : q ≤ 19 := by rw [hq]; exact Fp.OR Vs 5 Om
 rw [← hq] at hend ⊢;have VJ := hb 0 Om;refine au 2 ?_;refine al (bS rfl rfl Tn.u Kr (j := 0) rfl Om) ?_;refine al (af rfl Tn.u rfl (B5.get (dR h (j := 0) rfl Om))) ?_;refine au 1 ?_;refine al (cL rfl rfl (aH (n := 19 * q) Om Om)) ?_;refine al (aN rfl rfl (aH (n := h 0 + 19 * q) Om Om)) ?_;refine au 1 ?_;refine al (bS rfl rfl Tn.u Kr (j := 0) rfl Om) ?_;refine ag (aq rfl rfl rfl Kr B5 (by rw [aj]; omega)) rfl ?_;rintro _ w7 ⟨rfl, B7, cg⟩;have E7 := E5.aA cg Vq; have D7 := D5.aA cg Om; replace B7 : ao w7 g1 134 (fe (Fp.st h q 0)) := (B7.congr (iU h 0 _)).congr (dY fun j _ => Fp.Mu h q j);refine aU ?_;refine aD (fun n' L wq => ∃ k : Nat, L = [(1, .pointer (some ⟨g1, 0, none⟩)), (2, .pointer (some ⟨g2, 0, none⟩)), (33, .int .i64 (k : Int))] ∧ n' = 4 - k ∧ (k ≤ 4 ∧ Ext w wq ∧ ao wq g1 134 (fe (Fp.st h q k)) ∧ ao wq g2 134 (fe (fun _ => 0)))) _ _ ⟨0, rfl, rfl, by omega, E7, B7, D7⟩ Ls ?_;rintro _ n' L wq ⟨k, rfl, rfl, _, F, K1, K2⟩ Vz;refine aU ?_;refine ak rfl (fun VA => ?_) (fun VA => ?_)
 ·refine aU ?_;have hrc := Fp.OS Vr Vs k Om;have hbk := hb k Om; have VB := hb (k + 1) Om;refine az Kr 14 rfl ?_; intro VC ex VD;have F6 := F.ext ex; have L1 := K1.ext ex; have L2 := K2.ext ex;refine zm [0, 1, 2] ?_;refine dg 3 rfl (fun _ => bS rfl rfl Tn.u Kr (j := k + 1) Om Om) ?_;refine my 4 rfl (af rfl Tn.u rfl (L1.get (v := .int .u64 ((h (k + 1) : Nat) : Int)) (by rw [Nat.zero_add, dR _ rfl Om, Fp.NI]))) ?_;refine zm [5, 6, 7] ?_;refine my 8 rfl (af rfl Tn.u rfl (L1.get (v := .int .u64 ((h k + Fp.rc h q k : Nat) : Int)) (by rw [Nat.zero_add, dR _ rfl Om, Fp.Li]))) ?_;refine dg 9 rfl (fun _ => cB rfl rfl Om (vo _ Om)) ?_;refine dg 10 rfl (fun _ => aN rfl rfl (aH (n := h (k + 1) + (h k + Fp.rc h q k) / 2251799813685248) Om Om)) ?_;refine zm [11] ?_;refine dg 12 rfl (fun _ => bS rfl rfl Tn.u Kr (j := k + 1) Om Om) ?_;refine aL 13 Kr ?_; refine aQ rfl (aq rfl rfl rfl Kr L1 (by rw [aj]; omega)) rfl ?_;rintro _ _ ⟨rfl, B8, cg⟩;refine ⟨.inl rfl, ?_⟩;rw [Nat.zero_add, iU] at B8; have F8 := F6.aA cg Vq; have M2 := L2.aA cg Om;refine au 7 ?_;refine al (af rfl Tn.u rfl (B8.get (v := .int .u64 ((h k + Fp.rc h q k : Nat) : Int)) (by rw [Nat.zero_add, dR _ rfl Om, if_neg Om, Fp.Li]))) ?_;refine al (cV rfl rfl (lT _ Om)) ?_;refine au 2 ?_;refine ag (aq rfl rfl rfl Kr B8 (by rw [aj]; omega)) rfl ?_;rintro _ _ ⟨rfl, B9, cg⟩;rw [Nat.zero_add, iU] at B9; have F9 := F8.aA cg Vq; have M3 := M2.aA cg Om;refine au 7 ?_;refine ae ?_;refine Vz _ _ ⟨k + 1, rfl, rfl, by omega, F9, B9.congr (dY fun j _ => Fp.Oe h q k j), M3⟩ Om Ls
 obtain rfl : k = 4 := by omega
 have hrc := Fp.OS Vr Vs 4 Om;have VK := hb 4 Om;refine au 8 ?_;refine al (bS rfl rfl Tn.u Kr (j := 4) rfl Om) ?_;refine al (af rfl Tn.u rfl (K1.get (v := .int .u64 ((h 4 + Fp.rc h q 4 : Nat) : Int)) (by rw [Nat.zero_add, dR _ rfl Om, Fp.Li]))) ?_;refine al (cV rfl rfl (lT _ Om)) ?_;refine au 1 ?_;refine al (bS rfl rfl Tn.u Kr (j := 4) rfl Om) ?_;refine ag (aq rfl rfl rfl Kr K1 (by rw [aj]; omega)) rfl ?_;rintro _ VE ⟨rfl, Vu, cg⟩;have VF := F.aA cg Vq; have M4 := K2.aA cg Om; replace Vu : ao VE g1 134 (fe (Fp.gp (Fp.val f % Fp.p))) := (Vu.congr (iU _ 4 _)).congr (dY fun j hj => (Fp.Ps h q j hj).trans (hend j hj));refine au 5 ?_;refine ag (ah rfl rfl (by rw [aj]; kernel_rfl) M4 (by rw [aj, aj]) (bC _)) rfl ?_;rintro _ _ ⟨rfl, VG, cg⟩;have VH := VF.aA cg Vt;refine aU ?_;refine hret rfl VG (aj _) ?_;exact ⟨rfl, VH⟩
theorem Ka (x : Nat) (hx : x < 18446744073709551616) : bits .and .u64 (x : Int) 4294967295 = ((x % 4294967296 : Nat) : Int) := by have h := (cD (p := x) (q := 4294967295) hx Om).1;rw [show ((4294967295 : Int)) = ((4294967295 : Nat) : Int) from rfl, h, show (4294967295 : Nat) = 2 ^ 32 - 1 from rfl, Nat.and_two_pow_sub_one_eq_mod]
theorem yR (x : Nat) : (x : Int) / 2 ^ (min (32 : Int).toNat IntKind.u64.bits) = ((x / 4294967296 : Nat) : Int) := by rw [show (2 : Int) ^ (min (32 : Int).toNat IntKind.u64.bits) = ((4294967296 : Nat) : Int) from rfl];exact (Int.natCast_ediv _ _).symm
theorem p8 (x y : Nat) (w : World) (hx : x < 18446744073709551616) (hy : y < 18446744073709551616) :
  Ct 237 #[.int .u64 (x : Int), .int .u64 (y : Int)] w fun e w' => e = .returned (.tuple #[.int .u64 ((x * y / 18446744073709551616 : Nat) : Int), .int .u64 ((x * y % 18446744073709551616 : Nat) : Int)]) ∧ Ext w w' := by
 obtain ⟨h1, h2, h3, h4⟩ := Lib.mul64_hi x y hx hy
 obtain ⟨xl, hxl⟩ : ∃ a, a = x % 4294967296 := ⟨_, rfl⟩
 obtain ⟨xh, hxh⟩ : ∃ a, a = x / 4294967296 := ⟨_, rfl⟩
 obtain ⟨yl, hyl⟩ : ∃ a, a = y % 4294967296 := ⟨_, rfl⟩
 obtain ⟨yh, hyh⟩ : ∃ a, a = y / 4294967296 := ⟨_, rfl⟩
 rw [← hxl, ← hyl] at h1;rw [← hxl, ← hxh, ← hyl] at h2;rw [← hxl, ← hxh, ← hyl, ← hyh] at h3 h4;have hb := Lib.half_mul_le (a := xh) (b := yl) Om Om;have hc := Lib.half_mul_le (a := xl) (b := yh) Om Om;have hd := Lib.half_mul_le (a := xh) (b := yh) Om Om;have hlt : x * y / 18446744073709551616 < 18446744073709551616 := Nat.div_lt_of_lt_mul (Nat.mul_lt_mul'' hx hy)
 obtain ⟨w0, Vq⟩ : ∃ a, a = xl * yl := ⟨_, rfl⟩
 obtain ⟨b0, Vr⟩ : ∃ a, a = xh * yl := ⟨_, rfl⟩
 obtain ⟨c0, Vs⟩ : ∃ a, a = xl * yh := ⟨_, rfl⟩
 obtain ⟨d0, Vt⟩ : ∃ a, a = xh * yh := ⟨_, rfl⟩
 rw [← Vq, ← Vr, ← Vs, ← Vt] at h4;rw [← Vq] at h1;rw [← Vq, ← Vr] at h2;rw [← Vq, ← Vr, ← Vs] at h3;rw [← Vr] at hb;rw [← Vs] at hc;rw [← Vt] at hd;refine bL 51 func237 rfl rfl rfl rfl ?_;intro _ hret;refine au 9 ?_;refine al (cV rfl rfl (show bits .and .u64 (x : Int) 4294967295 = (xl : Int) by rw [hxl]; exact Ka x hx)) ?_;refine au 6 ?_;refine al (cB rfl rfl Om (show (x : Int) / 2 ^ (min (32 : Int).toNat IntKind.u64.bits) = (xh : Int) by rw [hxh]; exact yR x)) ?_;refine au 6 ?_;refine al (cV rfl rfl (show bits .and .u64 (y : Int) 4294967295 = (yl : Int) by rw [hyl]; exact Ka y hy)) ?_;refine au 6 ?_;refine al (cB rfl rfl Om (show (y : Int) / 2 ^ (min (32 : Int).toNat IntKind.u64.bits) = (yh : Int) by rw [hyh]; exact yR y)) ?_;refine au 7 ?_;refine al (cL rfl rfl (aH (n := w0) (by rw [Vq]; exact (Int.natCast_mul _ _).symm) h1)) ?_;refine au 7 ?_;refine al (cL rfl rfl (aH (n := b0) (by rw [Vr]; exact (Int.natCast_mul _ _).symm) Om)) ?_;refine au 1 ?_;refine al (cB rfl rfl Om (yR _)) ?_;refine al (aN rfl rfl (aH (n := b0 + w0 / 4294967296) Om h2)) ?_;refine au 6 ?_;refine al (cV rfl rfl (Ka _ h2)) ?_;refine au 6 ?_;refine al (cB rfl rfl Om (yR _)) ?_;refine au 8 ?_;refine al (cL rfl rfl (aH (n := c0) (by rw [Vs]; exact (Int.natCast_mul _ _).symm) Om)) ?_;refine al (aN rfl rfl (aH (n := (b0 + w0 / 4294967296) % 4294967296 + c0) Om h3)) ?_;refine au 7 ?_;refine al (cL rfl rfl (aH (n := d0) (by rw [Vt]; exact (Int.natCast_mul _ _).symm) Om)) ?_;refine au 1 ?_;refine al (aN rfl rfl (aH (n := d0 + (b0 + w0 / 4294967296) / 4294967296) Om Om)) ?_;refine au 1 ?_;refine al (cB rfl rfl Om (yR _)) ?_;refine al (aN rfl rfl (aH (n := x * y / 18446744073709551616) Om hlt)) ?_;refine au 7 ?_;refine al (cL rfl rfl (Nk (n := x * y) (Int.natCast_mul _ _).symm)) ?_;refine aU ?_;refine hret rfl rfl ?_;exact ⟨rfl, Ext.refl _⟩
theorem iI (x y c : Nat) (hc : c ≤ 1) (w : World) :
  (callFunc 201 #[.int .u64 (x : Int), .int .u64 (y : Int), .int .u64 (c : Int)]).run Tryz.prog w = .ok (.value (.tuple #[.int .u64 (((x + y + c) % 18446744073709551616 : Nat) : Int), .int .u64 (((x + y + c) / 18446744073709551616 : Nat) : Int)])) w := by
 rw [run_callFunc_extern func201 Kr Kr Kr (e := add64Entry) Kr, run_add64 x y c Om Om Om Om];simp only [Result.andThen];congr 5 <;> omega
def tw (s : Nat) : Array Value := #[.int .u64 ((s / 18446744073709551616 : Nat) : Int), .int .u64 ((s % 18446744073709551616 : Nat) : Int)]
theorem vI (s : Nat) : (tw s).all (·.oneCell') = true := by simp [tw, Value.oneCell']
theorem yj (s a b : Nat) (w : World) (ha : a < 18446744073709551616) (hb : b < 18446744073709551616) (hs : s + a * b < 340282366920938463463374607431768211456) :
  Ct 200 #[.agg (tw s), .int .u64 (a : Int), .int .u64 (b : Int)] w fun e w' => e = .returned (.agg (tw (s + a * b))) ∧ Ext w w' := by
 obtain ⟨m, hm⟩ : ∃ m, m = a * b := ⟨_, rfl⟩
 rw [← hm] at hs ⊢;refine aK (s := 2) 34 func200 rfl rfl rfl underlying241 rfl Kr rfl ?_;intro _ hret;refine aU ?_;intro w1 g1 (B1 : ao _ _ _ (tw s)) Vt ex;have E1 := ex;refine aU ?_;intro w2 g2 (B2 : ao _ _ _ (tw 0)) Vr ex;have E2 := E1.ext ex; have Vs := B1.ext ex; have Vq : w.heap.size ≤ g2 := Nat.le_trans E1.size Vr;refine aU ?_;refine aC func237 rfl (p8 a b _ ha hb) ?_;rintro e _ ⟨rfl, ex⟩;refine au 1 ?_;rw [← hm]; have E3 := E2.ext ex; have C1 := Vs.ext ex; have C2 := B2.ext ex;refine au 12 ?_;refine al ((nT rfl (iI _ _ 0 Om))) ?_;refine au 13 ?_;refine al ((nT rfl (iI _ _ _ Om))) ?_;refine au 7 ?_;rw [show (s / 18446744073709551616 + m / 18446744073709551616 + (s % 18446744073709551616 + m % 18446744073709551616 + 0) / 18446744073709551616) % 18446744073709551616 = (s + m) / 18446744073709551616 by omega, show (s % 18446744073709551616 + m % 18446744073709551616 + 0) % 18446744073709551616 = (s + m) % 18446744073709551616 by omega];refine au 3 ?_;refine al (ar rfl (cells := tw (s + m)) Kr) ?_;refine ag (ah rfl rfl Kr C2 rfl (vI _)) rfl ?_;rintro _ _ ⟨rfl, B4, cg⟩;have E4 := E3.aA cg Vq;refine aU ?_;refine hret rfl B4 rfl ?_;exact ⟨rfl, E4⟩
def sm (S : Nat → Nat) : Array Value := ((List.range 5).map fun r => (tw (S r)).toList).flatten.toArray
theorem pF (S : Nat → Nat) : sm S = #[.int .u64 ((S 0 / 18446744073709551616 : Nat) : Int), .int .u64 ((S 0 % 18446744073709551616 : Nat) : Int), .int .u64 ((S 1 / 18446744073709551616 : Nat) : Int), .int .u64 ((S 1 % 18446744073709551616 : Nat) : Int), .int .u64 ((S 2 / 18446744073709551616 : Nat) : Int), .int .u64 ((S 2 % 18446744073709551616 : Nat) : Int), .int .u64 ((S 3 / 18446744073709551616 : Nat) : Int), .int .u64 ((S 3 % 18446744073709551616 : Nat) : Int), .int .u64 ((S 4 / 18446744073709551616 : Nat) : Int), .int .u64 ((S 4 % 18446744073709551616 : Nat) : Int)] := rfl
theorem Db (S : Nat → Nat) : (sm S).size = 10 := rfl
theorem Jr (S : Nat → Nat) (hr : r < 5) (j : Nat) (v : Value) (h : (tw (S r))[j]? = some v) : (sm S)[r * 2 + j]? = some v := by
 rw [pF];unfold tw at h
 have hj : j < 2 := by
  rcases Nat.lt_or_ge j 2 with h1 | h1
  ·exact h1
  rw [Array.getElem?_eq_none (by simpa using h1)] at h; cases h
 rcases Nat.lt_or_ge j 1 with h1 | h1
 ·obtain rfl : j = 0 := by omega
  match r, hr with
  | 0, _ | 1, _ | 2, _ | 3, _ | 4, _ => simpa using h
 obtain rfl : j = 1 := by omega
 match r, hr with
 | 0, _ | 1, _ | 2, _ | 3, _ | 4, _ => simpa using h
theorem Q8 (S : Nat → Nat) (hr : r < 5) : (sm S).extract (r * 2) (r * 2 + 2) = tw (S r) := by
 rw [pF]
 match r, hr with
 | 0, _ | 1, _ | 2, _ | 3, _ | 4, _ => rfl
theorem Jp (S : Nat → Nat) (hr : r < 5) (x : Nat) : ((sm S).toList.take (r * 2) ++ (tw x).toList ++ (sm S).toList.drop (r * 2 + (tw x).size)).toArray = sm (fun q => if q = r then x else S q) := by
 rw [pF, pF]
 match r, hr with
 | 0, _ | 1, _ | 2, _ | 3, _ | 4, _ => rfl
theorem zP {T : Nat → Nat} (h : ∀ r, r < 5 → S r = T r) : sm S = sm T := by rw [pF, pF, h 0 Om, h 1 Om, h 2 Om, h 3 Om, h 4 Om]
theorem SI (x : Nat) (hx : x * 8192 < 18446744073709551616) : IntKind.u64.wrap ((x : Int) * 2 ^ (min (13 : Int).toNat IntKind.u64.bits)) = ((x * 8192 : Nat) : Int) := by rw [show (2 : Int) ^ (min (13 : Int).toNat IntKind.u64.bits) = 8192 from rfl];exact aH Om hx
theorem TV (a b : Nat) (hb : b < 8192) (ha : a * 8192 < 18446744073709551616) : bits .or .u64 ((a * 8192 : Nat) : Int) (b : Int) = ((a * 8192 + b : Nat) : Int) := by have h := (cD (p := a * 8192) (q := b) ha Om).2.1;rw [h, show a * 8192 = 2 ^ 13 * a by omega, Nat.two_pow_add_eq_or_of_lt (show b < 2 ^ 13 from hb)]
theorem IB (f g : Nat → Nat) (w : World) (hf : Fp.small f) (hg : Fp.small g) :
  Ct 144 #[.agg (fe f), .agg (fe g)] w fun e w' => ∃ h, e = .returned (.agg (fe h)) ∧ Fp.small h ∧ Fp.val h % Fp.p = Fp.val f * Fp.val g % Fp.p ∧ Ext w w' := by
 obtain ⟨S, hS⟩ : ∃ S, S = Fp.acc f g 25 := ⟨_, rfl⟩
 have hSl : ∀ j, j < 5 → S j ≤ 9634144561734543451374944360857600 := fun j _ => by rw [hS]; exact Fp.Jq hf hg 25 j Om
 have Vz : S 4 ≤ 101412048018258352119736256430080 := by rw [hS]; exact Fp.IN hf hg
 have hz : ∀ t r, t ≤ 25 → Fp.acc f g t r ≤ 9634144561734543451374944360857600 := fun t r ht => by have := Fp.Jq hf hg t r ht; omega
 refine aK (s := 5) 88 func144 rfl rfl rfl underlying134 rfl Kr rfl ?_;intro _ hret;refine aU ?_;intro w1 g1 (B1 : ao _ _ _ (fe f)) VU ex;have E1 := ex;refine aU ?_;intro w2 g2 (B2 : ao _ _ _ (fe g)) VV ex;have E2 := E1.ext ex; replace B1 := B1.ext ex; have VW := B2.lt;refine aU ?_;intro w3 g3 (B3 : ao _ _ _ (fe (fun _ => 0))) VA ex;have E3 := E2.ext ex; replace B1 := B1.ext ex; replace B2 := B2.ext ex; have VX := B3.lt;refine aU ?_;intro w4 g4 (B4 : ao _ _ _ (sm (fun _ => 0))) VB ex;have E4 := E3.ext ex; replace B1 := B1.ext ex; replace B2 := B2.ext ex; replace B3 := B3.ext ex; have Vq : w.heap.size ≤ g4 := Nat.le_trans E3.size VB; have Vt : w.heap.size ≤ g3 := Nat.le_trans E2.size VA;refine aU ?_;refine aD (fun n' L wr => ∃ i : Nat, L = [(3, .pointer (some ⟨g2, 0, none⟩)), (4, .pointer (some ⟨g3, 0, none⟩)), (5, .pointer (some ⟨g4, 0, none⟩)), (18, .agg (fe f)), (19, .int .i64 (i : Int))] ∧ n' = 5 - i ∧ (i ≤ 5 ∧ Ext w wr ∧ ao wr g2 134 (fe g) ∧ ao wr g3 134 (fe (fun _ => 0)) ∧ ao wr g4 242 (sm (Fp.acc f g (5 * i))))) _ _ ⟨0, rfl, rfl, by omega, E4, B2, B3, B4⟩ Ls ?_;rintro _ n' L wr ⟨i, rfl, rfl, _, F, C2, C3, C4⟩ VC;refine aU ?_;refine ak rfl (fun VD => ?_) (fun VD => ?_)
 ·refine au 7 ?_;refine al (po rfl rfl Tn.u Tn.u rfl Kr rfl Om (dR f rfl Om)) ?_;refine aU ?_;have hfi := hf i Om;refine aD (fun n' L wq => ∃ k : Nat, L = [(3, .pointer (some ⟨g2, 0, none⟩)), (4, .pointer (some ⟨g3, 0, none⟩)), (5, .pointer (some ⟨g4, 0, none⟩)), (6, .int .i64 (i : Int)), (7, .int .u64 ((f i : Nat) : Int)), (18, .agg (fe f)), (19, .int .i64 (i : Int)), (24, .agg (fe g)), (25, .int .i64 (k : Int))] ∧ n' = 5 - k ∧ (k ≤ 5 ∧ Ext w wq ∧ ao wq g2 134 (fe g) ∧ ao wq g3 134 (fe (fun _ => 0)) ∧ ao wq g4 242 (sm (Fp.acc f g (5 * i + k))))) _ _ ⟨0, rfl, rfl, by omega, F, C2, C3, C4⟩ Ls ?_;rintro _ n' L wq ⟨k, rfl, rfl, _, G, K2, K3, K4⟩ Vw;refine aU ?_;refine ak rfl (fun VE => ?_) (fun VE => ?_)
  ·refine au 7 ?_;refine al (po rfl rfl Tn.u Tn.u rfl Kr rfl Om (dR g rfl Om)) ?_;refine au 9 ?_;refine al (aN rfl rfl (bD (n := i + k) Om Om)) ?_;refine aU ?_;refine ak rfl (fun VF => ?_) (fun VF => ?_)
   ·have hgk := hg k Om;refine au 2 ?_;refine al (cL rfl rfl (aH (n := g k * 19) Om Om)) ?_;have Vu := hg k Om;have Vr : (i + k) % 5 < 5 := by omega
    have hac := hz (5 * i + k) ((i + k) % 5) Om;have hpr : f i * (g k * 19) ≤ 4503599627370496 * 85568392920039424 := Nat.mul_le_mul Om Om
    have hmt : ∀ r, Fp.acc f g (5 * i + (k + 1)) r = if r = (i + k) % 5 then Fp.acc f g (5 * i + k) ((i + k) % 5) + f i * (g k * 19) else Fp.acc f g (5 * i + k) r := fun r => by
     rw [show 5 * i + (k + 1) = 5 * i + k + 1 from rfl, Fp.acc, Fp.CF, show (5 * i + k) / 5 = i by omega, show (5 * i + k) % 5 = k by omega];by_cases h : r = (i + k) % 5
     ·subst h; rw [if_pos rfl, if_pos rfl]; congr 2; split <;> first | rfl | (exfalso; omega)
     rw [if_neg h, if_neg (fun e => h e.symm), Nat.add_zero]
    refine au 6 ?_;refine al (aN rfl rfl (bD (n := i + k) Om Om)) ?_;refine al (ck rfl rfl Om (show (((i + k : Nat) : Int).tmod 5 = (((i + k) % 5 : Nat) : Int)) from rfl)) ?_;refine au 2 ?_;refine al (aN rfl rfl (bD (n := i + k) Om Om)) ?_;refine al (ck rfl rfl Om (show (((i + k : Nat) : Int).tmod 5 = (((i + k) % 5 : Nat) : Int)) from rfl)) ?_;refine al (wJ (s := 2) rfl rfl Tn.u Kr rfl Om) ?_;refine al (dP rfl Tn.u rfl (cs := tw (Fp.acc f g (5 * i + k) ((i + k) % 5))) Kr (fun j v h => by rw [Addr.add_plain, Nat.zero_add]; exact K4.get (Jr _ Vr j v h))) ?_;refine aU ?_;refine aC func200 rfl (yj _ (f i) (g k * 19) _ Om Om Om) ?_;rintro e w5 ⟨rfl, ex⟩;refine au 1 ?_;have G5 := G.ext ex; have L2 := K2.ext ex; have L3 := K3.ext ex; have L4 := K4.ext ex;refine al (wJ (s := 2) rfl rfl Tn.u Kr rfl Om) ?_;refine ag (aP rfl rfl Kr L4 (by rw [Db]; show 0 + (i + k) % 5 * 2 + 2 ≤ 10; omega) (vI _)) rfl ?_;rintro _ w6 ⟨rfl, B6, cg⟩;rw [Nat.zero_add, Jp _ Vr] at B6; have G6 := G5.aA cg Vq; have M2 := L2.aA cg Om; have M3 := L3.aA cg Om;refine au 7 ?_;refine ae ?_;refine Vw _ _ ⟨k + 1, rfl, rfl, by omega, G6, M2, M3, B6.congr (zP fun r _ => (hmt r).symm)⟩ Om Ls
   have Vu := hg k Om;have Vr : (i + k) % 5 < 5 := by omega
   have hac := hz (5 * i + k) ((i + k) % 5) Om;have hpr : f i * (g k) ≤ 4503599627370496 * 85568392920039424 := Nat.mul_le_mul Om Om
   have hmt : ∀ r, Fp.acc f g (5 * i + (k + 1)) r = if r = (i + k) % 5 then Fp.acc f g (5 * i + k) ((i + k) % 5) + f i * (g k) else Fp.acc f g (5 * i + k) r := fun r => by
    rw [show 5 * i + (k + 1) = 5 * i + k + 1 from rfl, Fp.acc, Fp.CF, show (5 * i + k) / 5 = i by omega, show (5 * i + k) % 5 = k by omega];by_cases h : r = (i + k) % 5
    ·subst h; rw [if_pos rfl, if_pos rfl]; congr 2; split <;> first | rfl | (exfalso; omega)
    rw [if_neg h, if_neg (fun e => h e.symm), Nat.add_zero]
   refine au 5 ?_;refine al (aN rfl rfl (bD (n := i + k) Om Om)) ?_;refine al (ck rfl rfl Om (show (((i + k : Nat) : Int).tmod 5 = (((i + k) % 5 : Nat) : Int)) from rfl)) ?_;refine au 2 ?_;refine al (aN rfl rfl (bD (n := i + k) Om Om)) ?_;refine al (ck rfl rfl Om (show (((i + k : Nat) : Int).tmod 5 = (((i + k) % 5 : Nat) : Int)) from rfl)) ?_;refine al (wJ (s := 2) rfl rfl Tn.u Kr rfl Om) ?_;refine al (dP rfl Tn.u rfl (cs := tw (Fp.acc f g (5 * i + k) ((i + k) % 5))) Kr (fun j v h => by rw [Addr.add_plain, Nat.zero_add]; exact K4.get (Jr _ Vr j v h))) ?_;refine aU ?_;refine aC func200 rfl (yj _ (f i) (g k) _ Om Om Om) ?_;rintro e w5 ⟨rfl, ex⟩;refine au 1 ?_;have G5 := G.ext ex; have L2 := K2.ext ex; have L3 := K3.ext ex; have L4 := K4.ext ex;refine al (wJ (s := 2) rfl rfl Tn.u Kr rfl Om) ?_;refine ag (aP rfl rfl Kr L4 (by rw [Db]; show 0 + (i + k) % 5 * 2 + 2 ≤ 10; omega) (vI _)) rfl ?_;rintro _ w6 ⟨rfl, B6, cg⟩;rw [Nat.zero_add, Jp _ Vr] at B6; have G6 := G5.aA cg Vq; have M2 := L2.aA cg Om; have M3 := L3.aA cg Om;refine au 7 ?_;refine ae ?_;refine Vw _ _ ⟨k + 1, rfl, rfl, by omega, G6, M2, M3, B6.congr (zP fun r _ => (hmt r).symm)⟩ Om Ls
  refine au 10 ?_;refine ae ?_;refine VC _ _ ⟨i + 1, rfl, rfl, by omega, G, K2, K3, K4.congr (by rw [show k = 5 by omega]; rfl)⟩ Om Ls
 have VG : ao wr g4 242 (sm S) := C4.congr (by rw [hS, show i = 5 by omega]);refine aU ?_;intro w7 g7 (B7 : ao _ _ _ (fe (fun _ => 0))) VH ex;have E7 := F.ext ex; have D3 := C3.ext ex; have D4 := VG.ext ex; have Vs : w.heap.size ≤ g7 := Nat.le_trans F.size VH; have VI := C3.lt;refine aU ?_;refine aD (fun n' L wz => ∃ q : Nat, L = [(4, .pointer (some ⟨g3, 0, none⟩)), (10, .pointer (some ⟨g7, 0, none⟩)), (11, .int .u64 ((Fp.fr S q : Nat) : Int)), (51, .agg (sm S)), (52, .int .i64 (q : Int))] ∧ n' = 5 - q ∧ (q ≤ 5 ∧ Ext w wz ∧ ao wz g3 134 (fe (fun _ => 0)) ∧ ao wz g7 134 (fe (fun j => if j < q then (S j + Fp.fr S j) % 2251799813685248 else 0)))) _ _ ⟨0, rfl, rfl, by omega, E7, D3, B7⟩ Ls ?_;rintro _ n' L wz ⟨q, rfl, rfl, _, H, J3, J7⟩ VJ;refine aU ?_;refine ak rfl (fun VK => ?_) (fun VK => ?_)
 ·refine au 7 ?_;refine al (SP rfl rfl Tn.u Tn.u rfl Kr rfl Om (Q8 S Om)) ?_;refine aU ?_;intro w8 g8 (B8 : ao _ _ _ (tw 0)) VL ex;have H8 := H.ext ex; have P3 := J3.ext ex; have P7 := J7.ext ex; have Vv : w.heap.size ≤ g8 := Nat.le_trans H.size VL; have VM := J3.lt; have VN := J7.lt;refine au 1 ?_;refine ag (ah rfl rfl Kr B8 rfl (vI _)) rfl ?_;rintro _ _ ⟨rfl, _, cg⟩;have H9 := H8.aA cg Vv; have Q3 := P3.aA cg Om; have Q7 := P7.aA cg Om; have hfr := Fp.OQ hSl q Om; have hSq := hSl q Om;refine au 7 ?_;refine al ((nT rfl (iI _ _ 0 Om))) ?_;refine au 12 ?_;refine al (aN rfl rfl (aH (n := (S q + Fp.fr S q) / 18446744073709551616) Om Om)) ?_;refine au 4 ?_;rw [show (S q % 18446744073709551616 + Fp.fr S q + 0) % 18446744073709551616 = (S q + Fp.fr S q) % 18446744073709551616 by omega];refine au 3 ?_;refine al (cV rfl rfl (lT _ Om)) ?_;refine au 2 ?_;refine ag (aq rfl rfl rfl Kr Q7 (by rw [aj]; omega)) rfl ?_;rintro _ _ ⟨rfl, Vx, cg⟩;rw [Nat.zero_add, iU] at Vx; have VO := H9.aA cg Vs; have R3 := Q3.aA cg Om;refine au 4 ?_;refine al (gd rfl rfl Om (SI _ Om)) ?_;refine au 1 ?_;refine al (cB rfl rfl Om (vo _ Om)) ?_;refine al (jN rfl rfl (TV _ _ Om Om)) ?_;refine au 8 ?_;refine ae ?_;have hfrs : Fp.fr S (q + 1) = (S q + Fp.fr S q) / 2251799813685248 := rfl
  refine VJ _ _ ⟨q + 1, rfl, rfl, by omega, VO, R3, Vx.congr (dY fun j hj => by
   by_cases h : j = q
   ·subst h; rw [if_pos rfl, if_pos Om]; omega
   rw [if_neg h]; by_cases h2 : j < q
   ·rw [if_pos h2, if_pos Om]
   rw [if_neg h2, if_neg Om])⟩ Om Ls
 obtain rfl : q = 5 := by omega
 have VY := Fp.M9 hSl Vz
 obtain ⟨o, ho⟩ : ∃ o : Nat → Nat, o = fun j => (S j + Fp.fr S j) % 2251799813685248 + (if j = 0 then Fp.fr S 5 * 19 else 0) := ⟨_, rfl⟩
 have hol : ∀ j, j < 5 → o j < 18446744073709551616 := fun j hj => by rw [ho]; show (S j + Fp.fr S j) % 2251799813685248 + (if j = 0 then Fp.fr S 5 * 19 else 0) < _; split <;> omega
 have hov := Fp.NV S;rw [← ho] at hov
 have hoc : ∀ j, j < 5 → (if j = 0 then (S 0 + Fp.fr S 0) % 2251799813685248 + Fp.fr S 5 * 19 else if j < 5 then (S j + Fp.fr S j) % 2251799813685248 else 0) = o j := fun j hj => by
  rw [ho]
  show _ = (S j + Fp.fr S j) % 2251799813685248 + (if j = 0 then Fp.fr S 5 * 19 else 0)
  by_cases h : j = 0
  ·subst h; rw [if_pos rfl, if_pos rfl]
  rw [if_neg h, if_pos hj, if_neg h, Nat.add_zero]
 refine au 8 ?_;refine al (bS rfl rfl Tn.u Kr (j := 0) rfl Om) ?_;refine al (af rfl Tn.u rfl (J7.get (v := .int .u64 (((S 0 + Fp.fr S 0) % 2251799813685248 : Nat) : Int)) (by rw [Nat.zero_add, dR _ (j := 0) rfl Om, if_pos Om]))) ?_;refine au 1 ?_;refine al (cL rfl rfl (aH (n := Fp.fr S 5 * 19) Om Om)) ?_;refine al (aN rfl rfl (aH (n := (S 0 + Fp.fr S 0) % 2251799813685248 + Fp.fr S 5 * 19) Om Om)) ?_;refine au 1 ?_;refine al (bS rfl rfl Tn.u Kr (j := 0) rfl Om) ?_;refine ag (aq rfl rfl rfl Kr J7 (by rw [aj]; omega)) rfl ?_;rintro _ VP ⟨rfl, Vy, cg⟩;have VQ := H.aA cg Vs; have U3 := J3.aA cg Om; replace Vy : ao VP g7 134 (fe o) := (Vy.congr (iU _ 0 _)).congr (dY hoc);refine aU ?_;refine aC func202 rfl (kb o _ hol) ?_;rintro e _ ⟨rfl, ex⟩;refine au 1 ?_;have VR := VQ.ext ex; have V3 := U3.ext ex;refine ag (ah rfl rfl (by rw [aj]; kernel_rfl) V3 (by rw [aj, aj]) (bC _)) rfl ?_;rintro _ _ ⟨rfl, VS, cg⟩;have VT := VR.aA cg Vt;refine aU ?_;refine hret rfl VS (aj _) ?_
 exact ⟨Fp.carry o, rfl, Fp.ic hol, by
  obtain ⟨n, hn⟩ := Fp.Og f g
  rw [Fp.fG, hn, Nat.add_mul_mod_self_left, ← hS, ← hov, Nat.add_mul_mod_self_left], VT⟩
def Fe (cs : Array Value) (x : Nat) : Prop := ∃ f, cs = fe f ∧ Fp.small f ∧ Fp.val f % Fp.p = x
theorem Fe.lt (h : Fe cs x) : x < Fp.p := by obtain ⟨f, _, _, rfl⟩ := h; exact Nat.mod_lt _ (by unfold Fp.p; omega)
theorem Fe.size (h : Fe cs x) : cs.size = 5 := by obtain ⟨f, rfl, _⟩ := h; exact aj f
theorem Fe.one (h : Fe cs x) : cs.all (·.oneCell') = true := by obtain ⟨f, rfl, _⟩ := h; exact bC f
theorem Fe.zero : Fe (fe (fun _ => 0)) 0 := ⟨_, rfl, fun j _ => by show 0 < _; omega, rfl⟩
theorem zV (ha : Fe cs a) (hb : Fe ds b) (w : World) :
  Ct 144 #[.agg cs, .agg ds] w fun e w' => ∃ es, e = .returned (.agg es) ∧ Fe es (a * b % Fp.p) ∧ Ext w w' := by
 obtain ⟨f, rfl, hf, rfl⟩ := ha;obtain ⟨g, rfl, hg, rfl⟩ := hb;refine (IB f g w hf hg).mono ?_;rintro e w' ⟨h, rfl, hh, hv, ex⟩;exact ⟨_, rfl, ⟨h, rfl, hh, by rw [hv, Nat.mul_mod]⟩, ex⟩
theorem IP (ha : Fe cs a) (hb : Fe ds b) (w : World) :
  Ct 151 #[.agg cs, .agg ds] w fun e w' => ∃ es, e = .returned (.agg es) ∧ Fe es ((a + b) % Fp.p) ∧ Ext w w' := by
 obtain ⟨f, rfl, hf, rfl⟩ := ha;obtain ⟨g, rfl, hg, rfl⟩ := hb;refine aK (s := 5) 24 func151 rfl rfl rfl underlying134 rfl Kr rfl ?_;intro _ hret;refine aU ?_;intro w1 g1 (B1 : ao _ _ _ (fe f)) Vr ex;have E1 := ex; have Vv := B1.lt;refine aU ?_;intro w2 g2 (B2 : ao _ _ _ (fe g)) Vw ex;have E2 := E1.ext ex; replace B1 := B1.ext ex; have Vx := B2.lt;refine aU ?_;intro w3 g3 (B3 : ao _ _ _ (fe (fun _ => 0))) Vs ex;have E3 := E2.ext ex; replace B1 := B1.ext ex; replace B2 := B2.ext ex; have Vq : w.heap.size ≤ g3 := Nat.le_trans E2.size Vs;refine aU ?_;refine aD (fun n' L wr => ∃ i : Nat, L = [(2, .pointer (some ⟨g1, 0, none⟩)), (4, .pointer (some ⟨g3, 0, none⟩)), (8, .agg (fe g)), (9, .int .i64 (i : Int))] ∧ n' = 5 - i ∧ (i ≤ 5 ∧ Ext w wr ∧ ao wr g1 134 (fe (fun j => if j < i then f j + g j else f j)) ∧ ao wr g3 134 (fe (fun _ => 0)))) _ _ ⟨0, rfl, rfl, by omega, E3, B1.congr (dY fun j _ => by rw [if_neg Om]), B3⟩ Ls ?_;rintro _ n' L wr ⟨i, rfl, rfl, _, F, C1, C3⟩ Vt;refine aU ?_;refine ak rfl (fun Vu => ?_) (fun Vu => ?_)
 ·have hfi := hf i Om; have hgi := hg i Om;refine au 7 ?_;refine al (po rfl rfl Tn.u Tn.u rfl Kr rfl Om (dR g rfl Om)) ?_;refine au 8 ?_;refine al (af rfl Tn.u rfl (C1.get (v := .int .u64 ((f i : Nat) : Int)) (by rw [Nat.zero_add, dR _ rfl Om, if_neg Om]))) ?_;refine au 1 ?_;refine al (aN rfl rfl (aH (n := f i + g i) Om Om)) ?_;refine au 2 ?_;refine ag (aq rfl rfl rfl Kr C1 (by rw [aj]; omega)) rfl ?_;rintro _ _ ⟨rfl, B4, cg⟩;rw [Nat.zero_add, iU] at B4; have F4 := F.aA cg Vr; have D3 := C3.aA cg Om;refine au 7 ?_;refine ae ?_
  refine Vt _ _ ⟨i + 1, rfl, rfl, by omega, F4, B4.congr (dY fun j _ => by
   by_cases h : j = i
   ·subst h; rw [if_pos rfl, if_pos Om]
   rw [if_neg h]; by_cases h2 : j < i
   ·rw [if_pos h2, if_pos Om]
   rw [if_neg h2, if_neg Om]), D3⟩ Om Ls
 have hs : ∀ j, j < 5 → (if j < i then f j + g j else f j) < 18446744073709551616 := fun j hj => by have := hf j hj; have := hg j hj; split <;> omega
 have hv : Fp.val (fun j => if j < i then f j + g j else f j) = Fp.val f + Fp.val g := by rw [Fp.val_congr (g := fun j => f j + g j) fun j hj => by rw [if_pos Om]];simp only [Fp.val]; omega
 refine aU ?_;refine aC func202 rfl (kb _ _ hs) ?_;rintro e _ ⟨rfl, ex⟩;refine au 1 ?_;have F5 := F.ext ex; have D5 := C3.ext ex;refine ag (ah rfl rfl (by rw [aj]; kernel_rfl) D5 (by rw [aj, aj]) (bC _)) rfl ?_;rintro _ _ ⟨rfl, B6, cg⟩;have F6 := F5.aA cg Vq;refine aU ?_;refine hret rfl B6 (aj _) ?_;exact ⟨_, rfl, ⟨_, rfl, Fp.ic hs, by rw [Fp.fG, hv, Nat.add_mod]⟩, F6⟩
def jR (j : Nat) : Nat := if j = 0 then 4503599627370458 else 4503599627370494
theorem yW (j : Nat) : 4503599627370458 ≤ jR j ∧ jR j ≤ 4503599627370494 := by unfold jR; split <;> omega
theorem vV {F G p : Nat} (hF : F % p = a) (hG : G % p = b) (hb : b < p) (Vq : G ≤ F + 2 * p) : (F + 2 * p - G) % p = (a + p - b) % p := by
 have e1 := Nat.div_add_mod F p;have e2 := Nat.div_add_mod G p;rw [hF] at e1; rw [hG] at e2
 have h : F + 2 * p - G + p * (G / p) = a + p - b + p * (F / p + 1) := by rw [Nat.mul_add, Nat.mul_one];omega
 rw [← Nat.add_mul_mod_self_left (F + 2 * p - G) p (G / p), h, Nat.add_mul_mod_self_left]
theorem zQ (ha : Fe cs a) (hb : Fe ds b) (w : World) :
  Ct 206 #[.agg cs, .agg ds] w fun e w' => ∃ es, e = .returned (.agg es) ∧ Fe es ((a + Fp.p - b) % Fp.p) ∧ Ext w w' := by
 have hbl := hb.lt;obtain ⟨f, rfl, hf, hfa⟩ := ha;obtain ⟨g, rfl, hg, hgb⟩ := hb;refine aK (s := 5) 29 func206 rfl rfl rfl underlying134 rfl Kr rfl ?_;intro _ hret;refine aU ?_;intro w1 g1 (B1 : ao _ _ _ (fe f)) Vs ex;have E1 := ex; have Vx := B1.lt;refine aU ?_;intro w2 g2 (B2 : ao _ _ _ (fe g)) Vy ex;have E2 := E1.ext ex; replace B1 := B1.ext ex; have Vz := B2.lt;refine aU ?_;intro w3 g3 (B3 : ao _ _ _ (fe (fun _ => 0))) Vt ex;have E3 := E2.ext ex; replace B1 := B1.ext ex; replace B2 := B2.ext ex; have Vq : w.heap.size ≤ g3 := Nat.le_trans E2.size Vt; have VA := B3.lt;refine au 4 ?_;refine al (ar rfl (cells := fe jR) Kr) ?_;refine aU ?_;intro w4 g4 (B4 : ao _ _ _ (fe (fun _ => 0))) Vu ex;have E4 := E3.ext ex; replace B1 := B1.ext ex; replace B2 := B2.ext ex; replace B3 := B3.ext ex; have Vr : w.heap.size ≤ g4 := Nat.le_trans E3.size Vu;refine ag (ah rfl rfl Kr B4 (by rw [aj, aj]) (bC _)) rfl ?_;rintro _ _ ⟨rfl, B5, cg⟩;have E5 := E4.aA cg Vr; replace B1 := B1.aA cg Om; replace B2 := B2.aA cg Om; replace B3 := B3.aA cg Om;refine aU ?_;refine aD (fun n' L wr => ∃ i : Nat, L = [(2, .pointer (some ⟨g1, 0, none⟩)), (3, .pointer (some ⟨g2, 0, none⟩)), (4, .pointer (some ⟨g3, 0, none⟩)), (5, .pointer (some ⟨g4, 0, none⟩)), (8, .int .i64 (i : Int))] ∧ n' = 5 - i ∧ (i ≤ 5 ∧ Ext w wr ∧ ao wr g1 134 (fe (fun j => if j < i then f j + (jR j - g j) else f j)) ∧ ao wr g2 134 (fe g) ∧ ao wr g3 134 (fe (fun _ => 0)) ∧ ao wr g4 132 (fe jR))) _ _ ⟨0, rfl, rfl, by omega, E5, B1.congr (dY fun j _ => by rw [if_neg Om]), B2, B3, B5⟩ Ls ?_;rintro _ n' L wr ⟨i, rfl, rfl, _, F, C1, C2, C3, C4⟩ Vv;refine aU ?_;refine ak rfl (fun Vw => ?_) (fun Vw => ?_)
 ·refine aU ?_;have hfi := hf i Om; have hgi := hg i Om; have htw := yW i;refine az Kr 16 rfl ?_; intro VB ex VC;replace F := F.ext ex; replace C1 := C1.ext ex; replace C2 := C2.ext ex; replace C3 := C3.ext ex; replace C4 := C4.ext ex;refine zm [0, 1, 2] ?_;refine my 3 rfl (af rfl Tn.u rfl (C1.get (v := .int .u64 ((f i : Nat) : Int)) (by rw [Nat.zero_add, dR _ rfl Om, if_neg Om]))) ?_;refine zm [4, 5] ?_;refine my 6 rfl (af rfl Tn.u rfl (C4.get (dR jR (by rw [Nat.zero_add]) Om))) ?_;refine zm [7, 8, 9] ?_;refine my 10 rfl (af rfl Tn.u rfl (C2.get (dR g (by rw [Nat.zero_add]) Om))) ?_;refine dg 11 rfl (fun _ => fI rfl rfl (aH (n := jR i - g i) Om Om)) ?_;refine dg 12 rfl (fun _ => aN rfl rfl (aH (n := f i + (jR i - g i)) Om Om)) ?_;refine zm [13, 14] ?_;refine aL 15 Kr ?_; refine aQ rfl (aq rfl rfl rfl Kr C1 (by rw [aj]; omega)) rfl ?_;rintro _ _ ⟨rfl, B6, cg⟩;refine ⟨.inl rfl, ?_⟩;rw [Nat.zero_add, iU] at B6; have F6 := F.aA cg Vs; have D2 := C2.aA cg Om; have D3 := C3.aA cg Om; have D4 := C4.aA cg Om;refine au 8 ?_;refine ae ?_
  refine Vv _ _ ⟨i + 1, rfl, rfl, by omega, F6, B6.congr (dY fun j _ => by
   by_cases h : j = i
   ·subst h; rw [if_pos rfl, if_pos Om]
   rw [if_neg h]; by_cases h2 : j < i
   ·rw [if_pos h2, if_pos Om]
   rw [if_neg h2, if_neg Om]), D2, D3, D4⟩ Om Ls
 have hs : ∀ j, j < 5 → (if j < i then f j + (jR j - g j) else f j) < 18446744073709551616 := fun j hj => by have := hf j hj; have := yW j; split <;> omega
 have hv : Fp.val (fun j => if j < i then f j + (jR j - g j) else f j) = Fp.val f + 2 * Fp.p - Fp.val g ∧ Fp.val g ≤ Fp.val f + 2 * Fp.p := by rw [Fp.val_congr (g := fun j => f j + (jR j - g j)) fun j hj => by rw [if_pos Om]];have h0 := hg 0 Om; have h1 := hg 1 Om; have h2 := hg 2 Om; have h3 := hg 3 Om; have h4 := hg 4 Om;simp only [Fp.val, jR, Fp.p];simp;omega
 refine aU ?_;refine aC func202 rfl (kb _ _ hs) ?_;rintro e _ ⟨rfl, ex⟩;refine au 1 ?_;have F7 := F.ext ex; have D3 := C3.ext ex;refine ag (ah rfl rfl (by rw [aj]; kernel_rfl) D3 (by rw [aj, aj]) (bC _)) rfl ?_;rintro _ _ ⟨rfl, B8, cg⟩;have F8 := F7.aA cg Vq;refine aU ?_;refine hret rfl B8 (aj _) ?_;exact ⟨_, rfl, ⟨_, rfl, Fp.ic hs, by rw [Fp.fG, hv.1]; exact vV hfa hgb hbl hv.2⟩, F8⟩
theorem JO (ha : Fe cs a) (w : World) :
  Ct 208 #[.agg cs] w fun e w' => ∃ es, e = .returned (.agg es) ∧ Fe es ((Fp.p - a) % Fp.p) ∧ Ext w w' := by
 have hsz := ha.size;refine aK (s := 5) 6 func208 rfl rfl rfl underlying134 rfl Kr rfl ?_;intro _ hret;refine aU ?_;intro w1 g1 (B1 : ao _ _ _ (cs)) Vs ex;have E1 := ex;refine aU ?_;intro w2 g2 (B2 : ao _ _ _ (fe (fun _ => 0))) Vr ex;have E2 := E1.ext ex; replace B1 := B1.ext ex; have Vq : w.heap.size ≤ g2 := Nat.le_trans E1.size Vr;refine au 4 ?_;refine al (ar rfl (cells := fe (fun _ => 0)) Kr) ?_;refine al ((aW rfl Tn.u rfl (by rw [hsz]; kernel_rfl) B1)) ?_;refine aC func206 rfl (zQ Fe.zero ha _) ?_;rintro e _ ⟨es, rfl, he, ex⟩;refine au 1 ?_;rw [Nat.zero_add] at he; have E3 := E2.ext ex; have D2 := B2.ext ex;refine ag (ah rfl rfl (by rw [he.size]; kernel_rfl) D2 (by rw [aj, he.size]) he.one) rfl ?_;rintro _ _ ⟨rfl, B4, cg⟩;have E4 := E3.aA cg Vq;refine aU ?_;refine hret rfl B4 he.size ?_;exact ⟨es, rfl, he, E4⟩
theorem zR (ha : Fe cs a) (w : World) :
  Ct 205 #[.agg cs] w fun e w' => ∃ es, e = .returned (.agg es) ∧ Fe es (a * a % Fp.p) ∧ Ext w w' := by
 have hsz := ha.size;refine aK (s := 5) 6 func205 rfl rfl rfl underlying134 rfl Kr rfl ?_;intro _ hret;refine aU ?_;intro w1 g1 (B1 : ao _ _ _ (cs)) Vs ex;have E1 := ex;refine aU ?_;intro w2 g2 (B2 : ao _ _ _ (fe (fun _ => 0))) Vr ex;have E2 := E1.ext ex; replace B1 := B1.ext ex; have Vq : w.heap.size ≤ g2 := Nat.le_trans E1.size Vr;refine au 4 ?_;refine al ((aW rfl Tn.u rfl (by rw [hsz]; kernel_rfl) B1)) ?_;refine al ((aW rfl Tn.u rfl (by rw [hsz]; kernel_rfl) B1)) ?_;refine aC func144 rfl (zV ha ha _) ?_;rintro e _ ⟨es, rfl, he, ex⟩;refine au 1 ?_;have E3 := E2.ext ex; have D2 := B2.ext ex;refine ag (ah rfl rfl (by rw [he.size]; kernel_rfl) D2 (by rw [aj, he.size]) he.one) rfl ?_;rintro _ _ ⟨rfl, B4, cg⟩;have E4 := E3.aA cg Vq;refine aU ?_;refine hret rfl B4 he.size ?_;exact ⟨es, rfl, he, E4⟩
theorem KO (n : Nat) (w : World) (hn : n < 18446744073709551616) :
  Ct 143 #[.int .u64 (n : Int)] w fun e w' => ∃ es, e = .returned (.agg es) ∧ Fe es n ∧ Ext w w' := by
 obtain ⟨h, hh⟩ : ∃ h : Nat → Nat, h = fun j => if j = 0 then n % 2251799813685248 else if j = 1 then n / 2251799813685248 else 0 := ⟨_, rfl⟩
 have hsm : Fp.small h := fun j _ => by rw [hh]; show (if j = 0 then n % 2251799813685248 else if j = 1 then n / 2251799813685248 else 0) < _; split <;> (try split) <;> omega
 refine aK (s := 5) 9 func143 rfl rfl rfl underlying134 rfl Kr rfl ?_;intro _ hret;refine aU ?_;intro w1 g1 (B1 : ao _ _ _ (fe (fun _ => 0))) Vq ex;have E1 := ex;refine au 5 ?_;refine al (cV rfl rfl (lT _ hn)) ?_;refine au 1 ?_;refine al (cB rfl rfl Om (vo _ hn)) ?_;refine al (ar rfl (cells := fe h) (by rw [hh]; kernel_rfl)) ?_;refine al (ar rfl (cells := fe h) (by rw [hh]; kernel_rfl)) ?_;refine ag (ah rfl rfl (by rw [aj]; kernel_rfl) B1 (by rw [aj, aj]) (bC _)) rfl ?_;rintro _ _ ⟨rfl, B2, cg⟩;have E2 := E1.aA cg Vq;refine aU ?_;refine hret rfl B2 (aj _) ?_;exact ⟨_, rfl, ⟨h, rfl, hsm, by rw [hh]; simp only [Fp.val, Fp.p]; simp; omega⟩, E2⟩
theorem GJ (f : Nat → Nat) : (fe f).extract 0 (0 + 5) = fe f := rfl
theorem NW (x : Nat) (hx : x < 18446744073709551616) : bits .and .u64 (x : Int) 1 = ((x % 2 : Nat) : Int) := by have h := (cD (p := x) (q := 1) hx Om).1;rw [show ((1 : Int)) = ((1 : Nat) : Int) from rfl, h, Nat.and_one_is_mod]
theorem Lc (ha : Fe cs a) (w : World) :
  Ct 156 #[.agg cs] w fun e w' => e = .returned (.bool (decide (a % 2 = 1))) ∧ Ext w w' := by
 obtain ⟨f, rfl, hf, hfa⟩ := ha;refine ai 9 func156 rfl rfl rfl rfl ?_;intro _ hret;refine aU ?_;intro w1 g1 (B1 : ao _ _ _ (fe f)) Vq ex;have E1 := ex;refine aU ?_;refine aC func209 rfl (mM f _ hf) ?_;rintro e _ ⟨rfl, ex⟩;refine au 1 ?_;rw [hfa]; have E2 := E1.ext ex; have hl := Fp.DS a 0;refine al (Lp (o := 0) (s := 5) rfl underlying134 rfl underlying132 rfl Kr (GJ _)) ?_;refine al (po rfl rfl Tn.u Tn.u rfl Kr (j := 0) rfl Om (dR _ (j := 0) rfl Om)) ?_;refine al (cV rfl rfl (NW _ Om)) ?_;refine aU ?_;refine hret rfl ?_;exact ⟨dM (by simp only [Fp.gp, Nat.pow_zero, Nat.div_one]; omega), E2⟩
end
open Go.RowKit Tryz Go.ChangeMaps
theorem N5 (a b : Nat) : ((a : Int) == (b : Int)) = decide (a = b) := by
 by_cases h : a = b
 ·subst h; simp
 rw [decide_eq_false h]; simp; omega
theorem GZ (f : Nat → Nat) (hj : j < 5) (w : World) : (part 38 (fe f) j).run Tryz.prog w = .ok (.int .u64 ((f j : Nat) : Int)) w := by have h : (fe f)[j]? = some (.int .u64 ((f j : Nat) : Int)) := dR f rfl hj;simp [part, Ks underlying38 rfl w, h]
theorem MS (f g : Nat → Nat) (w : World) : (binOp .eql 134 (.agg (fe f)) (.agg (fe g))).run Tryz.prog w = .ok (.bool (decide (f 0 = g 0 ∧ f 1 = g 1 ∧ f 2 = g 2 ∧ f 3 = g 3 ∧ f 4 = g 4))) w := by
 rw [run_eql_struct];rw [run_equalIn_struct w 9999 _ _ _ (by simp [Program.fieldsOf, underlying134]) Kr];have hfs : (Tryz.prog.fieldsOf 134).toList = [{ name := "l", type := 132, offset := 0, embedded := false, tag := "", pkgPath := "ratline/field", byteOffset := 0 }] := by simp [Program.fieldsOf, underlying134]
 rw [hfs]
 have hp : ∀ h : Nat → Nat, (part 132 (fe h) 0).run Tryz.prog w = .ok (.agg (fe h)) w := fun h => by have hs : (sizeOf 132).run Tryz.prog w = .ok 5 w := bJ Kr w;simp [part, mv underlying132 rfl w, hs];exact .inr (by rw [aj]; omega)
 simp only [Op.eqFields];rw [if_pos (show "l" ≠ "_" by decide)];simp only [Sem.run_bind, hp, Result.andThen_ok];obtain ⟨i, hi⟩ : ∃ i, Tryz.prog.info? 38 = some i := Option.isSome_iff_exists.1 Kr;have hc : Tryz.prog.cellsOf 38 = 1 := by kernel_rfl
 rw [run_equalIn_array w 9998 (fe f) (fe g) underlying132 hi, hc, show List.range 5 = [0, 1, 2, 3, 4] from rfl]
 have he : ∀ a b : Nat, (Op.equalIn 9998 38 (.int .u64 (a : Int)) (.int .u64 (b : Int))).run Tryz.prog w = .ok (decide (a = b)) w := fun a b => by rw [run_equalIn_int w 9997 _ .u64 .u64 _ _ underlying38];rw [N5]
 have P : ∀ h : Nat → Nat, ∀ j, j < 5 → (part 38 (fe h) j).run Tryz.prog w = .ok (.int .u64 ((h j : Nat) : Int)) w := fun h j hj => GZ h hj w;simp only [Op.eqItems, Nat.mul_one, Sem.run_bind, P f 0 Om, P f 1 Om, P f 2 Om, P f 3 Om, P f 4 Om, P g 0 Om, P g 1 Om, P g 2 Om, P g 3 Om, P g 4 Om, he, Result.andThen_ok, Sem.run_ite, Sem.run_pure];by_cases h0 : f 0 = g 0 <;> by_cases h1 : f 1 = g 1 <;> by_cases h2 : f 2 = g 2 <;> by_cases h3 : f 3 = g 3 <;> by_cases h4 : f 4 = g 4 <;> simp [h0, h1, h2, h3, h4]
theorem RS {L : List (Nat × Value)} {x y : Operand} (hx : ev L x = some (.agg (fe f))) (hy : ev L y = some (.agg (fe g))) :
  Y Tryz.prog L w (.binOp .eql 134 x y t') ty (.bool (decide (f 0 = g 0 ∧ f 1 = g 1 ∧ f 2 = g 2 ∧ f 3 = g 3 ∧ f 4 = g 4))) := fun ρ hρ w' _ _ _ _ _ => by
 have hg := run_eqGuard_agg (P := Tryz.prog) w' .eql 134 x y (fe f) (fe g) Kr;simp [execOp, hρ _ _ hx, hρ _ _ hy, hg, MS f g w']
attribute [local irreducible] Y Ef WL WC WK WQ WM cv
theorem Lj (ha : a < Fp.p) (hb : b < Fp.p) : (Fp.gp a 0 = Fp.gp b 0 ∧ Fp.gp a 1 = Fp.gp b 1 ∧ Fp.gp a 2 = Fp.gp b 2 ∧ Fp.gp a 3 = Fp.gp b 3 ∧ Fp.gp a 4 = Fp.gp b 4) ↔ a = b := by
 constructor
 ·rintro ⟨h0, h1, h2, h3, h4⟩;have e : Fp.val (Fp.gp a) = Fp.val (Fp.gp b) := by unfold Fp.val; rw [h0, h1, h2, h3, h4]
  unfold Fp.p at ha hb;rwa [Fp.yO a Om, Fp.yO b Om] at e
 rintro rfl; exact ⟨rfl, rfl, rfl, rfl, rfl⟩
theorem Ft (ha : Fe cs a) (hb : Fe ds b) (w : World) :
  Ct 242 #[.agg cs, .agg ds] w fun e w' => e = .returned (.bool (decide (a = b))) ∧ Ext w w' := by
 have hal := ha.lt; have hbl := hb.lt;obtain ⟨f, rfl, hf, hfa⟩ := ha;obtain ⟨g, rfl, hg, hgb⟩ := hb;refine ai 10 func242 rfl rfl rfl rfl ?_;intro _ hret;refine aU ?_;intro w1 g1 (B1 : ao _ _ _ (fe f)) Vq ex;have E1 := ex;refine aU ?_;intro w2 g2 (B2 : ao _ _ _ (fe g)) Vr ex;have E := E1.ext ex; replace B1 := B1.ext ex;refine aU ?_;refine az Kr 6 rfl ?_; intro Vs ex Vt;obtain ⟨E,B1,B2⟩ := bF ex E B1 B2;refine zm [0, 2] ?_;refine bz 1 rfl func209 rfl (mM f _ hf) ?_;rintro e _ ⟨rfl, ex⟩;refine au 1 ?_;replace E := E.ext ex;rw [hfa];refine bz 3 rfl func209 rfl (mM g _ hg) ?_;rintro e _ ⟨rfl, ex⟩;refine au 1 ?_;replace E := E.ext ex;rw [hgb];refine my 4 rfl ((RS rfl rfl)) ?_;refine zm [5] ?_;refine hret rfl ?_;exact ⟨dM (Lj hal hbl), E⟩
end Go.Proofs.YtgfafidlkldeaaaGreat
