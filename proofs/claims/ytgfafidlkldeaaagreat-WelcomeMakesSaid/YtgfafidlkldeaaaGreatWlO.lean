/- A party's guests and their private keys. No conditions: contracts of functions. -/
import Derived.Test.YtgfafidlkldeaaaGreatWlN
import Derived.Test.YtgfafidlkldeaaaGreatAu
set_option linter.unusedVariables false
set_option linter.unusedSimpArgs false
set_option maxHeartbeats 4000000
set_option maxRecDepth 4000
namespace Go.Proofs.YtgfafidlkldeaaaGreat
open Go.RowKit Tryz
attribute [local irreducible] Y Ef WL WC WK WQ WM cx WN WF cT WJ gZ WG mR WR qo
open Wire Nd Hk
def uY (w : World) (cs : Array Value) (p : Nat × Nat) : Prop := cs = #[.int .u8 (p.1 : Int), .int .u8 (p.2 : Int)] ∧ p.1 < 256 ∧ p.2 < 256
abbrev Jf := List UInt8 × List UInt8 × List UInt8
def iq (B : Hd → List UInt8 → Prop) (cs : Array Value) (k : Jf) : Prop := ∃ h0 h1 h2 : Hd, cs = dw h0 h1 h2 ∧ B h0 k.1 ∧ B h1 k.2.1 ∧ B h2 k.2.2
theorem iq.imp : Ei iq := fun _ _ _ _ ⟨a, b, c, e, h1, h2, h3⟩ f => ⟨a, b, c, e, f _ _ h1, f _ _ h2, f _ _ h3⟩
theorem vH.imp' : Ei vH := fun _ _ _ _ h f => h.imp f
def zZ (p : Nat × Nat) : List UInt8 := pa (10 + p.1)
def Ip (p : Nat × Nat) : List UInt8 := if 0 < p.2 then pa p.2 else []
def BF (z : Int) (i : Nat) (p : Nat × Nat) : List UInt8 := if (i : Int) = z ∧ p.2 = 9 then [1] else Ip p
def Fq (p : Nat × Nat) : List UInt8 := pU (vD (zZ p))
def Ig (z : Int) (i : Nat) (p : Nat × Nat) : List UInt8 := if (i : Int) = z ∧ p.2 = 8 then [] else Fq p
def Jq (z : Int) (i : Nat) (p : Nat × Nat) : List UInt8 := if (i : Int) = z ∧ p.2 = 7 then List.replicate 32 0 else Ig z i p
def j8 (p : Nat × Nat) : Pack := Ku [UInt8.ofNat p.1] (zZ p)
def Nm (z : Int) (i : Nat) (p : Nat × Nat) : Gs := ⟨⟨Jq z i p, (j8 p).leaf, (j8 p).sig⟩, BF z i p⟩
def keyOf (p : Nat × Nat) : Jf := (mj (vD (zZ p)), mj (AU (zZ p)), uJ (zZ p))
def zL (z : Int) (ps : List (Nat × Nat)) (n : Nat) : List Gs := (List.range n).map fun i => Nm z i (ps.getD i (0, 0))
def oI (ps : List (Nat × Nat)) (n : Nat) : List Jf := (List.range n).map fun i => keyOf (ps.getD i (0, 0))
theorem Jp : sO Tryz.prog 58 68 9 200 := sO.of (z := .agg (wT aq aq aq aq 0 aq aq aq aq)) underlying58 Kr Kr Om
theorem GX : sO Tryz.prog 59 51 3 72 := sO.of (z := .agg #[.slice none 0 0, .slice none 0 0, .slice none 0 0]) underlying59 Kr Kr Om
theorem kc {w : World} {S : List Nat} {base : Nat} {h : Hd} {xs : Lb} (F : Fb base w h.A h.n xs) (hS : ∀ g ∈ S, g < base ∨ ∃ t vs, ao w g t vs ∧ vs.size ≤ 8 ∧ t ≠ 5) (hh : h.n = 0 ∨ 8 < h.n ∨ ∀ b o, h.A = some ⟨b, o, none⟩ → ∃ cur, ao w b 5 cur) : Bx S w h xs := ⟨F.1, fun hn b o e hm => by
 rcases hS b hm with h1 | ⟨t, vs, hb, hz, ht⟩
 ·have := F.2 hn b o e; omega
 ·rcases hh with h | h | h
  ·omega
  ·exact F.1.Dn hb Om o e
  ·obtain ⟨cur, hc⟩ := h b o e
   have h2 : some (Obj.cells vs t) = some (Obj.cells cur 5) := hb.symm.trans hc
   injection h2 with h2
   injection h2 with _ h2
   exact ht h2⟩
theorem Hs {w : World} {S : List Nat} {base : Nat} {cs : Array Value} {ident seed : Lb} (H : ox base w cs (Ku ident seed)) (IT : Hi 3 w cs) (h1 : 1 ≤ ident.length) (h2 : ident.length ≤ 64) (hS : ∀ g ∈ S, g < base ∨ ∃ t vs, ao w g t vs ∧ vs.size ≤ 8 ∧ t ≠ 5) : fG (Bx S w) cs (Ku ident seed) := by
 obtain ⟨o1, ⟨⟨o2, o3, o4, _⟩, _⟩, o5⟩ := vJ (ident := ident) seed h1 h2
 obtain ⟨i, p0, p1, p2, p4, p5, g, rfl, hs, a, b0, b1, b2, b4, b5, c⟩ := H
 have l := a.1.1; have l0 := b0.1.1; have l1 := b1.1.1; have l5 := b5.1.1; have l6 := c.1.1
 exact ⟨i, p0, p1, p2, p4, p5, g, rfl, hs, kc a hS (.inr (.inl Om)), kc b0 hS (.inr (.inl Om)), kc b1 hS (.inr (.inl Om)), kc b2 hS (.inr (.inr fun b o e => IT _ _ _ rfl b o e)), kc b4 hS (.inl b4.1.1.symm), kc b5 hS (.inr (.inl Om)), kc c hS (.inr (.inl Om))⟩
theorem LU {w : World} {S : List Nat} {base : Nat} {cs : Array Value} {a b c : Lb} (H : vG base w cs a b c) (h1 : a.length = 32) (h2 : b.length = 32) (h3 : c.length = 32) (hS : ∀ g ∈ S, g < base ∨ ∃ t vs, ao w g t vs ∧ vs.size ≤ 8 ∧ t ≠ 5) : iq (Bx S w) cs (a, b, c) := by
 obtain ⟨p0, p1, p2, rfl, x, y, z⟩ := H
 have l0 := x.1.1; have l1 := y.1.1; have l2 := z.1.1
 exact ⟨p0, p1, p2, rfl, kc x hS (.inr (.inl Om)), kc y hS (.inr (.inl Om)), kc z hS (.inr (.inl Om))⟩
theorem fG.inj {B : Hd → List UInt8 → Prop} {i h0 h1 h2 h4 h5 g : Hd} {s : Nat} {p : Pack} (h : fG B (dk i h0 h1 h2 s h4 h5 g) p) : p.leaf.src < 256 ∧ B i p.init ∧ B h0 p.leaf.box ∧ B h1 p.leaf.sign ∧ B h2 p.leaf.ident ∧ B h4 p.leaf.parent ∧ B h5 p.leaf.sig ∧ B g p.sig := by
 obtain ⟨i', Vl, Vm, Vn, Vo, Vp, g', e, hs, a, b0, b1, b2, b4, b5, c⟩ := h
 unfold dk at e
 simp only [Array.mk.injEq, List.cons.injEq, Value.slice.injEq, and_true] at e
 obtain ⟨e1, e2, e3, e4, _, e5, e6, e7⟩ := e
 cases i; cases h0; cases h1; cases h2; cases h4; cases h5; cases g
 cases i'; cases Vl; cases Vm; cases Vn; cases Vo; cases Vp; cases g'
 simp_all
def Fx (base g : Nat) (W : World) (h : Hd) (xs : Lb) : Prop := Fb base W h.A h.n xs ∧ (0 < h.n → ∀ b o, h.A = some ⟨b, o, none⟩ → b ≠ g)
structure GB (wq : World) (base g13 : Nat) (p0 p1 p2 : Hd) (s : Nat) (p4 p5 pg hi y : Hd) (ini way : Lb) (W : World) : Prop where
 e : Ext wq W
 b : ao W g13 68 (wT hi p0 p1 p2 s p4 p5 pg y)
 fi : Fx base g13 W hi ini
 fy : Fx base g13 W y way
section
variable {wq W W' : World} {base g13 g : Nat} {p0 p1 p2 p4 p5 pg hi y hi' y' h : Hd} {s : Nat} {ini way ini' way' xs : Lb}
theorem Fx.aw (h1 : Fx base g W h xs) (cg : j7 W g W') : Fx base g W' h xs := ⟨⟨((Kp.bs (S := [g]) h1.1.1 fun hn k hk o e => by simp at hk; subst hk; exact h1.2 hn _ _ e rfl).bT (aX.one cg) (fun _ h => h)).out, h1.1.2⟩, h1.2⟩
theorem Fx.ext (h1 : Fx base g W h xs) (e : Ext W W') : Fx base g W' h xs := ⟨h1.1.ext e, h1.2⟩
theorem Fx.nil (base g : Nat) (W : World) : Fx base g W aq [] := ⟨Fb.nil _ _ _, fun h => absurd h (Nat.lt_irrefl 0)⟩
theorem Fx.new {b n c : Nat} (H : Bs W (some ⟨b, 0, none⟩) n xs) (h1 : base ≤ b) (h2 : b ≠ g) : Fx base g W ⟨some ⟨b, 0, none⟩, n, c⟩ xs :=
 ⟨⟨H, fun _ _ _ e => by injection e with e; injection e with e; omega⟩, fun _ _ _ e => by injection e with e; injection e with e; omega⟩
theorem GB.ext (h : GB wq base g13 p0 p1 p2 s p4 p5 pg hi y ini way W) (x : Ext W W') : GB wq base g13 p0 p1 p2 s p4 p5 pg hi y ini way W' := ⟨h.e.tr x, h.b.ext x, h.fi.ext x, h.fy.ext x⟩
theorem GB.put (h : GB wq base g13 p0 p1 p2 s p4 p5 pg hi y ini way W) (cg : j7 W g13 W') (hg : wq.heap.size ≤ g13) (D : ao W' g13 68 (wT hi' p0 p1 p2 s p4 p5 pg y')) (fi : Fx base g13 W' hi' ini') (fy : Fx base g13 W' y' way') : GB wq base g13 p0 p1 p2 s p4 p5 pg hi' y' ini' way' W' :=
 ⟨h.e.aw cg hg, D, fi, fy⟩
end
theorem Dl {n : Nat} (h : n < 256) : #[Value.int .u8 (n : Int)] = cJ [UInt8.ofNat n] := by simp [cJ, bv, UInt8.toNat_ofNat']; omega
theorem vv {A : Oa} {n c : Nat} {ps : List (Nat × Nat)} (z : Int) (w : World) (HA : mI uY 2 w A n ps) (hn : n ≤ 1000) :
  Ct 16 #[.slice A n c, .int .i64 z] w fun e w' => ∃ A1 c1 A2 c2, e = .returned (.tuple #[.slice A1 n c1, .slice A2 n c2, .bool true]) ∧ mI j6 9 w' A1 n (zL z ps n) ∧ mI (fun w => iq (nI w)) 3 w' A2 n (oI ps n) ∧ Ext w w' := by
 have E := Ext.refl w
 have hpl := HA.1
 refine jQ 108 func16 rfl rfl rfl rfl ?_
 intro _ hret
 refine aU ?_
 refine aF (fun n' L wr => ∃ (i : Nat) (A7 : Oa) (c7 : Nat) (A8 : Oa) (c8 : Nat) (v7 v8 : List Value), L = [(0, .slice A n c), (1, .int .i64 z), (7, .slice A7 i c7), (8, .slice A8 i c8), (9, .int .i64 (i : Int))] ∧ n' = n - i ∧ (i ≤ n ∧ Ext w wr ∧ dZ vH 9 68 w.heap.size ((Value.slice A8 i c8).ownBlock.toList ++ []) wr A7 i c7 (zL z ps i) v7 ∧ dZ iq 3 51 w.heap.size ((Value.slice A7 i c7).ownBlock.toList ++ []) wr A8 i c8 (oI ps i) v8 ∧ (∀ g ∈ (Value.slice A7 i c7).ownBlock.toList, g ∉ (Value.slice A8 i c8).ownBlock.toList))) _ _ ⟨0, none, 0, none, 0, [], [], rfl, rfl, Nat.zero_le _, E, dZ.empty _ _ _ _ _ _, dZ.empty _ _ _ _ _ _, fun g h => by simp [Value.ownBlock] at h⟩ Ls ?_
 rintro _ n' L wr ⟨i, A7, c7, A8, c8, v7, v8, rfl, rfl, hi, E, X7, X8, hd⟩ Wl
 refine aU ?_
 refine al rfl (fun Wm => ?_) (fun Wm => ?_)
 ·skip
  obtain ⟨b, o, WX, p, e1, _, hx, hcz, ⟨rfl, Wc, WY⟩, hcx⟩ := HA.Dw Om (i := i) Om
  have hgd : ps.getD i (0, 0) = p := by rw [List.getD_eq_getElem?_getD, hx]; rfl
  have Vq : ∀ W', Ext w W' → ∀ j v, (#[.int .u8 (p.1 : Int), .int .u8 (p.2 : Int)] : Array Value)[j]? = some v → W'.cell? ⟨b, o + i * 2 + j, none⟩ = some v := fun W' E j v hv => (Below.cell E (dQ (hcx j v hv))).trans (hcx j v hv)
  have Z := Ext.refl wr
  refine au 5 ?_
  refine et (fun L Vr => ∃ (hi p0 p1 p2 p4 p5 pg k0 k1 k2 : Hd) (Vs Vo : Nat), L = [(0, .slice A n c), (1, .int .i64 z), (7, .slice A7 i c7), (8, .slice A8 i c8), (9, .int .i64 (i : Int)), (10, .pointer (some ⟨Vs, 0, none⟩)), (11, .pointer (some ⟨Vo, 0, none⟩)), (12, .int .u8 0)] ∧ (Ext wr Vr ∧ fG (Bx ((Value.slice A7 i c7).ownBlock.toList ++ (Value.slice A8 i c8).ownBlock.toList) Vr) (dk hi p0 p1 p2 (j8 p).leaf.src p4 p5 pg) (j8 p) ∧ iq (Bx ((Value.slice A7 i c7).ownBlock.toList ++ (Value.slice A8 i c8).ownBlock.toList) Vr) (dw k0 k1 k2) (keyOf p) ∧ Fb wr.heap.size Vr hi.A hi.n (Fq p) ∧ ao Vr Vs 29 (dk hi p0 p1 p2 (j8 p).leaf.src p4 p5 pg) ∧ ao Vr Vo 51 (dw k0 k1 k2) ∧ wr.heap.size ≤ Vo)) ?_ ?_
  ·skip
   refine dc Kr 24 rfl ?_; intro Wn ex WZ
   obtain ⟨E,Z⟩ := aY ex E Z
   have VF := E
   have VG := Z
   have X0 := Ext.refl Wn
   refine zm [0, 1] ?_
   refine cR 2 rfl Kr (dV (s := 2) (j := i) e1 rfl rfl Tn.u Kr rfl Om) rfl ?_
   refine zm [3] ?_
   refine cR 4 rfl Kr (ah rfl Tn.u rfl (Vq _ VF 0 _ rfl)) rfl ?_
   refine zm [6, 7] ?_
   refine cR 8 rfl Kr (dV (s := 2) (j := i) e1 rfl rfl Tn.u Kr rfl Om) rfl ?_
   refine zm [9] ?_
   refine cR 10 rfl Kr (ah rfl Tn.u rfl (Vq _ VF 0 _ rfl)) rfl ?_
   refine zm [11] ?_
   refine cR 12 rfl Kr (aN rfl rfl (show _ = (((10 + p.1 : Nat)) : Int) from br Om Om)) rfl ?_
   refine dd (fl := [nT 19 10 29 (dk aq aq aq aq 0 aq aq aq), nT 20 11 51 (dw aq aq aq)]) rfl ?_
   refine IY (i := 5) (j := 13) ⟨(aS (bw rfl Kr) (aS (bw rfl Kr) av)), of_decide_eq_true rfl, of_decide_eq_true rfl, (aS (⟨rfl, of_decide_eq_true rfl⟩) (aS (⟨rfl, of_decide_eq_true rfl⟩) av)), (aS (aR Kr) (aS (aR Kr) av))⟩ Kr ?_ ?_
   ·skip
    refine ⟨(aS (of_decide_eq_true rfl) (aS (of_decide_eq_true rfl) av)), _, _, _, _, _, rfl, (aS (of_decide_eq_true rfl) (aS (of_decide_eq_true rfl) av)), rfl, ?_⟩
    intro VH ex exb
    obtain ⟨E,Z,X0⟩ := bC ex E Z X0
    refine Ef.mono (aB (z := .int .u8 0) underlying23 Kr rfl rfl rfl rfl rfl) ?_
    rintro _ Wo ⟨Wq, rfl, VV, VW, ex⟩
    refine ⟨ex, ?_⟩
    obtain ⟨E,Z,X0⟩ := bC ex E Z X0
    have Vw := aZ (xs := [UInt8.ofNat p.1]) (VV.congr (Dl Wc)) rfl
    refine jj 13 (some 34) func28 ?_
    intro VB ex exb
    obtain ⟨E,Z,X0,Vw⟩ := bU ex E Z X0 Vw
    refine ⟨_, (jN (10 + p.1) Om _), ?_⟩
    rintro e VX ⟨Wr, rfl, Vx, _, ex⟩
    refine ⟨_, rfl, ex, ?_⟩
    obtain ⟨E,Z,X0,Vw⟩ := bU ex E Z X0 Vw
    refine jj 14 (some 35) func27 ?_
    intro Vt ex exb
    obtain ⟨E,Z,X0,Vw,Vx⟩ := gQ ex E Z X0 Vw Vx
    refine ⟨_, (nk _ Vw Om Om Vx), ?_⟩
    rintro e VY ⟨cs, ks, rfl, HP, HI, HK, ex⟩
    refine ⟨_, rfl, ex, ?_⟩
    obtain ⟨E,Z,X0⟩ := bC ex E Z X0
    have Ws := exb.size; obtain ⟨i0, p0, p1, p2, p4, p5, pg, rfl, _, q, _⟩ := id HP; obtain ⟨k0, k1, k2, rfl, _⟩ := id HK; have q2 := q.2
    refine mZ (dst := some 20) 15 rfl Kr (bj rfl) rfl (aS (of_decide_eq_true rfl) (aS (of_decide_eq_true rfl) av)) ?_
    refine mZ (dst := some 36) 16 rfl Kr (du rfl rfl) rfl (aS (of_decide_eq_true rfl) (aS (of_decide_eq_true rfl) av)) ?_
    refine mZ (dst := some 37) 17 rfl Kr (du rfl rfl) rfl (aS (of_decide_eq_true rfl) (aS (of_decide_eq_true rfl) av)) ?_
    refine mZ (dst := some 38) 18 rfl Kr (du rfl rfl) rfl (aS (of_decide_eq_true rfl) (aS (of_decide_eq_true rfl) av)) ?_
    refine fH ⟨(aS (bw rfl Kr) (aS (bw rfl Kr) av)), of_decide_eq_true rfl, of_decide_eq_true rfl, (aS (⟨rfl, of_decide_eq_true rfl⟩) (aS (⟨rfl, of_decide_eq_true rfl⟩) av)), (aS (aR Kr) (aS (aR Kr) av))⟩ Kr ?_
    rintro _ _ Wv ex ⟨⟨Vs, rfl, Vm⟩, Vu⟩ ⟨⟨Vo, rfl, Vn⟩, Vp⟩ Vl
    replace Vu := Vu Vs rfl
    replace Vp := Vp Vo rfl
    have Vv : Vs ≠ Vo := fun e => Vl Vs rfl (by rw [e]; rfl)
    obtain ⟨E,Z,X0⟩ := bC ex E Z X0
    have z0 := VG.size
    have HP := HP.ext ex
    have HI := HI.ext ex
    have HK := HK.ext ex
    have hS : ∀ g ∈ [Vs, Vo] ++ ((Value.slice A7 i c7).ownBlock.toList ++ (Value.slice A8 i c8).ownBlock.toList), g < Vt.heap.size ∨ ∃ t vs, ao _ g t vs ∧ vs.size ≤ 8 ∧ t ≠ 5 := fun g hg => by
     rcases List.mem_append.1 hg with h | h
     ·simp at h
      rcases h with rfl | rfl
      ·exact .inr ⟨_, _, Vm, by decide, by decide⟩
      ·exact .inr ⟨_, _, Vn, by decide, by decide⟩
     ·have h3 : g < wr.heap.size := by
       rcases List.mem_append.1 h with h | h
       ·exact (X7.2.1.ka (m := i) g h).2
       ·exact (X8.2.1.ka (m := i) g h).2
      exact .inl Om
    have PX := Hs HP HI (by simp) (by simp) hS
    have KX := LU HK (fC _) (fC _) (eD _) hS
    refine cL 21 Kr ?_
    refine dx rfl (ag rfl rfl Kr Vm rfl (bf rfl)) rfl ?_
    rintro _ VC ⟨rfl, Vm, cg⟩
    replace X0 := X0.aw cg Vu
    refine ⟨X0, ?_⟩
    replace E := VF.ext X0
    replace Z := VG.ext X0
    replace Vn := Vn.aw cg Om
    replace PX := PX.imp fun _ _ b => b.bT (aX.one cg) (by simp); replace KX := iq.imp _ _ _ _ KX fun _ _ b => b.bT (aX.one cg) (by simp)
    refine cL 22 Kr ?_
    refine dx rfl (ag rfl rfl Kr Vn rfl (bf rfl)) rfl ?_
    rintro _ VD ⟨rfl, Vn, cg⟩
    replace X0 := X0.aw cg Vp
    refine ⟨X0, ?_⟩
    replace E := VF.ext X0
    replace Z := VG.ext X0
    replace Vm := Vm.aw cg Om
    replace PX := PX.imp fun _ _ b => b.bT (aX.one cg) (by simp); replace KX := iq.imp _ _ _ _ KX fun _ _ b => b.bT (aX.one cg) (by simp)
    refine zm [23] ?_
    refine dA Kr ?_
    refine aU ?_
    exact bB _ ⟨i0, p0, p1, p2, p4, p5, pg, k0, k1, k2, Vs, Vo, rfl, Z, PX.imp fun _ _ b => b.re (fun g hg => .inl (List.mem_append_right _ hg)), iq.imp _ _ _ _ KX fun _ _ b => b.re (fun g hg => .inl (List.mem_append_right _ hg)), ⟨PX.inj.2.1.1, fun hn b o e => Nat.le_trans Om (q2 hn b o e)⟩, Vm, Vn, by omega⟩ Ls
   ·skip
    refine ⟨(aS (of_decide_eq_true rfl) (aS (of_decide_eq_true rfl) av)), _, _, _, _, _, rfl, (aS (of_decide_eq_true rfl) (aS (of_decide_eq_true rfl) av)), rfl, ?_⟩
    intro VB ex exb
    obtain ⟨E,Z,X0⟩ := bC ex E Z X0
    refine gG func28 rfl rfl rfl (jN (10 + p.1) Om _) ?_
    rintro e VX ⟨Wr, rfl, Vx, _, ex⟩
    refine ⟨_, rfl, ex, ?_⟩
    obtain ⟨E,Z,X0⟩ := bC ex E Z X0
    refine xS (j := 5) (dst := some 26) ⟨(aS (bw rfl Kr) (aS (bw rfl Kr) av)), of_decide_eq_true rfl, of_decide_eq_true rfl, (aS (⟨rfl, of_decide_eq_true rfl⟩) (aS (⟨rfl, of_decide_eq_true rfl⟩) av)), (aS (aR Kr) (aS (aR Kr) av))⟩ Kr (aS (of_decide_eq_true rfl) (aS (of_decide_eq_true rfl) av)) rfl (aS (of_decide_eq_true rfl) (aS (of_decide_eq_true rfl) av)) rfl ?_
    intro VH ex exb
    obtain ⟨E,Z,X0,Vx⟩ := bU ex E Z X0 Vx
    refine Ef.mono (aB (z := .int .u8 0) underlying23 Kr rfl rfl rfl rfl rfl) ?_
    rintro _ Wo ⟨Wq, rfl, VV, VW, ex⟩
    refine ⟨ex, ?_⟩
    obtain ⟨E,Z,X0,Vx⟩ := bU ex E Z X0 Vx
    have Vw := aZ (xs := [UInt8.ofNat p.1]) (VV.congr (Dl Wc)) rfl
    refine jj 14 (some 35) func27 ?_
    intro Vt ex exb
    obtain ⟨E,Z,X0,Vx,Vw⟩ := gQ ex E Z X0 Vx Vw
    refine ⟨_, (nk _ Vw Om Om Vx), ?_⟩
    rintro e VY ⟨cs, ks, rfl, HP, HI, HK, ex⟩
    refine ⟨_, rfl, ex, ?_⟩
    obtain ⟨E,Z,X0⟩ := bC ex E Z X0
    have Ws := exb.size; obtain ⟨i0, p0, p1, p2, p4, p5, pg, rfl, _, q, _⟩ := id HP; obtain ⟨k0, k1, k2, rfl, _⟩ := id HK; have q2 := q.2
    refine mZ (dst := some 20) 15 rfl Kr (bj rfl) rfl (aS (of_decide_eq_true rfl) (aS (of_decide_eq_true rfl) av)) ?_
    refine mZ (dst := some 36) 16 rfl Kr (du rfl rfl) rfl (aS (of_decide_eq_true rfl) (aS (of_decide_eq_true rfl) av)) ?_
    refine mZ (dst := some 37) 17 rfl Kr (du rfl rfl) rfl (aS (of_decide_eq_true rfl) (aS (of_decide_eq_true rfl) av)) ?_
    refine mZ (dst := some 38) 18 rfl Kr (du rfl rfl) rfl (aS (of_decide_eq_true rfl) (aS (of_decide_eq_true rfl) av)) ?_
    refine fH ⟨(aS (bw rfl Kr) (aS (bw rfl Kr) av)), of_decide_eq_true rfl, of_decide_eq_true rfl, (aS (⟨rfl, of_decide_eq_true rfl⟩) (aS (⟨rfl, of_decide_eq_true rfl⟩) av)), (aS (aR Kr) (aS (aR Kr) av))⟩ Kr ?_
    rintro _ _ Wv ex ⟨⟨Vs, rfl, Vm⟩, Vu⟩ ⟨⟨Vo, rfl, Vn⟩, Vp⟩ Vl
    replace Vu := Vu Vs rfl
    replace Vp := Vp Vo rfl
    have Vv : Vs ≠ Vo := fun e => Vl Vs rfl (by rw [e]; rfl)
    obtain ⟨E,Z,X0⟩ := bC ex E Z X0
    have z0 := VG.size
    have HP := HP.ext ex
    have HI := HI.ext ex
    have HK := HK.ext ex
    have hS : ∀ g ∈ [Vs, Vo] ++ ((Value.slice A7 i c7).ownBlock.toList ++ (Value.slice A8 i c8).ownBlock.toList), g < Vt.heap.size ∨ ∃ t vs, ao _ g t vs ∧ vs.size ≤ 8 ∧ t ≠ 5 := fun g hg => by
     rcases List.mem_append.1 hg with h | h
     ·simp at h
      rcases h with rfl | rfl
      ·exact .inr ⟨_, _, Vm, by decide, by decide⟩
      ·exact .inr ⟨_, _, Vn, by decide, by decide⟩
     ·have h3 : g < wr.heap.size := by
       rcases List.mem_append.1 h with h | h
       ·exact (X7.2.1.ka (m := i) g h).2
       ·exact (X8.2.1.ka (m := i) g h).2
      exact .inl Om
    have PX := Hs HP HI (by simp) (by simp) hS
    have KX := LU HK (fC _) (fC _) (eD _) hS
    refine cL 21 Kr ?_
    refine dx rfl (ag rfl rfl Kr Vm rfl (bf rfl)) rfl ?_
    rintro _ VC ⟨rfl, Vm, cg⟩
    replace X0 := X0.aw cg Vu
    refine ⟨X0, ?_⟩
    replace E := VF.ext X0
    replace Z := VG.ext X0
    replace Vn := Vn.aw cg Om
    replace PX := PX.imp fun _ _ b => b.bT (aX.one cg) (by simp); replace KX := iq.imp _ _ _ _ KX fun _ _ b => b.bT (aX.one cg) (by simp)
    refine cL 22 Kr ?_
    refine dx rfl (ag rfl rfl Kr Vn rfl (bf rfl)) rfl ?_
    rintro _ VD ⟨rfl, Vn, cg⟩
    replace X0 := X0.aw cg Vp
    refine ⟨X0, ?_⟩
    replace E := VF.ext X0
    replace Z := VG.ext X0
    replace Vm := Vm.aw cg Om
    replace PX := PX.imp fun _ _ b => b.bT (aX.one cg) (by simp); replace KX := iq.imp _ _ _ _ KX fun _ _ b => b.bT (aX.one cg) (by simp)
    refine zm [23] ?_
    refine dA Kr ?_
    refine aU ?_
    exact bB _ ⟨i0, p0, p1, p2, p4, p5, pg, k0, k1, k2, Vs, Vo, rfl, Z, PX.imp fun _ _ b => b.re (fun g hg => .inl (List.mem_append_right _ hg)), iq.imp _ _ _ _ KX fun _ _ b => b.re (fun g hg => .inl (List.mem_append_right _ hg)), ⟨PX.inj.2.1.1, fun hn b o e => Nat.le_trans Om (q2 hn b o e)⟩, Vm, Vn, by omega⟩ Ls
  rintro L Vr ⟨hi, p0, p1, p2, p4, p5, pg, k0, k1, k2, Vs, Vo, rfl, Z, PX, KX, FI, _, Ww, Vp⟩
  have E := E.tr Z
  refine au 14 ?_
  refine ak (aV rfl Tn.u rfl Kr (by assumption)) ?_
  refine ak (aJ rfl (cells := wT hi p0 p1 p2 (j8 p).leaf.src p4 p5 pg aq) Kr) ?_
  refine aU ?_
  intro W3 g13 (VA : ao _ _ _ (wT aq aq aq aq 0 aq aq aq aq)) Vy ex
  have Wx := ex
  refine aU ?_
  intro Wy VZ cg
  have We := Wx.aw cg Vy; have X : GB Vr wr.heap.size g13 p0 p1 p2 (j8 p).leaf.src p4 p5 pg hi aq (Fq p) ([]) Wy := ⟨We, VZ.congr rfl, ⟨FI.ext We, fun hn b o e => by have := Bs.IW (e ▸ FI.1) hn; omega⟩, Fx.nil _ _ _⟩
  refine au 7 ?_
  refine ak (dV (s := 2) (j := i) e1 rfl rfl Tn.u Kr rfl Om) ?_
  refine au 1 ?_
  refine ak (ah rfl Tn.u rfl (Vq _ (E.tr X.e) 1 _ rfl)) ?_
  refine au 3 ?_
  refine et (fun L VI => ∃ (y : Hd), L = [(0, .slice A n c), (1, .int .i64 z), (7, .slice A7 i c7), (8, .slice A8 i c8), (9, .int .i64 (i : Int)), (11, .pointer (some ⟨Vo, 0, none⟩)), (13, .pointer (some ⟨g13, 0, none⟩))] ∧ (GB Vr wr.heap.size g13 p0 p1 p2 (j8 p).leaf.src p4 p5 pg hi y (Fq p) (Ip p) VI)) ?_ ?_
  ·skip
   refine al rfl (fun Wz => ?_) (fun Wz => ?_)
   ·refine au 3 ?_
    refine ak (dV (s := 2) (j := i) e1 rfl rfl Tn.u Kr rfl Om) ?_
    refine au 1 ?_
    refine ak (ah rfl Tn.u rfl (Vq _ (E.tr X.e) 1 _ rfl)) ?_
    refine aU ?_
    have W4 := X.b.lt; have WA := Z.size
    refine aL func28 rfl (jN p.2 Om _) ?_
    rintro e _ ⟨Wf, rfl, WB, _, ex⟩
    replace X := X.ext ex
    refine au 2 ?_
    refine af (az (i := 8) rfl rfl rfl Kr X.b Nb) rfl ?_
    rintro _ _ ⟨rfl, VA, cg⟩
    have X := X.put (hi' := hi) (y' := ⟨some ⟨Wf, 0, none⟩, 32, 32⟩) (way' := Ip p) cg Vy (VA.congr rfl) (X.fi.aw cg) (by unfold Ip; rw [if_pos Om]; exact (Fx.new WB Om Om).aw cg)
    refine aU ?_
    exact bB _ ⟨⟨some ⟨Wf, 0, none⟩, 32, 32⟩, rfl, X⟩ Ls
   ·refine aU ?_
    exact bB _ ⟨aq, rfl, (show Ip p = [] from if_neg Om) ▸ X⟩ Ls
  rintro L VI ⟨y, rfl, X⟩
  refine au 3 ?_
  refine et (fun L VJ => ∃ (qq : Bool), L = [(0, .slice A n c), (1, .int .i64 z), (7, .slice A7 i c7), (8, .slice A8 i c8), (9, .int .i64 (i : Int)), (11, .pointer (some ⟨Vo, 0, none⟩)), (13, .pointer (some ⟨g13, 0, none⟩)), (68, .bool qq)] ∧ (qq = decide ((i : Int) = z ∧ p.2 = 9) ∧ GB Vr wr.heap.size g13 p0 p1 p2 (j8 p).leaf.src p4 p5 pg hi y (Fq p) (Ip p) VJ)) ?_ ?_
  ·refine au 3 ?_
   refine bH (cA rfl rfl) rfl (fun u0 => ?_) (fun u0 => ?_)
   ·refine au 3 ?_
    refine kH 61 (dV (s := 2) (j := i) e1 rfl rfl Tn.u Kr rfl Om) ?_
    refine au 1 ?_
    refine kH 61 (ah rfl Tn.u rfl (Vq _ (E.tr X.e) 1 _ rfl)) ?_
    refine aG 61 rfl rfl (cA rfl rfl) rfl (fun u1 => ?_) (fun u1 => ?_)
    ·refine aU ?_
     exact bB _ ⟨true, rfl, (decide_eq_true ⟨u0, by omega⟩).symm, X⟩ Ls
    ·refine aU ?_
     exact bB _ ⟨false, rfl, (decide_eq_false (fun h => by have := h.2; omega)).symm, X⟩ Ls
   ·refine aU ?_
    exact bB _ ⟨false, rfl, (decide_eq_false (fun h => u0 h.1)).symm, X⟩ Ls
  rintro L VJ ⟨qq, rfl, Wg, X⟩
  refine au 1 ?_
  refine et (fun L VK => ∃ (y : Hd), L = [(0, .slice A n c), (1, .int .i64 z), (7, .slice A7 i c7), (8, .slice A8 i c8), (9, .int .i64 (i : Int)), (11, .pointer (some ⟨Vo, 0, none⟩)), (13, .pointer (some ⟨g13, 0, none⟩))] ∧ (GB Vr wr.heap.size g13 p0 p1 p2 (j8 p).leaf.src p4 p5 pg hi y (Fq p) (BF z i p) VK)) ?_ ?_
  ·skip
   refine bW rfl (fun VL => ?_) (fun VL => ?_)
   ·refine aU ?_
    have W5 := X.b.lt; have WD := Z.size
    refine af (aB (z := .int .u8 0) Tn.u Kr rfl rfl rfl rfl rfl) rfl ?_
    rintro _ _ ⟨Wh, rfl, WE, _, ex⟩
    replace X := X.ext ex
    have WH := aZ (xs := [1]) (WE.congr rfl) rfl
    refine au 1 ?_
    refine af (az (i := 8) rfl rfl rfl Kr X.b Nb) rfl ?_
    rintro _ _ ⟨rfl, VA, cg⟩
    rw [Wg] at VL; have X := X.put (hi' := hi) (y' := ⟨some ⟨Wh, 0, none⟩, 1, 1⟩) (way' := BF z i p) cg Vy (VA.congr rfl) (X.fi.aw cg) (by unfold BF; rw [if_pos (of_decide_eq_true VL)]; exact (Fx.new WH Om Om).aw cg)
    refine aU ?_
    exact bB _ ⟨⟨some ⟨Wh, 0, none⟩, 1, 1⟩, rfl, X⟩ Ls
   ·refine aU ?_
    exact bB _ ⟨y, rfl, (show BF z i p = Ip p from if_neg (by rw [Wg] at VL; exact of_decide_eq_false VL)) ▸ X⟩ Ls
  rintro L VK ⟨y, rfl, X⟩
  refine au 3 ?_
  refine et (fun L VM => ∃ (qq : Bool), L = [(0, .slice A n c), (1, .int .i64 z), (7, .slice A7 i c7), (8, .slice A8 i c8), (9, .int .i64 (i : Int)), (11, .pointer (some ⟨Vo, 0, none⟩)), (13, .pointer (some ⟨g13, 0, none⟩)), (81, .bool qq)] ∧ (qq = decide ((i : Int) = z ∧ p.2 = 8) ∧ GB Vr wr.heap.size g13 p0 p1 p2 (j8 p).leaf.src p4 p5 pg hi y (Fq p) (BF z i p) VM)) ?_ ?_
  ·refine au 3 ?_
   refine bH (cA rfl rfl) rfl (fun u2 => ?_) (fun u2 => ?_)
   ·refine au 3 ?_
    refine kH 74 (dV (s := 2) (j := i) e1 rfl rfl Tn.u Kr rfl Om) ?_
    refine au 1 ?_
    refine kH 74 (ah rfl Tn.u rfl (Vq _ (E.tr X.e) 1 _ rfl)) ?_
    refine aG 74 rfl rfl (cA rfl rfl) rfl (fun u3 => ?_) (fun u3 => ?_)
    ·refine aU ?_
     exact bB _ ⟨true, rfl, (decide_eq_true ⟨u2, by omega⟩).symm, X⟩ Ls
    ·refine aU ?_
     exact bB _ ⟨false, rfl, (decide_eq_false (fun h => by have := h.2; omega)).symm, X⟩ Ls
   ·refine aU ?_
    exact bB _ ⟨false, rfl, (decide_eq_false (fun h => u2 h.1)).symm, X⟩ Ls
  rintro L VM ⟨qq, rfl, Wi, X⟩
  refine au 1 ?_
  refine et (fun L VN => ∃ (h5 : Hd), L = [(0, .slice A n c), (1, .int .i64 z), (7, .slice A7 i c7), (8, .slice A8 i c8), (9, .int .i64 (i : Int)), (11, .pointer (some ⟨Vo, 0, none⟩)), (13, .pointer (some ⟨g13, 0, none⟩))] ∧ (GB Vr wr.heap.size g13 p0 p1 p2 (j8 p).leaf.src p4 p5 pg h5 y (Ig z i p) (BF z i p) VN)) ?_ ?_
  ·skip
   refine bW rfl (fun VO => ?_) (fun VO => ?_)
   ·refine au 3 ?_
    refine af (az (i := 0) rfl rfl rfl Kr X.b Nb) rfl ?_
    rintro _ _ ⟨rfl, VA, cg⟩
    rw [Wi] at VO; have X := X.put (hi' := aq) (y' := y) (ini' := Ig z i p) cg Vy (VA.congr rfl) (by unfold Ig; rw [if_pos (of_decide_eq_true VO)]; exact Fx.nil _ _ _) (X.fy.aw cg)
    refine aU ?_
    exact bB _ ⟨aq, rfl, X⟩ Ls
   ·refine aU ?_
    exact bB _ ⟨hi, rfl, (show Ig z i p = Fq p from if_neg (by rw [Wi] at VO; exact of_decide_eq_false VO)) ▸ X⟩ Ls
  rintro L VN ⟨h5, rfl, X⟩
  refine au 3 ?_
  refine et (fun L VP => ∃ (qq : Bool), L = [(0, .slice A n c), (1, .int .i64 z), (7, .slice A7 i c7), (8, .slice A8 i c8), (9, .int .i64 (i : Int)), (11, .pointer (some ⟨Vo, 0, none⟩)), (13, .pointer (some ⟨g13, 0, none⟩)), (94, .bool qq)] ∧ (qq = decide ((i : Int) = z ∧ p.2 = 7) ∧ GB Vr wr.heap.size g13 p0 p1 p2 (j8 p).leaf.src p4 p5 pg h5 y (Ig z i p) (BF z i p) VP)) ?_ ?_
  ·refine au 3 ?_
   refine bH (cA rfl rfl) rfl (fun u4 => ?_) (fun u4 => ?_)
   ·refine au 3 ?_
    refine kH 87 (dV (s := 2) (j := i) e1 rfl rfl Tn.u Kr rfl Om) ?_
    refine au 1 ?_
    refine kH 87 (ah rfl Tn.u rfl (Vq _ (E.tr X.e) 1 _ rfl)) ?_
    refine aG 87 rfl rfl (cA rfl rfl) rfl (fun u5 => ?_) (fun u5 => ?_)
    ·refine aU ?_
     exact bB _ ⟨true, rfl, (decide_eq_true ⟨u4, by omega⟩).symm, X⟩ Ls
    ·refine aU ?_
     exact bB _ ⟨false, rfl, (decide_eq_false (fun h => by have := h.2; omega)).symm, X⟩ Ls
   ·refine aU ?_
    exact bB _ ⟨false, rfl, (decide_eq_false (fun h => u4 h.1)).symm, X⟩ Ls
  rintro L VP ⟨qq, rfl, Wj, X⟩
  refine au 1 ?_
  refine et (fun L VQ => ∃ (h6 : Hd), L = [(0, .slice A n c), (1, .int .i64 z), (7, .slice A7 i c7), (8, .slice A8 i c8), (9, .int .i64 (i : Int)), (11, .pointer (some ⟨Vo, 0, none⟩)), (13, .pointer (some ⟨g13, 0, none⟩))] ∧ (GB Vr wr.heap.size g13 p0 p1 p2 (j8 p).leaf.src p4 p5 pg h6 y (Jq z i p) (BF z i p) VQ)) ?_ ?_
  ·skip
   refine bW rfl (fun VR => ?_) (fun VR => ?_)
   ·refine aU ?_
    have W6 := X.b.lt; have WI := Z.size
    refine af (dn (n := 32) (z := .int .u8 0) (bytes := 1) rfl rfl Tn.u Kr rfl rfl rfl rfl Om Om) rfl ?_
    rintro _ _ ⟨V0, rfl, WO, _, ex⟩
    replace X := X.ext ex
    have WS : Bs _ (some ⟨V0, 0, none⟩) 32 (List.replicate 32 0) := aZ (WO.congr Kr) (by simp)
    refine au 2 ?_
    refine af (az (i := 0) rfl rfl rfl Kr X.b Nb) rfl ?_
    rintro _ _ ⟨rfl, VA, cg⟩
    rw [Wj] at VR; have X := X.put (hi' := ⟨some ⟨V0, 0, none⟩, 32, 32⟩) (y' := y) (ini' := Jq z i p) cg Vy (VA.congr rfl) (by unfold Jq; rw [if_pos (of_decide_eq_true VR)]; exact (Fx.new WS Om Om).aw cg) (X.fy.aw cg)
    refine aU ?_
    exact bB _ ⟨⟨some ⟨V0, 0, none⟩, 32, 32⟩, rfl, X⟩ Ls
   ·refine aU ?_
    exact bB _ ⟨h5, rfl, (show Jq z i p = Ig z i p from if_neg (by rw [Wj] at VR; exact of_decide_eq_false VR)) ▸ X⟩ Ls
  rintro L VQ ⟨h6, rfl, X⟩
  refine au 4 ?_
  refine ak (aV rfl Tn.u rfl Kr X.b) ?_
  refine af (nX (cells := wT h6 p0 p1 p2 (j8 p).leaf.src p4 p5 pg y) Tn.u rfl Kr) rfl ?_
  rintro _ V1 ⟨_, rfl, V2, _, ex⟩
  replace X := X.ext ex
  have EE := Z.tr X.e; have ze := EE.size; have Y7 := X7.ext vH.imp' EE; have Y8 := X8.ext iq.imp EE; have zE := E.size; have zX := X.e.size
  have o7 := fun g hg => X7.2.1.ka (m := i) g hg
  have o8 := fun g hg => X8.2.1.ka (m := i) g hg
  have hlt : ∀ g ∈ (Value.slice A7 i c7).ownBlock.toList ++ (Value.slice A8 i c8).ownBlock.toList, g < wr.heap.size := fun g hg => by
   rcases List.mem_append.1 hg with h | h
   ·exact (o7 g h).2
   ·exact (o8 g h).2
  have hx : vH (Bx ((Value.slice A7 i c7).ownBlock.toList ++ ((Value.slice A8 i c8).ownBlock.toList ++ [])) V1) (wT h6 p0 p1 p2 (j8 p).leaf.src p4 p5 pg y) (Nm z i p) := by
   rw [List.append_nil]
   obtain ⟨t0, _, t1, t2, t3, t4, t5, t6⟩ := (PX.imp fun _ _ b => b.ext X.e).inj
   exact ⟨h6, p0, p1, p2, p4, p5, pg, y, rfl, t0, Bx.of X.fi.1 hlt, t1, t2, t3, t4, t5, t6, Bx.of X.fy.1 hlt⟩
  refine af (oq (A := A7) (n := i) (c := c7) rfl rfl Jp Y7.2.1 V2 rfl (bf rfl) Om Om Om) rfl ?_
  rintro _ VS ⟨B7, d7, rfl, R7, VT, Vz⟩
  have V7 := Y7.app vH.imp' hx rfl R7 VT Vz; have V8 := Y8.other iq.imp VT Vz (fun g h1 h2 => hd g h2 h1); have C7 := aX.BX VT
  have WT : iq (Bx ((Value.slice A8 i c8).ownBlock.toList ++ ((Value.slice B7 (i + 1) d7).ownBlock.toList ++ [])) VS) (dw k0 k1 k2) (keyOf p) := iq.imp _ _ _ _ KX fun _ _ b => ((b.ext X.e).grown VT Vz).re fun g hg => .inl (by simp only [List.mem_append, List.append_nil] at hg ⊢; exact hg.symm)
  have V4 : Ext w VS := Below.grown (E.tr X.e) VT Om (fun k e => by have := (o7 k (by rw [e]; simp)).1; omega)
  have W9 := (Ww.ext X.e).bT C7 (fun hm => by have := (o7 _ hm).2; omega)
  have Wk : ∀ g ∈ (Value.slice B7 (i + 1) d7).ownBlock.toList, g ∉ (Value.slice A8 i c8).ownBlock.toList := fun g h1 h2 => by
   rcases Vz with h | h
   ·exact hd g (by rw [← h]; exact h1) h2
   ·rw [h] at h1; have := (o8 g h2).2; simp at h1; omega
  refine aU ?_
  refine af (nX (cells := dw k0 k1 k2) Tn.u rfl Kr) rfl ?_
  rintro _ _ ⟨_, rfl, V5, _, ex⟩
  have U7 := V7.ext vH.imp' ex; have U8 := V8.ext iq.imp ex; have WU := iq.imp _ _ _ _ WT fun _ _ b => b.ext ex; have VU := V4.tr ex; have WV := ex.size; have u7 := fun g hg => V7.2.1.ka (m := i + 1) g hg
  have zz := VU.size
  refine af (oq (A := A8) (n := i) (c := c8) rfl rfl GX U8.2.1 V5 rfl (bf rfl) Om Om Om) rfl ?_
  rintro _ V6 ⟨B8, d8, rfl, R8, Wa, VE⟩
  have W8 := U8.app iq.imp WU rfl R8 Wa VE; have W7 := U7.other vH.imp' Wa VE Wk
  have Wb : Ext w V6 := Below.grown VU Wa Om (fun k e => by have := (o8 k (by rw [e]; simp)).1; omega)
  have WW : ∀ g ∈ (Value.slice B7 (i + 1) d7).ownBlock.toList, g ∉ (Value.slice B8 (i + 1) d8).ownBlock.toList := fun g h1 h2 => by
   rcases VE with h | h
   ·exact Wk g h1 (by rw [← h]; exact h2)
   ·rw [h] at h2; have := (u7 g h1).2; simp at h2; omega
  have e7 : zL z ps (i + 1) = zL z ps i ++ [Nm z i p] := by unfold zL; rw [List.range_succ, List.map_append, List.map_singleton, hgd]
  have e8 : oI ps (i + 1) = oI ps i ++ [keyOf p] := by unfold oI; rw [List.range_succ, List.map_append, List.map_singleton, hgd]
  rw [← e7] at W7
  rw [← e8] at W8
  refine au 9 ?_
  refine ae ?_
  refine Wl _ _ ⟨i + 1, B7, d7, B8, d8, _, _, rfl, rfl, by omega, Wb, W7, W8, WW⟩ Om Ls
 ·refine aU ?_
  refine hret rfl rfl rfl ?_
  obtain rfl : i = n := by omega
  exact ⟨A7, c7, A8, c8, rfl, X7.MD vH.imp', X8.MD iq.imp, E⟩
end Go.Proofs.YtgfafidlkldeaaaGreat
