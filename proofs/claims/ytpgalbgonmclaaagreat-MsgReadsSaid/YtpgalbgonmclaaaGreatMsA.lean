/- Packages and proposals, plainly and in memory; which may be: what msg and the reference answer. -/
import Derived.Test.YtpgalbgonmclaaaGreatNdL
namespace Go.Proofs.YtpgalbgonmclaaaGreat
open Go.RowKit
attribute [local irreducible] Y Ef WL WC WK WQ WM OpM WN WF OpN
open Nd
structure Pack where
  init : List UInt8
  leaf : Leaf
  sig : List UInt8
structure Prop20 where
  kind : Nat
  pack : Pack
  leaf : Leaf
  at_ : Int
def Pack.zero : Pack := ⟨[], Leaf.zero, []⟩
def Prop20.zero : Prop20 := ⟨0, Pack.zero, Leaf.zero, 0⟩
/-- The eight cells of a package; the sixteen of a proposal. -/
def packV (i h0 h1 h2 : Hd) (s : Nat) (h4 h5 g : Hd) : Array Value := #[.slice i.A i.n i.c, .slice h0.A h0.n h0.c, .slice h1.A h1.n h1.c, .slice h2.A h2.n h2.c, .int .u8 (s : Int), .slice h4.A h4.n h4.c, .slice h5.A h5.n h5.c, .slice g.A g.n g.c]
def propV (k : Nat) (i h0 h1 h2 : Hd) (s : Nat) (h4 h5 g l0 l1 l2 : Hd) (t : Nat) (l4 l5 : Hd) (z : Int) : Array Value := #[.int .u8 (k : Int), .slice i.A i.n i.c, .slice h0.A h0.n h0.c, .slice h1.A h1.n h1.c, .slice h2.A h2.n h2.c, .int .u8 (s : Int), .slice h4.A h4.n h4.c, .slice h5.A h5.n h5.c, .slice g.A g.n g.c, .slice l0.A l0.n l0.c, .slice l1.A l1.n l1.c, .slice l2.A l2.n l2.c, .int .u8 (t : Int), .slice l4.A l4.n l4.c, .slice l5.A l5.n l5.c, .int .i64 z]
def PackC (B : Hd → List UInt8 → Prop) (cs : Array Value) (p : Pack) : Prop :=
  ∃ i h0 h1 h2 h4 h5 g, cs = packV i h0 h1 h2 p.leaf.src h4 h5 g ∧ p.leaf.src < 256 ∧ B i p.init ∧ B h0 p.leaf.box ∧ B h1 p.leaf.sign ∧ B h2 p.leaf.ident ∧ B h4 p.leaf.parent ∧ B h5 p.leaf.sig ∧ B g p.sig
def PropC (B : Hd → List UInt8 → Prop) (cs : Array Value) (p : Prop20) : Prop :=
  ∃ i h0 h1 h2 h4 h5 g l0 l1 l2 l4 l5, cs = propV p.kind i h0 h1 h2 p.pack.leaf.src h4 h5 g l0 l1 l2 p.leaf.src l4 l5 p.at_ ∧ p.kind < 256 ∧ p.pack.leaf.src < 256 ∧ p.leaf.src < 256 ∧ (-9223372036854775808 ≤ p.at_ ∧ p.at_ ≤ 9223372036854775807) ∧ B i p.pack.init ∧ B h0 p.pack.leaf.box ∧ B h1 p.pack.leaf.sign ∧ B h2 p.pack.leaf.ident ∧ B h4 p.pack.leaf.parent ∧ B h5 p.pack.leaf.sig ∧ B g p.pack.sig ∧ B l0 p.leaf.box ∧ B l1 p.leaf.sign ∧ B l2 p.leaf.ident ∧ B l4 p.leaf.parent ∧ B l5 p.leaf.sig
section
variable {B B' : Hd → List UInt8 → Prop} {cs : Array Value} {p : Pack} {q : Prop20}
theorem PackC.imp (h : PackC B cs p) (f : ∀ h xs, B h xs → B' h xs) : PackC B' cs p := by
  obtain ⟨i, h0, h1, h2, h4, h5, g, e, hs, a, b0, b1, b2, b4, b5, c⟩ := h
  exact ⟨i, h0, h1, h2, h4, h5, g, e, hs, f _ _ a, f _ _ b0, f _ _ b1, f _ _ b2, f _ _ b4, f _ _ b5, f _ _ c⟩
theorem PropC.imp (h : PropC B cs q) (f : ∀ h xs, B h xs → B' h xs) : PropC B' cs q := by
  obtain ⟨i, h0, h1, h2, h4, h5, g, l0, l1, l2, l4, l5, e, hk, hs, ht, hz, a, b0, b1, b2, b4, b5, c, d0, d1, d2, d4, d5⟩ := h
  exact ⟨i, h0, h1, h2, h4, h5, g, l0, l1, l2, l4, l5, e, hk, hs, ht, hz, f _ _ a, f _ _ b0, f _ _ b1, f _ _ b2, f _ _ b4, f _ _ b5, f _ _ c, f _ _ d0, f _ _ d1, f _ _ d2, f _ _ d4, f _ _ d5⟩
theorem PackC.leaf (h : PackC B cs p) : LeafC B ((cs.toList.drop 1).take 6).toArray p.leaf := by
  obtain ⟨i, h0, h1, h2, h4, h5, g, rfl, hs, a, b0, b1, b2, b4, b5, c⟩ := h
  exact ⟨h0, h1, h2, h4, h5, rfl, hs, b0, b1, b2, b4, b5⟩
theorem PropC.pack (h : PropC B cs q) : PackC B ((cs.toList.drop 1).take 8).toArray q.pack := by
  obtain ⟨i, h0, h1, h2, h4, h5, g, l0, l1, l2, l4, l5, rfl, hk, hs, ht, hz, a, b0, b1, b2, b4, b5, c, d0, d1, d2, d4, d5⟩ := h
  exact ⟨i, h0, h1, h2, h4, h5, g, rfl, hs, a, b0, b1, b2, b4, b5, c⟩
theorem PropC.leaf (h : PropC B cs q) : LeafC B ((cs.toList.drop 9).take 6).toArray q.leaf := by
  obtain ⟨i, h0, h1, h2, h4, h5, g, l0, l1, l2, l4, l5, rfl, hk, hs, ht, hz, a, b0, b1, b2, b4, b5, c, d0, d1, d2, d4, d5⟩ := h
  exact ⟨l0, l1, l2, l4, l5, rfl, ht, d0, d1, d2, d4, d5⟩
end
def PackAt (w : World) (cs : Array Value) (p : Pack) : Prop := PackC (BsH w) cs p
def PropAt (w : World) (cs : Array Value) (p : Prop20) : Prop := PropC (BsH w) cs p
section
variable {w w' : World} {cs : Array Value} {p : Pack} {q : Prop20}
theorem PackAt.ext (h : PackAt w cs p) (e : Ext w w') : PackAt w' cs p := PackC.imp h fun _ _ b => Bs.ext b e
theorem PropAt.ext (h : PropAt w cs q) (e : Ext w w') : PropAt w' cs q := PropC.imp h fun _ _ b => Bs.ext b e
theorem PackAt.leaf (h : PackAt w cs p) : LeafAt w ((cs.toList.drop 1).take 6).toArray p.leaf := PackC.leaf h
theorem PropAt.pack (h : PropAt w cs q) : PackAt w ((cs.toList.drop 1).take 8).toArray q.pack := PropC.pack h
theorem PropAt.leaf (h : PropAt w cs q) : LeafAt w ((cs.toList.drop 9).take 6).toArray q.leaf := PropC.leaf h
end
def Pack.Fit (p : Pack) : Prop := p.init.length ≤ 1000000 ∧ p.leaf.Fit ∧ p.sig.length ≤ 1000000
def Prop20.Fit (p : Prop20) : Prop := p.pack.Fit ∧ p.leaf.Fit
/-! Which may be. -/
def okLeafS (l : Leaf) (s : Nat) : Prop := okLeaf l ∧ l.src = s
instance (l : Leaf) (s : Nat) : Decidable (okLeafS l s) := by unfold okLeafS; infer_instance
def okPack (p : Pack) : Prop := p.init.length = 32 ∧ okLeafS p.leaf 1 ∧ p.sig.length = 64
instance (p : Pack) : Decidable (okPack p) := by unfold okPack; infer_instance
def noPack (p : Pack) : Prop := p.init.length = 0 ∧ p.leaf = Leaf.zero ∧ p.sig.length = 0
instance (p : Pack) : Decidable (noPack p) := by unfold noPack; infer_instance
def okProp (p : Prop20) : Prop := p.kind = 1 ∧ okPack p.pack ∧ p.leaf = Leaf.zero ∧ p.at_ = 0 ∨ p.kind = 2 ∧ noPack p.pack ∧ okLeafS p.leaf 2 ∧ p.at_ = 0 ∨ p.kind = 3 ∧ noPack p.pack ∧ p.leaf = Leaf.zero ∧ 0 ≤ p.at_ ∧ p.at_ ≤ 65535
instance (p : Prop20) : Decidable (okProp p) := by unfold okProp; infer_instance
def noProp (p : Prop20) : Prop := p.kind = 0 ∧ noPack p.pack ∧ p.leaf = Leaf.zero ∧ p.at_ = 0
instance (p : Prop20) : Decidable (noProp p) := by unfold noProp; infer_instance
theorem leafE_code {l : Leaf} : (leafE l).2 = 0 ↔ okLeaf l := by
  unfold leafE
  split
  · rename_i h; exact ⟨fun _ => h, fun _ => rfl⟩
  · rename_i h; exact ⟨fun e => by simp at e, fun k => absurd k h⟩
section
variable {cs : Array Value} {l : Leaf} {p : Pack} {q : Prop20} {s : Nat}
theorem rightLeaf20_any (w : World) (H : LeafAt w cs l) (hf : l.Fit) :
    Calls Tryz.prog 82 #[.agg cs, .int .u8 (s : Int)] w fun e w' => e = .returned (.bool (decide (okLeafS l s))) ∧ Ext w w' := by
  have HL := H
  have hc := leafE_code (l := l)
  obtain ⟨h0, h1, h2, h4, h5, rfl, hs, b0, b1, b2, b4, b5⟩ := H
  have E := Ext.refl w
  refine vc_enter1 20 Tryz.func82 rfl rfl rfl rfl ?_
  intro Q hret
  refine wc_seq ?_; intro K1 hK1
  refine wc_region ?_
  refine wl_ef (ef_box rfl rfl) rfl ?_
  rintro _ wB2 ⟨gB2, rfl, B2, hgB2, ex⟩
  have lB2 := B2.lt; have zB2 := ex.size
  replace E := E.ext ex
  refine wl_y (y_assign rfl) rfl ?_
  refine wl_nil ?_
  refine wq_then_norm (hK1 ?_)
  refine wc_seq ?_; intro K2 hK2
  refine wc_region ?_
  refine wl_y (y_loadx (o := 0) (s := 6) rfl Tryz.underlying25 rfl (by kernel_rfl) B2 rfl) rfl ?_
  refine wl_call Tryz.func117 rfl rfl rfl (LeafBytes_any _ (HL.ext E) hf) rfl ?_
  rintro e w2 ⟨A2, k2, c2, rfl, R2, ex⟩
  refine ⟨_, rfl, ?_⟩
  replace E := E.ext ex
  replace B2 := B2.ext ex
  skip
  refine wl_y (y_move rfl) rfl ?_
  refine wl_y (y_extract rfl rfl) rfl ?_
  refine wl_y (y_extract rfl rfl) rfl ?_
  refine wl_y (y_assign rfl) rfl ?_
  refine wl_y (y_assign rfl) rfl ?_
  refine wl_nil ?_
  refine wq_then_norm (hK2 ?_)
  refine wc_seq ?_; intro K3 hK3
  refine wc_region ?_
  refine wl_y (y_move rfl) rfl ?_
  refine wl_y (y_eql rfl rfl) rfl ?_
  refine wl_yask (y_move rfl) rfl (fun q0 => ?_) (fun q0 => ?_)
  · skip
    refine wl_gy 14 rfl rfl (y_fieldAddr (o := 3) (s := 1) (off := 0) (o' := 3) rfl Tryz.underlying25 rfl (by kernel_rfl) rfl rfl) rfl ?_
    refine wl_gy 14 rfl rfl (y_load1 rfl Tryz.underlying5 rfl (B2.get (i := 3) rfl)) rfl ?_
    refine wl_gy 14 rfl rfl (y_move rfl) rfl ?_
    refine wl_gy 14 rfl rfl (y_eql rfl rfl) rfl ?_
    refine wl_y (y_pickt rfl rfl) rfl ?_
    refine wl_y (y_assign rfl) rfl ?_
    refine wl_nil ?_
    refine wq_then_norm (hK3 ?_)
    refine wc_ret ?_
    refine hret rfl ?_
    exact ⟨by rw [decide_eq_decide.2 (show (l.src : Int) = (s : Int) ↔ okLeafS l s from ⟨fun h => ⟨hc.1 (by omega), by omega⟩, fun h => by rw [h.2]⟩)], E⟩
  · skip
    refine wl_gno 14 rfl rfl rfl rfl ?_
    refine wl_gno 14 rfl rfl rfl rfl ?_
    refine wl_gno 14 rfl rfl rfl rfl ?_
    refine wl_gno 14 rfl rfl rfl rfl ?_
    refine wl_y (y_pickf rfl rfl) rfl ?_
    refine wl_y (y_assign rfl) rfl ?_
    refine wl_nil ?_
    refine wq_then_norm (hK3 ?_)
    refine wc_ret ?_
    refine hret rfl ?_
    exact ⟨ret_no fun h => q0 (by rw [hc.2 h.1]; rfl), E⟩
theorem noLeaf20_any (w : World) (H : LeafAt w cs l) (hf : l.Fit) :
    Calls Tryz.prog 84 #[.agg cs] w fun e w' => e = .returned (.bool (decide (l = Leaf.zero))) ∧ Ext w w' := by
  obtain ⟨h0, h1, h2, h4, h5, rfl, hs, b0, b1, b2, b4, b5⟩ := H
  have XL : NodeAt w (nodeV 0 h0 h1 h2 l.src h4 h5 nilH nilH nilH) ⟨0, l, Par.zero⟩ := ⟨h0, h1, h2, h4, h5, nilH, nilH, nilH, rfl, (show 0 < 256 by omega), hs, b0, b1, b2, b4, b5, Bs.nil w none, Bs.nil w none, Zs.nil w none⟩
  have E := Ext.refl w
  refine vc_enter1 7 Tryz.func84 rfl rfl rfl rfl ?_
  intro Q hret
  refine wc_seq ?_; intro K1 hK1
  refine wc_region ?_
  refine wl_ef (ef_box rfl rfl) rfl ?_
  rintro _ wB1 ⟨gB1, rfl, B1, hgB1, ex⟩
  have lB1 := B1.lt; have zB1 := ex.size
  replace E := E.ext ex
  refine wl_y (y_assign rfl) rfl ?_
  refine wl_nil ?_
  refine wq_then_norm (hK1 ?_)
  refine wc_seq ?_; intro K2 hK2
  refine wc_region ?_
  refine wl_y (y_loadx (o := 0) (s := 6) rfl Tryz.underlying25 rfl (by kernel_rfl) B1 rfl) rfl ?_
  refine wl_y (y_build rfl (cells := nodeV 0 h0 h1 h2 l.src h4 h5 nilH nilH nilH) (by kernel_rfl)) rfl ?_
  refine wl_y (y_build rfl (cells := zNodeV) (by kernel_rfl)) rfl ?_
  refine wl_call Tryz.func119 rfl rfl rfl (nsame_any _ (XL.ext E) (nodeAt_zero _) ⟨hf, fit_par0⟩ ⟨fit_zero, fit_par0⟩) rfl ?_
  rintro e w2 ⟨rfl, ex⟩
  refine ⟨_, rfl, ?_⟩
  replace E := E.ext ex
  replace B1 := B1.ext ex
  skip
  refine wl_y (y_assign rfl) rfl ?_
  refine wl_nil ?_
  refine wq_then_norm (hK2 ?_)
  refine wc_ret ?_
  refine hret rfl ?_
  exact ⟨by rw [decide_eq_decide.2 leafN_zero], E⟩
theorem rLeaf20_any (w : World) (H : LeafAt w cs l) :
    Calls Tryz.prog 97 #[.agg cs, .int .u8 (s : Int)] w fun e w' => e = .returned (.bool (decide (okLeafS l s))) ∧ Ext w w' := by
  have HL := H
  obtain ⟨h0, h1, h2, h4, h5, rfl, hs, b0, b1, b2, b4, b5⟩ := H
  have E := Ext.refl w
  refine vc_enter1 13 Tryz.func97 rfl rfl rfl rfl ?_
  intro Q hret
  refine wc_seq ?_; intro K1 hK1
  refine wc_region ?_
  refine wl_ef (ef_box rfl rfl) rfl ?_
  rintro _ wB2 ⟨gB2, rfl, B2, hgB2, ex⟩
  have lB2 := B2.lt; have zB2 := ex.size
  replace E := E.ext ex
  refine wl_y (y_assign rfl) rfl ?_
  refine wl_nil ?_
  refine wq_then_norm (hK1 ?_)
  refine wc_seq ?_; intro K2 hK2
  refine wc_region ?_
  refine wl_y (y_loadx (o := 0) (s := 6) rfl Tryz.underlying25 rfl (by kernel_rfl) B2 rfl) rfl ?_
  refine wl_call Tryz.func128 rfl rfl rfl (rrightLeaf_any _ (HL.ext E)) rfl ?_
  rintro e w2 ⟨rfl, ex⟩
  refine ⟨_, rfl, ?_⟩
  replace E := E.ext ex
  replace B2 := B2.ext ex
  skip
  refine wl_yask (y_move rfl) rfl (fun q0 => ?_) (fun q0 => ?_)
  · skip
    refine wl_gy 7 rfl rfl (y_fieldAddr (o := 3) (s := 1) (off := 0) (o' := 3) rfl Tryz.underlying25 rfl (by kernel_rfl) rfl rfl) rfl ?_
    refine wl_gy 7 rfl rfl (y_load1 rfl Tryz.underlying5 rfl (B2.get (i := 3) rfl)) rfl ?_
    refine wl_gy 7 rfl rfl (y_move rfl) rfl ?_
    refine wl_gy 7 rfl rfl (y_eql rfl rfl) rfl ?_
    refine wl_y (y_pickt rfl rfl) rfl ?_
    refine wl_y (y_assign rfl) rfl ?_
    refine wl_nil ?_
    refine wq_then_norm (hK2 ?_)
    refine wc_ret ?_
    refine hret rfl ?_
    exact ⟨by rw [decide_eq_decide.2 (show (l.src : Int) = (s : Int) ↔ okLeafS l s from ⟨fun h => ⟨q0, by omega⟩, fun h => by rw [h.2]⟩)], E⟩
  · skip
    refine wl_gno 7 rfl rfl rfl rfl ?_
    refine wl_gno 7 rfl rfl rfl rfl ?_
    refine wl_gno 7 rfl rfl rfl rfl ?_
    refine wl_gno 7 rfl rfl rfl rfl ?_
    refine wl_y (y_pickf rfl rfl) rfl ?_
    refine wl_y (y_assign rfl) rfl ?_
    refine wl_nil ?_
    refine wq_then_norm (hK2 ?_)
    refine wc_ret ?_
    refine hret rfl ?_
    exact ⟨ret_no fun h => q0 h.1, E⟩
theorem rNoLeaf20_any (w : World) (H : LeafAt w cs l) (hf : l.Fit) :
    Calls Tryz.prog 99 #[.agg cs] w fun e w' => e = .returned (.bool (decide (l = Leaf.zero))) ∧ Ext w w' := by
  have HL := H
  obtain ⟨h0, h1, h2, h4, h5, rfl, hs, b0, b1, b2, b4, b5⟩ := H
  have E := Ext.refl w
  refine vc_enter1 6 Tryz.func99 rfl rfl rfl rfl ?_
  intro Q hret
  refine wc_seq ?_; intro K1 hK1
  refine wc_region ?_
  refine wl_ef (ef_box rfl rfl) rfl ?_
  rintro _ wB1 ⟨gB1, rfl, B1, hgB1, ex⟩
  have lB1 := B1.lt; have zB1 := ex.size
  replace E := E.ext ex
  refine wl_y (y_assign rfl) rfl ?_
  refine wl_nil ?_
  refine wq_then_norm (hK1 ?_)
  refine wc_seq ?_; intro K2 hK2
  refine wc_region ?_
  refine wl_y (y_loadx (o := 0) (s := 6) rfl Tryz.underlying25 rfl (by kernel_rfl) B1 rfl) rfl ?_
  refine wl_y (y_build rfl (cells := zLeafV) (by kernel_rfl)) rfl ?_
  refine wl_call Tryz.func49 rfl rfl rfl (rsameLeaf_any _ (HL.ext E) (LeafF.zero 0 _).at hf fit_zero) rfl ?_
  rintro e w2 ⟨rfl, ex⟩
  refine ⟨_, rfl, ?_⟩
  replace E := E.ext ex
  replace B1 := B1.ext ex
  skip
  refine wl_y (y_assign rfl) rfl ?_
  refine wl_nil ?_
  refine wq_then_norm (hK2 ?_)
  refine wc_ret ?_
  refine hret rfl ?_
  exact ⟨rfl, E⟩
theorem rightPack_any (w : World) (H : PackAt w cs p) (hf : p.Fit) :
    Calls Tryz.prog 33 #[.agg cs] w fun e w' => e = .returned (.bool (decide (okPack p))) ∧ Ext w w' := by
  have HL := H.leaf
  obtain ⟨i, h0, h1, h2, h4, h5, g, rfl, hs, a, b0, b1, b2, b4, b5, c⟩ := H
  have la := a.1; have lc := c.1
  have E := Ext.refl w
  refine vc_enter1 18 Tryz.func33 rfl rfl rfl rfl ?_
  intro Q hret
  refine wc_seq ?_; intro K1 hK1
  refine wc_region ?_
  refine wl_ef (ef_box rfl rfl) rfl ?_
  rintro _ wB1 ⟨gB1, rfl, B1, hgB1, ex⟩
  have lB1 := B1.lt; have zB1 := ex.size
  replace E := E.ext ex
  refine wl_y (y_assign rfl) rfl ?_
  refine wl_nil ?_
  refine wq_then_norm (hK1 ?_)
  refine wc_seq ?_; intro K2 hK2
  refine wc_region ?_
  refine wl_y (y_fieldAddr (o := 0) (s := 1) (off := 0) (o' := 0) rfl Tryz.underlying27 rfl (by kernel_rfl) rfl rfl) rfl ?_
  refine wl_y (y_load1 rfl Tryz.underlying22 rfl (B1.get (i := 0) rfl)) rfl ?_
  refine wl_y (y_len_slice rfl Tryz.underlying22) rfl ?_
  refine wl_y (y_eql rfl rfl) rfl ?_
  refine wl_yask (y_move rfl) rfl (fun q0 => ?_) (fun q0 => ?_)
  · skip
    refine wl_gy 7 rfl rfl (y_fieldAddr (o := 1) (s := 6) (off := 0) (o' := 1) rfl Tryz.underlying27 rfl (by kernel_rfl) rfl rfl) rfl ?_
    refine wl_gy 7 rfl rfl (y_loadx (o := 1) (s := 6) rfl Tryz.underlying25 rfl (by kernel_rfl) B1 rfl) rfl ?_
    refine wl_gcall 7 rfl rfl Tryz.func82 rfl rfl rfl (rightLeaf20_any (s := 1) _ (HL.ext E) hf.2.1) rfl ?_
    rintro e w2 ⟨rfl, ex⟩
    refine ⟨_, rfl, ?_⟩
    replace E := E.ext ex
    replace B1 := B1.ext ex
    skip
    refine wl_y (y_pickt rfl rfl) rfl ?_
    refine wl_yask (y_move rfl) rfl (fun q1 => ?_) (fun q1 => ?_)
    · skip
      refine wl_gy 12 rfl rfl (y_fieldAddr (o := 7) (s := 1) (off := 0) (o' := 7) rfl Tryz.underlying27 rfl (by kernel_rfl) rfl rfl) rfl ?_
      refine wl_gy 12 rfl rfl (y_load1 rfl Tryz.underlying22 rfl (B1.get (i := 7) rfl)) rfl ?_
      refine wl_gy 12 rfl rfl (y_len_slice rfl Tryz.underlying22) rfl ?_
      refine wl_gy 12 rfl rfl (y_eql rfl rfl) rfl ?_
      refine wl_y (y_pickt rfl rfl) rfl ?_
      refine wl_y (y_assign rfl) rfl ?_
      refine wl_nil ?_
      refine wq_then_norm (hK2 ?_)
      refine wc_ret ?_
      refine hret rfl ?_
      exact ⟨ret_bool ⟨fun h => ⟨by omega, q1, by omega⟩, fun h => by have := h.2.2; omega⟩, E⟩
    · skip
      refine wl_gno 12 rfl rfl rfl rfl ?_
      refine wl_gno 12 rfl rfl rfl rfl ?_
      refine wl_gno 12 rfl rfl rfl rfl ?_
      refine wl_gno 12 rfl rfl rfl rfl ?_
      refine wl_y (y_pickf rfl rfl) rfl ?_
      refine wl_y (y_assign rfl) rfl ?_
      refine wl_nil ?_
      refine wq_then_norm (hK2 ?_)
      refine wc_ret ?_
      refine hret rfl ?_
      exact ⟨ret_no fun h => q1 h.2.1, E⟩
  · skip
    refine wl_gno 7 rfl rfl rfl rfl ?_
    refine wl_gno 7 rfl rfl rfl rfl ?_
    refine wl_gno 7 rfl rfl rfl rfl ?_
    refine wl_y (y_pickf rfl rfl) rfl ?_
    refine wl_y (y_move rfl) rfl ?_
    refine wl_gno 12 rfl rfl rfl rfl ?_
    refine wl_gno 12 rfl rfl rfl rfl ?_
    refine wl_gno 12 rfl rfl rfl rfl ?_
    refine wl_gno 12 rfl rfl rfl rfl ?_
    refine wl_y (y_pickf rfl rfl) rfl ?_
    refine wl_y (y_assign rfl) rfl ?_
    refine wl_nil ?_
    refine wq_then_norm (hK2 ?_)
    refine wc_ret ?_
    refine hret rfl ?_
    exact ⟨ret_no fun h => q0 (by rw [← la, h.1]; rfl), E⟩
theorem noPack_any (w : World) (H : PackAt w cs p) (hf : p.Fit) :
    Calls Tryz.prog 85 #[.agg cs] w fun e w' => e = .returned (.bool (decide (noPack p))) ∧ Ext w w' := by
  have HL := H.leaf
  obtain ⟨i, h0, h1, h2, h4, h5, g, rfl, hs, a, b0, b1, b2, b4, b5, c⟩ := H
  have la := a.1; have lc := c.1
  have f0 := hf.1; have f2 := hf.2.2
  have E := Ext.refl w
  refine vc_enter1 16 Tryz.func85 rfl rfl rfl rfl ?_
  intro Q hret
  refine wc_seq ?_; intro K1 hK1
  refine wc_region ?_
  refine wl_ef (ef_box rfl rfl) rfl ?_
  rintro _ wB1 ⟨gB1, rfl, B1, hgB1, ex⟩
  have lB1 := B1.lt; have zB1 := ex.size
  replace E := E.ext ex
  refine wl_y (y_assign rfl) rfl ?_
  refine wl_nil ?_
  refine wq_then_norm (hK1 ?_)
  refine wc_seq ?_; intro K2 hK2
  refine wc_region ?_
  refine wl_y (y_fieldAddr (o := 0) (s := 1) (off := 0) (o' := 0) rfl Tryz.underlying27 rfl (by kernel_rfl) rfl rfl) rfl ?_
  refine wl_y (y_load1 rfl Tryz.underlying22 rfl (B1.get (i := 0) rfl)) rfl ?_
  refine wl_y (y_len_slice rfl Tryz.underlying22) rfl ?_
  refine wl_y (y_fieldAddr (o := 7) (s := 1) (off := 0) (o' := 7) rfl Tryz.underlying27 rfl (by kernel_rfl) rfl rfl) rfl ?_
  refine wl_y (y_load1 rfl Tryz.underlying22 rfl (B1.get (i := 7) rfl)) rfl ?_
  refine wl_y (y_len_slice rfl Tryz.underlying22) rfl ?_
  refine wl_y (y_add rfl rfl (i64_ok (by omega) (by omega))) rfl ?_
  refine wl_y (y_eql rfl rfl) rfl ?_
  refine wl_yask (y_move rfl) rfl (fun q0 => ?_) (fun q0 => ?_)
  · skip
    refine wl_gy 11 rfl rfl (y_fieldAddr (o := 1) (s := 6) (off := 0) (o' := 1) rfl Tryz.underlying27 rfl (by kernel_rfl) rfl rfl) rfl ?_
    refine wl_gy 11 rfl rfl (y_loadx (o := 1) (s := 6) rfl Tryz.underlying25 rfl (by kernel_rfl) B1 rfl) rfl ?_
    refine wl_gcall 11 rfl rfl Tryz.func84 rfl rfl rfl (noLeaf20_any _ (HL.ext E) hf.2.1) rfl ?_
    rintro e w2 ⟨rfl, ex⟩
    refine ⟨_, rfl, ?_⟩
    replace E := E.ext ex
    replace B1 := B1.ext ex
    skip
    refine wl_y (y_pickt rfl rfl) rfl ?_
    refine wl_y (y_assign rfl) rfl ?_
    refine wl_nil ?_
    refine wq_then_norm (hK2 ?_)
    refine wc_ret ?_
    refine hret rfl ?_
    exact ⟨ret_bool ⟨fun h => ⟨by omega, h, by omega⟩, fun h => h.2.1⟩, E⟩
  · skip
    refine wl_gno 11 rfl rfl rfl rfl ?_
    refine wl_gno 11 rfl rfl rfl rfl ?_
    refine wl_gno 11 rfl rfl rfl rfl ?_
    refine wl_y (y_pickf rfl rfl) rfl ?_
    refine wl_y (y_assign rfl) rfl ?_
    refine wl_nil ?_
    refine wq_then_norm (hK2 ?_)
    refine wc_ret ?_
    refine hret rfl ?_
    exact ⟨ret_no fun h => q0 (by have := h.1; have := h.2.2; omega), E⟩
theorem rPack_any (w : World) (H : PackAt w cs p) :
    Calls Tryz.prog 44 #[.agg cs] w fun e w' => e = .returned (.bool (decide (okPack p))) ∧ Ext w w' := by
  have HL := H.leaf
  obtain ⟨i, h0, h1, h2, h4, h5, g, rfl, hs, a, b0, b1, b2, b4, b5, c⟩ := H
  have la := a.1; have lc := c.1
  have E := Ext.refl w
  refine vc_enter1 18 Tryz.func44 rfl rfl rfl rfl ?_
  intro Q hret
  refine wc_seq ?_; intro K1 hK1
  refine wc_region ?_
  refine wl_ef (ef_box rfl rfl) rfl ?_
  rintro _ wB1 ⟨gB1, rfl, B1, hgB1, ex⟩
  have lB1 := B1.lt; have zB1 := ex.size
  replace E := E.ext ex
  refine wl_y (y_assign rfl) rfl ?_
  refine wl_nil ?_
  refine wq_then_norm (hK1 ?_)
  refine wc_seq ?_; intro K2 hK2
  refine wc_region ?_
  refine wl_y (y_fieldAddr (o := 0) (s := 1) (off := 0) (o' := 0) rfl Tryz.underlying27 rfl (by kernel_rfl) rfl rfl) rfl ?_
  refine wl_y (y_load1 rfl Tryz.underlying22 rfl (B1.get (i := 0) rfl)) rfl ?_
  refine wl_y (y_len_slice rfl Tryz.underlying22) rfl ?_
  refine wl_y (y_eql rfl rfl) rfl ?_
  refine wl_yask (y_move rfl) rfl (fun q0 => ?_) (fun q0 => ?_)
  · skip
    refine wl_gy 7 rfl rfl (y_fieldAddr (o := 1) (s := 6) (off := 0) (o' := 1) rfl Tryz.underlying27 rfl (by kernel_rfl) rfl rfl) rfl ?_
    refine wl_gy 7 rfl rfl (y_loadx (o := 1) (s := 6) rfl Tryz.underlying25 rfl (by kernel_rfl) B1 rfl) rfl ?_
    refine wl_gcall 7 rfl rfl Tryz.func97 rfl rfl rfl (rLeaf20_any (s := 1) _ (HL.ext E)) rfl ?_
    rintro e w2 ⟨rfl, ex⟩
    refine ⟨_, rfl, ?_⟩
    replace E := E.ext ex
    replace B1 := B1.ext ex
    skip
    refine wl_y (y_pickt rfl rfl) rfl ?_
    refine wl_yask (y_move rfl) rfl (fun q1 => ?_) (fun q1 => ?_)
    · skip
      refine wl_gy 12 rfl rfl (y_fieldAddr (o := 7) (s := 1) (off := 0) (o' := 7) rfl Tryz.underlying27 rfl (by kernel_rfl) rfl rfl) rfl ?_
      refine wl_gy 12 rfl rfl (y_load1 rfl Tryz.underlying22 rfl (B1.get (i := 7) rfl)) rfl ?_
      refine wl_gy 12 rfl rfl (y_len_slice rfl Tryz.underlying22) rfl ?_
      refine wl_gy 12 rfl rfl (y_eql rfl rfl) rfl ?_
      refine wl_y (y_pickt rfl rfl) rfl ?_
      refine wl_y (y_assign rfl) rfl ?_
      refine wl_nil ?_
      refine wq_then_norm (hK2 ?_)
      refine wc_ret ?_
      refine hret rfl ?_
      exact ⟨ret_bool ⟨fun h => ⟨by omega, q1, by omega⟩, fun h => by have := h.2.2; omega⟩, E⟩
    · skip
      refine wl_gno 12 rfl rfl rfl rfl ?_
      refine wl_gno 12 rfl rfl rfl rfl ?_
      refine wl_gno 12 rfl rfl rfl rfl ?_
      refine wl_gno 12 rfl rfl rfl rfl ?_
      refine wl_y (y_pickf rfl rfl) rfl ?_
      refine wl_y (y_assign rfl) rfl ?_
      refine wl_nil ?_
      refine wq_then_norm (hK2 ?_)
      refine wc_ret ?_
      refine hret rfl ?_
      exact ⟨ret_no fun h => q1 h.2.1, E⟩
  · skip
    refine wl_gno 7 rfl rfl rfl rfl ?_
    refine wl_gno 7 rfl rfl rfl rfl ?_
    refine wl_gno 7 rfl rfl rfl rfl ?_
    refine wl_y (y_pickf rfl rfl) rfl ?_
    refine wl_y (y_move rfl) rfl ?_
    refine wl_gno 12 rfl rfl rfl rfl ?_
    refine wl_gno 12 rfl rfl rfl rfl ?_
    refine wl_gno 12 rfl rfl rfl rfl ?_
    refine wl_gno 12 rfl rfl rfl rfl ?_
    refine wl_y (y_pickf rfl rfl) rfl ?_
    refine wl_y (y_assign rfl) rfl ?_
    refine wl_nil ?_
    refine wq_then_norm (hK2 ?_)
    refine wc_ret ?_
    refine hret rfl ?_
    exact ⟨ret_no fun h => q0 (by rw [← la, h.1]; rfl), E⟩
theorem rNoPack_any (w : World) (H : PackAt w cs p) (hf : p.Fit) :
    Calls Tryz.prog 98 #[.agg cs] w fun e w' => e = .returned (.bool (decide (noPack p))) ∧ Ext w w' := by
  have HL := H.leaf
  obtain ⟨i, h0, h1, h2, h4, h5, g, rfl, hs, a, b0, b1, b2, b4, b5, c⟩ := H
  have la := a.1; have lc := c.1
  have E := Ext.refl w
  refine vc_enter1 18 Tryz.func98 rfl rfl rfl rfl ?_
  intro Q hret
  refine wc_seq ?_; intro K1 hK1
  refine wc_region ?_
  refine wl_ef (ef_box rfl rfl) rfl ?_
  rintro _ wB1 ⟨gB1, rfl, B1, hgB1, ex⟩
  have lB1 := B1.lt; have zB1 := ex.size
  replace E := E.ext ex
  refine wl_y (y_assign rfl) rfl ?_
  refine wl_nil ?_
  refine wq_then_norm (hK1 ?_)
  refine wc_seq ?_; intro K2 hK2
  refine wc_region ?_
  refine wl_y (y_fieldAddr (o := 0) (s := 1) (off := 0) (o' := 0) rfl Tryz.underlying27 rfl (by kernel_rfl) rfl rfl) rfl ?_
  refine wl_y (y_load1 rfl Tryz.underlying22 rfl (B1.get (i := 0) rfl)) rfl ?_
  refine wl_y (y_len_slice rfl Tryz.underlying22) rfl ?_
  refine wl_y (y_eql rfl rfl) rfl ?_
  refine wl_yask (y_move rfl) rfl (fun q0 => ?_) (fun q0 => ?_)
  · skip
    refine wl_gy 7 rfl rfl (y_fieldAddr (o := 1) (s := 6) (off := 0) (o' := 1) rfl Tryz.underlying27 rfl (by kernel_rfl) rfl rfl) rfl ?_
    refine wl_gy 7 rfl rfl (y_loadx (o := 1) (s := 6) rfl Tryz.underlying25 rfl (by kernel_rfl) B1 rfl) rfl ?_
    refine wl_gcall 7 rfl rfl Tryz.func99 rfl rfl rfl (rNoLeaf20_any _ (HL.ext E) hf.2.1) rfl ?_
    rintro e w2 ⟨rfl, ex⟩
    refine ⟨_, rfl, ?_⟩
    replace E := E.ext ex
    replace B1 := B1.ext ex
    skip
    refine wl_y (y_pickt rfl rfl) rfl ?_
    refine wl_yask (y_move rfl) rfl (fun q1 => ?_) (fun q1 => ?_)
    · skip
      refine wl_gy 12 rfl rfl (y_fieldAddr (o := 7) (s := 1) (off := 0) (o' := 7) rfl Tryz.underlying27 rfl (by kernel_rfl) rfl rfl) rfl ?_
      refine wl_gy 12 rfl rfl (y_load1 rfl Tryz.underlying22 rfl (B1.get (i := 7) rfl)) rfl ?_
      refine wl_gy 12 rfl rfl (y_len_slice rfl Tryz.underlying22) rfl ?_
      refine wl_gy 12 rfl rfl (y_eql rfl rfl) rfl ?_
      refine wl_y (y_pickt rfl rfl) rfl ?_
      refine wl_y (y_assign rfl) rfl ?_
      refine wl_nil ?_
      refine wq_then_norm (hK2 ?_)
      refine wc_ret ?_
      refine hret rfl ?_
      exact ⟨ret_bool ⟨fun h => ⟨by omega, q1, by omega⟩, fun h => by have := h.2.2; omega⟩, E⟩
    · skip
      refine wl_gno 12 rfl rfl rfl rfl ?_
      refine wl_gno 12 rfl rfl rfl rfl ?_
      refine wl_gno 12 rfl rfl rfl rfl ?_
      refine wl_gno 12 rfl rfl rfl rfl ?_
      refine wl_y (y_pickf rfl rfl) rfl ?_
      refine wl_y (y_assign rfl) rfl ?_
      refine wl_nil ?_
      refine wq_then_norm (hK2 ?_)
      refine wc_ret ?_
      refine hret rfl ?_
      exact ⟨ret_no fun h => q1 h.2.1, E⟩
  · skip
    refine wl_gno 7 rfl rfl rfl rfl ?_
    refine wl_gno 7 rfl rfl rfl rfl ?_
    refine wl_gno 7 rfl rfl rfl rfl ?_
    refine wl_y (y_pickf rfl rfl) rfl ?_
    refine wl_y (y_move rfl) rfl ?_
    refine wl_gno 12 rfl rfl rfl rfl ?_
    refine wl_gno 12 rfl rfl rfl rfl ?_
    refine wl_gno 12 rfl rfl rfl rfl ?_
    refine wl_gno 12 rfl rfl rfl rfl ?_
    refine wl_y (y_pickf rfl rfl) rfl ?_
    refine wl_y (y_assign rfl) rfl ?_
    refine wl_nil ?_
    refine wq_then_norm (hK2 ?_)
    refine wc_ret ?_
    refine hret rfl ?_
    exact ⟨ret_no fun h => q0 (by have := h.1; omega), E⟩
end
end Go.Proofs.YtpgalbgonmclaaaGreat
