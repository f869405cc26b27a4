/- The bytes of packages and proposals: what msg and the reference hand back; bytes told of what may be. -/
import Derived.Test.YtjllhimhiekchaaGreatNdD
import Derived.Test.YtjllhimhiekchaaGreatCtxA
/- The law NodeBack: a node comes back of its bytes, and bytes of what is taken of them. -/
namespace Go.Proofs.YtjllhimhiekchaaGreat
open Go.RowKit
attribute [local irreducible] Y Ef WL WC WK WQ WM OpM WN WF OpN WJ OpJ
open Wire Nd
def Node.Small (n : Node) : Prop := n.leaf.box.length ≤ 200 ∧ n.leaf.sign.length ≤ 200 ∧ n.leaf.ident.length ≤ 200 ∧ n.leaf.parent.length ≤ 200 ∧ n.leaf.sig.length ≤ 200 ∧ n.par.box.length ≤ 200 ∧ n.par.hash.length ≤ 200 ∧ n.par.late.length ≤ 60
instance (n : Node) : Decidable n.Small := by unfold Node.Small; exact inferInstance
theorem Node.Small.fit {n : Node} (h : n.Small) : n.Fit := by
 obtain ⟨h1, h2, h3, h4, h5, h6, h7, h8⟩ := h
 exact ⟨⟨by omega, by omega, by omega, by omega, by omega⟩, by omega, by omega, by omega⟩
namespace Nd
end Nd
end Go.Proofs.YtjllhimhiekchaaGreat

/- Packages and proposals, plainly and in memory; which may be: what msg and the reference answer. -/
namespace Go.Proofs.YtjllhimhiekchaaGreat
open Go.RowKit
attribute [local irreducible] Y Ef WL WC WK WQ WM OpM WN WF OpN
open Nd
structure Pack where
 init : List UInt8
 leaf : Leaf
 sig : List UInt8
structure Prop20 where
 kind : Nat
 pack : Pack
 leaf : Leaf
 at_ : Int
def Pack.zero : Pack := ⟨[], Leaf.zero, []⟩
def packV (i h0 h1 h2 : Hd) (s : Nat) (h4 h5 g : Hd) : Array Value := #[.slice i.A i.n i.c, .slice h0.A h0.n h0.c, .slice h1.A h1.n h1.c, .slice h2.A h2.n h2.c, .int .u8 (s : Int), .slice h4.A h4.n h4.c, .slice h5.A h5.n h5.c, .slice g.A g.n g.c]
def PackC (B : Hd → List UInt8 → Prop) (cs : Array Value) (p : Pack) : Prop :=
 ∃ i h0 h1 h2 h4 h5 g, cs = packV i h0 h1 h2 p.leaf.src h4 h5 g ∧ p.leaf.src < 256 ∧ B i p.init ∧ B h0 p.leaf.box ∧ B h1 p.leaf.sign ∧ B h2 p.leaf.ident ∧ B h4 p.leaf.parent ∧ B h5 p.leaf.sig ∧ B g p.sig
section
variable {B B' : Hd → List UInt8 → Prop} {cs : Array Value} {p : Pack} {q : Prop20}
theorem PackC.imp (h : PackC B cs p) (f : ∀ h xs, B h xs → B' h xs) : PackC B' cs p := by
 obtain ⟨i, h0, h1, h2, h4, h5, g, e, hs, a, b0, b1, b2, b4, b5, c⟩ := h
 exact ⟨i, h0, h1, h2, h4, h5, g, e, hs, f _ _ a, f _ _ b0, f _ _ b1, f _ _ b2, f _ _ b4, f _ _ b5, f _ _ c⟩
theorem PackC.leaf (h : PackC B cs p) : LeafC B ((cs.toList.drop 1).take 6).toArray p.leaf := by
 obtain ⟨i, h0, h1, h2, h4, h5, g, rfl, hs, a, b0, b1, b2, b4, b5, c⟩ := h
 exact ⟨h0, h1, h2, h4, h5, rfl, hs, b0, b1, b2, b4, b5⟩
end
def PackAt (w : World) (cs : Array Value) (p : Pack) : Prop := PackC (BsH w) cs p
section
variable {w w' : World} {cs : Array Value} {p : Pack} {q : Prop20}
theorem PackAt.ext (h : PackAt w cs p) (e : Ext w w') : PackAt w' cs p := PackC.imp h fun _ _ b => Bs.ext b e
theorem PackAt.leaf (h : PackAt w cs p) : LeafAt w ((cs.toList.drop 1).take 6).toArray p.leaf := PackC.leaf h
end
def Pack.Fit (p : Pack) : Prop := p.init.length ≤ 1000000 ∧ p.leaf.Fit ∧ p.sig.length ≤ 1000000
/-! Which may be. -/
def okLeafS (l : Leaf) (s : Nat) : Prop := okLeaf l ∧ l.src = s
instance (l : Leaf) (s : Nat) : Decidable (okLeafS l s) := by unfold okLeafS; infer_instance
def okPack (p : Pack) : Prop := p.init.length = 32 ∧ okLeafS p.leaf 1 ∧ p.sig.length = 64
instance (p : Pack) : Decidable (okPack p) := by unfold okPack; infer_instance
theorem leafE_code {l : Leaf} : (leafE l).2 = 0 ↔ okLeaf l := by
 unfold leafE
 split
 ·rename_i h; exact ⟨fun _ => h, fun _ => rfl⟩
 ·rename_i h; exact ⟨fun e => by simp at e, fun k => absurd k h⟩
section
variable {cs : Array Value} {l : Leaf} {p : Pack} {q : Prop20} {s : Nat}
theorem rightLeaf20_any (w : World) (H : LeafAt w cs l) (hf : l.Fit) :
  Calls Tryz.prog 172 #[.agg cs, .int .u8 (s : Int)] w fun e w' => e = .returned (.bool (decide (okLeafS l s))) ∧ Ext w w' := by
 have HL := H
 have hc := leafE_code (l := l)
 obtain ⟨h0, h1, h2, h4, h5, rfl, hs, b0, b1, b2, b4, b5⟩ := H
 have E := Ext.refl w
 refine vc_enter1 20 Tryz.func172 rfl rfl rfl rfl ?_
 intro Q hret
 refine wc_seq ?_; intro K1 hK1
 refine wc_region ?_
 refine wl_ef (ef_box rfl rfl) rfl ?_
 rintro _ wB2 ⟨gB2, rfl, B2, hgB2, ex⟩
 have lB2 := B2.lt; have zB2 := ex.size
 replace E := E.ext ex
 refine wl_y (y_assign rfl) rfl ?_
 refine wl_nil ?_
 refine wq_then_norm (hK1 ?_)
 refine wc_seq ?_; intro K2 hK2
 refine wc_region ?_
 refine wl_y (y_loadx (o := 0) (s := 6) rfl Tryz.underlying27 rfl (by kernel_rfl) B2 rfl) rfl ?_
 refine wl_call Tryz.func230 rfl rfl rfl (LeafBytes_any _ (HL.ext E) hf) rfl ?_
 rintro e w2 ⟨A2, k2, c2, rfl, R2, ex⟩
 refine ⟨_, rfl, ?_⟩
 replace E := E.ext ex
 replace B2 := B2.ext ex
 skip
 refine wl_y (y_move rfl) rfl ?_
 refine wl_y (y_extract rfl rfl) rfl ?_
 refine wl_y (y_extract rfl rfl) rfl ?_
 refine wl_y (y_assign rfl) rfl ?_
 refine wl_y (y_assign rfl) rfl ?_
 refine wl_nil ?_
 refine wq_then_norm (hK2 ?_)
 refine wc_seq ?_; intro K3 hK3
 refine wc_region ?_
 refine wl_y (y_move rfl) rfl ?_
 refine wl_y (y_eql rfl rfl) rfl ?_
 refine wl_yask (y_move rfl) rfl (fun q0 => ?_) (fun q0 => ?_)
 ·skip
  refine wl_gy 14 rfl rfl (y_fieldAddr (o := 3) (s := 1) (off := 0) (o' := 3) rfl Tryz.underlying27 rfl (by kernel_rfl) rfl rfl) rfl ?_
  refine wl_gy 14 rfl rfl (y_load1 rfl Tryz.underlying5 rfl (B2.get (i := 3) rfl)) rfl ?_
  refine wl_gy 14 rfl rfl (y_move rfl) rfl ?_
  refine wl_gy 14 rfl rfl (y_eql rfl rfl) rfl ?_
  refine wl_y (y_pickt rfl rfl) rfl ?_
  refine wl_y (y_assign rfl) rfl ?_
  refine wl_nil ?_
  refine wq_then_norm (hK3 ?_)
  refine wc_ret ?_
  refine hret rfl ?_
  exact ⟨by rw [decide_eq_decide.2 (show (l.src : Int) = (s : Int) ↔ okLeafS l s from ⟨fun h => ⟨hc.1 (by omega), by omega⟩, fun h => by rw [h.2]⟩)], E⟩
 ·skip
  refine wl_gno 14 rfl rfl rfl rfl ?_
  refine wl_gno 14 rfl rfl rfl rfl ?_
  refine wl_gno 14 rfl rfl rfl rfl ?_
  refine wl_gno 14 rfl rfl rfl rfl ?_
  refine wl_y (y_pickf rfl rfl) rfl ?_
  refine wl_y (y_assign rfl) rfl ?_
  refine wl_nil ?_
  refine wq_then_norm (hK3 ?_)
  refine wc_ret ?_
  refine hret rfl ?_
  exact ⟨ret_no fun h => q0 (by rw [hc.2 h.1]; rfl), E⟩
theorem rightPack_any (w : World) (H : PackAt w cs p) (hf : p.Fit) :
  Calls Tryz.prog 91 #[.agg cs] w fun e w' => e = .returned (.bool (decide (okPack p))) ∧ Ext w w' := by
 have HL := H.leaf
 obtain ⟨i, h0, h1, h2, h4, h5, g, rfl, hs, a, b0, b1, b2, b4, b5, c⟩ := H
 have la := a.1; have lc := c.1
 have E := Ext.refl w
 refine vc_enter1 18 Tryz.func91 rfl rfl rfl rfl ?_
 intro Q hret
 refine wc_seq ?_; intro K1 hK1
 refine wc_region ?_
 refine wl_ef (ef_box rfl rfl) rfl ?_
 rintro _ wB1 ⟨gB1, rfl, B1, hgB1, ex⟩
 have lB1 := B1.lt; have zB1 := ex.size
 replace E := E.ext ex
 refine wl_y (y_assign rfl) rfl ?_
 refine wl_nil ?_
 refine wq_then_norm (hK1 ?_)
 refine wc_seq ?_; intro K2 hK2
 refine wc_region ?_
 refine wl_y (y_fieldAddr (o := 0) (s := 1) (off := 0) (o' := 0) rfl Tryz.underlying29 rfl (by kernel_rfl) rfl rfl) rfl ?_
 refine wl_y (y_load1 rfl Tryz.underlying23 rfl (B1.get (i := 0) rfl)) rfl ?_
 refine wl_y (y_len_slice rfl Tryz.underlying23) rfl ?_
 refine wl_y (y_eql rfl rfl) rfl ?_
 refine wl_yask (y_move rfl) rfl (fun q0 => ?_) (fun q0 => ?_)
 ·skip
  refine wl_gy 7 rfl rfl (y_fieldAddr (o := 1) (s := 6) (off := 0) (o' := 1) rfl Tryz.underlying29 rfl (by kernel_rfl) rfl rfl) rfl ?_
  refine wl_gy 7 rfl rfl (y_loadx (o := 1) (s := 6) rfl Tryz.underlying27 rfl (by kernel_rfl) B1 rfl) rfl ?_
  refine wl_gcall 7 rfl rfl Tryz.func172 rfl rfl rfl (rightLeaf20_any (s := 1) _ (HL.ext E) hf.2.1) rfl ?_
  rintro e w2 ⟨rfl, ex⟩
  refine ⟨_, rfl, ?_⟩
  replace E := E.ext ex
  replace B1 := B1.ext ex
  skip
  refine wl_y (y_pickt rfl rfl) rfl ?_
  refine wl_yask (y_move rfl) rfl (fun q1 => ?_) (fun q1 => ?_)
  ·skip
   refine wl_gy 12 rfl rfl (y_fieldAddr (o := 7) (s := 1) (off := 0) (o' := 7) rfl Tryz.underlying29 rfl (by kernel_rfl) rfl rfl) rfl ?_
   refine wl_gy 12 rfl rfl (y_load1 rfl Tryz.underlying23 rfl (B1.get (i := 7) rfl)) rfl ?_
   refine wl_gy 12 rfl rfl (y_len_slice rfl Tryz.underlying23) rfl ?_
   refine wl_gy 12 rfl rfl (y_eql rfl rfl) rfl ?_
   refine wl_y (y_pickt rfl rfl) rfl ?_
   refine wl_y (y_assign rfl) rfl ?_
   refine wl_nil ?_
   refine wq_then_norm (hK2 ?_)
   refine wc_ret ?_
   refine hret rfl ?_
   exact ⟨ret_bool ⟨fun h => ⟨by omega, q1, by omega⟩, fun h => by have := h.2.2; omega⟩, E⟩
  ·skip
   refine wl_gno 12 rfl rfl rfl rfl ?_
   refine wl_gno 12 rfl rfl rfl rfl ?_
   refine wl_gno 12 rfl rfl rfl rfl ?_
   refine wl_gno 12 rfl rfl rfl rfl ?_
   refine wl_y (y_pickf rfl rfl) rfl ?_
   refine wl_y (y_assign rfl) rfl ?_
   refine wl_nil ?_
   refine wq_then_norm (hK2 ?_)
   refine wc_ret ?_
   refine hret rfl ?_
   exact ⟨ret_no fun h => q1 h.2.1, E⟩
 ·skip
  refine wl_gno 7 rfl rfl rfl rfl ?_
  refine wl_gno 7 rfl rfl rfl rfl ?_
  refine wl_gno 7 rfl rfl rfl rfl ?_
  refine wl_y (y_pickf rfl rfl) rfl ?_
  refine wl_y (y_move rfl) rfl ?_
  refine wl_gno 12 rfl rfl rfl rfl ?_
  refine wl_gno 12 rfl rfl rfl rfl ?_
  refine wl_gno 12 rfl rfl rfl rfl ?_
  refine wl_gno 12 rfl rfl rfl rfl ?_
  refine wl_y (y_pickf rfl rfl) rfl ?_
  refine wl_y (y_assign rfl) rfl ?_
  refine wl_nil ?_
  refine wq_then_norm (hK2 ?_)
  refine wc_ret ?_
  refine hret rfl ?_
  exact ⟨ret_no fun h => q0 (by rw [← la, h.1]; rfl), E⟩
end
end Go.Proofs.YtjllhimhiekchaaGreat

/- Which proposals may be, and which are small: what msg and the reference answer. -/
namespace Go.Proofs.YtjllhimhiekchaaGreat
open Go.RowKit
attribute [local irreducible] Y Ef WL WC WK WQ WM OpM WN WF OpN
open Nd
def Pack.Small (p : Pack) : Prop := p.init.length ≤ 100 ∧ p.sig.length ≤ 100 ∧ (⟨0, p.leaf, Par.zero⟩ : Node).Small
instance (p : Pack) : Decidable p.Small := by unfold Pack.Small; infer_instance
def Prop20.Small (p : Prop20) : Prop := p.pack.Small ∧ (⟨0, p.leaf, Par.zero⟩ : Node).Small
instance (p : Prop20) : Decidable p.Small := by unfold Prop20.Small; infer_instance
theorem Pack.Small.fit {p : Pack} (h : p.Small) : p.Fit := ⟨by have := h.1; omega, h.2.2.fit.1, by have := h.2.1; omega⟩
section
variable {cs : Array Value} {p : Pack} {q : Prop20}
theorem place_any (z : Int) (w : World) : Calls Tryz.prog 194 #[.int .i64 z] w fun e w' => e = .returned (.bool (decide (0 ≤ z ∧ z ≤ 65535))) ∧ Ext w w' := by
 have E := Ext.refl w
 refine vc_enter1 9 Tryz.func194 rfl rfl rfl rfl ?_
 intro Q hret
 refine wc_seq ?_; intro K1 hK1
 refine wc_region ?_
 refine wl_y (y_assign rfl) rfl ?_
 refine wl_nil ?_
 refine wq_then_norm (hK1 ?_)
 refine wc_seq ?_; intro K2 hK2
 refine wc_region ?_
 refine wl_y (y_move rfl) rfl ?_
 refine wl_y (y_geq rfl rfl) rfl ?_
 refine wl_yask (y_move rfl) rfl (fun q0 => ?_) (fun q0 => ?_)
 ·skip
  refine wl_gy 5 rfl rfl (y_move rfl) rfl ?_
  refine wl_gy 5 rfl rfl (y_lss rfl rfl) rfl ?_
  refine wl_y (y_pickt rfl rfl) rfl ?_
  refine wl_y (y_assign rfl) rfl ?_
  refine wl_nil ?_
  refine wq_then_norm (hK2 ?_)
  refine wc_ret ?_
  refine hret rfl ?_
  exact ⟨ret_bool ⟨fun h => by omega, fun h => by omega⟩, E⟩
 ·skip
  refine wl_gno 5 rfl rfl rfl rfl ?_
  refine wl_gno 5 rfl rfl rfl rfl ?_
  refine wl_y (y_pickf rfl rfl) rfl ?_
  refine wl_y (y_assign rfl) rfl ?_
  refine wl_nil ?_
  refine wq_then_norm (hK2 ?_)
  refine wc_ret ?_
  refine hret rfl ?_
  exact ⟨ret_no fun h => by omega, E⟩
end
end Go.Proofs.YtjllhimhiekchaaGreat

namespace Go.Proofs.YtjllhimhiekchaaGreat
open Go.RowKit
attribute [local irreducible] Y Ef WL WC WK WQ WM OpM WN WF OpN
open Nd Wire
def packT (p : Pack) : List UInt8 := [0, 1, 0, 1] ++ vec p.init ++ leafB p.leaf
def packB (p : Pack) : List UInt8 := packT p ++ vec p.sig
theorem leafB_sm {l : Leaf} (h : (⟨0, l, Par.zero⟩ : Node).Small) : (leafB l).length ≤ 1200 := by
 obtain ⟨f0, f1, f2, f4, f5, _⟩ := h
 have f0 : l.box.length ≤ 200 := f0
 have f1 : l.sign.length ≤ 200 := f1
 have f2 : l.ident.length ≤ 200 := f2
 have f4 : l.parent.length ≤ 200 := f4
 have f5 : l.sig.length ≤ 200 := f5
 have h0 := vec_le l.box; have h1 := vec_le l.sign; have h2 := vec_le l.ident; have h4 := vec_le l.parent; have h5 := vec_le l.sig
 unfold leafB leafU
 simp only [List.length_append, List.length_singleton]
 split
 ·omega
 ·simp only [List.length_nil]; omega
theorem packT_sm {p : Pack} (h : p.Small) : (packT p).length ≤ 1400 := by
 have h1 := vec_le p.init; have h2 := leafB_sm h.2.2; have h3 := h.1
 unfold packT
 simp only [List.length_append, List.length_cons, List.length_nil]; omega
theorem told_any {ok : Bool} {f : FuncId} {us : List Value} {fn : Func} {b : Code} {Ψ : World → Option Addr → Nat → Nat → Prop} (w : World) (hf : Tryz.prog.funcs[f]? = some fn) (hb : fn.body = some b) (hnm : (fn.name == "runtime.NumGoroutine") = false)
  (hp : ok = true → ∀ w1 : World, Ext w w1 → Calls Tryz.prog f us.toArray w1 fun e w' => ∃ A k c, e = .returned (.slice A k c) ∧ Ψ w' A k c ∧ Ext w1 w') :
  Calls Tryz.prog 90 #[.bool ok, .func (.func f) #[] us.toArray] w fun e w' => ∃ A k c, ∃ z : Nat, e = .returned (.tuple #[.slice A k c, .int .u8 (z : Int)]) ∧ (ok = true → z = 0 ∧ Ψ w' A k c) ∧ (ok = false → z = 3 ∧ A = none ∧ k = 0 ∧ c = 0) ∧ Ext w w' := by
 have E := Ext.refl w
 refine vc_enter2 10 Tryz.func90 rfl rfl rfl rfl ?_
 intro Q hret
 refine wc_seq ?_; intro K1 hK1
 refine wc_region ?_
 refine wl_y (y_assign rfl) rfl ?_
 refine wl_y (y_assign rfl) rfl ?_
 refine wl_nil ?_
 refine wq_then_norm (hK1 ?_)
 refine wc_seq ?_; intro K2 hK2
 refine wc_seq ?_; intro K3 hK3
 refine wc_region ?_
 refine wl_y (y_move rfl) rfl ?_
 refine wl_y (y_not rfl) rfl ?_
 refine wl_nil ?_
 refine wq_then_norm (hK3 ?_)
 refine wc_cond rfl (fun hc1 => ?_) (fun hc1 => ?_)
 ·skip
  refine wc_seq ?_; intro K4 hK4
  refine wc_region ?_
  refine wl_y (y_assign rfl) rfl ?_
  refine wl_y (y_assign rfl) rfl ?_
  refine wl_nil ?_
  refine wq_then_norm (hK4 ?_)
  refine wc_ret ?_
  refine wq_then_ret ?_
  refine hret rfl rfl ?_
  exact ⟨none, 0, 0, 3, rfl, fun h => (by rw [h] at hc1; cases hc1), fun _ => ⟨rfl, rfl, rfl, rfl⟩, E⟩
 ·skip
  refine wc_skip ?_
  refine wq_then_norm (hK2 ?_)
  refine wc_seq ?_; intro K5 hK5
  have hok : ok = true := by cases ok <;> simp_all
  refine wc_region ?_
  refine wl_y (y_move rfl) rfl ?_
  refine wl_ef (ef_callv (Φ := fun v w' => ∃ A k c, v = .slice A k c ∧ Ψ w' A k c ∧ Ext _ w') (xs := []) (vs := []) rfl hf hb hnm rfl (hp hok _ E) (fun _ _ ⟨A, k, c, h1, h2, h3⟩ => ⟨_, h1, A, k, c, rfl, h2, h3⟩)) rfl ?_
  rintro _ w2 ⟨A2, k2, c2, rfl, P2, ex⟩
  replace E := E.ext ex
  skip
  refine wl_y (y_assign rfl) rfl ?_
  refine wl_y (y_assign rfl) rfl ?_
  refine wl_nil ?_
  refine wq_then_norm (hK5 ?_)
  refine wc_ret ?_
  refine hret rfl rfl ?_
  exact ⟨A2, k2, c2, 0, rfl, fun _ => ⟨rfl, P2⟩, fun h => (by rw [h] at hok; cases hok), E⟩
section
variable {cs : Array Value} {l : Leaf} {p : Pack} {q : Prop20}
theorem leafBytes20_any (w : World) (H : LeafAt w cs l) (hf : l.Fit) (ok : okLeaf l) :
  Calls Tryz.prog 175 #[.agg cs] w fun e w' => ∃ A' k c', e = .returned (.slice A' k c') ∧ Row w' w.heap.size 5 A' k c' ((leafB l).map bv) ∧ Ext w w' := by
 have HL := H
 have e1 : leafE l = (leafB l, 0) := by unfold leafE; rw [if_pos ok]
 obtain ⟨h0, h1, h2, h4, h5, rfl, hs, b0, b1, b2, b4, b5⟩ := H
 have E := Ext.refl w
 refine vc_enter1 11 Tryz.func175 rfl rfl rfl rfl ?_
 intro Q hret
 refine wc_seq ?_; intro K1 hK1
 refine wc_region ?_
 refine wl_ef (ef_box rfl rfl) rfl ?_
 rintro _ wB1 ⟨gB1, rfl, B1, hgB1, ex⟩
 have lB1 := B1.lt; have zB1 := ex.size
 replace E := E.ext ex
 refine wl_y (y_assign rfl) rfl ?_
 refine wl_nil ?_
 refine wq_then_norm (hK1 ?_)
 refine wc_seq ?_; intro K2 hK2
 refine wc_region ?_
 have hz1 := E.size
 refine wl_y (y_loadx (o := 0) (s := 6) rfl Tryz.underlying27 rfl (by kernel_rfl) B1 rfl) rfl ?_
 refine wl_call Tryz.func230 rfl rfl rfl (LeafBytes_any _ (HL.ext E) hf) rfl ?_
 rintro e w2 ⟨A2, k2, c2, rfl, R2, ex⟩
 refine ⟨_, rfl, ?_⟩
 replace E := E.ext ex
 replace B1 := B1.ext ex
 rw [e1] at R2
 refine wl_y (y_move rfl) rfl ?_
 refine wl_y (y_extract rfl rfl) rfl ?_
 refine wl_y (y_extract rfl rfl) rfl ?_
 refine wl_y (y_assign rfl) rfl ?_
 refine wl_y (y_assign rfl) rfl ?_
 refine wl_nil ?_
 refine wq_then_norm (hK2 ?_)
 refine wc_seq ?_; intro K3 hK3
 refine wc_region ?_
 refine wl_y (y_move rfl) rfl ?_
 refine wl_y (y_assign rfl) rfl ?_
 refine wl_nil ?_
 refine wq_then_norm (hK3 ?_)
 refine wc_ret ?_
 refine hret rfl ?_
 exact ⟨A2, k2, c2, rfl, R2.lower hz1, E⟩
theorem packText_any (w : World) (H : PackAt w cs p) (hf : p.Fit) (ok : okPack p) :
  Calls Tryz.prog 95 #[.agg cs] w fun e w' => ∃ A' k c', e = .returned (.slice A' k c') ∧ Row w' w.heap.size 5 A' k c' ((packT p).map bv) ∧ Ext w w' := by
 have HL := H.leaf
 have hB := leafB_le hf.2.1
 have h6 := hf.1
 obtain ⟨i, h0, h1, h2, h4, h5, g, rfl, hs, a, b0, b1, b2, b4, b5, c⟩ := H
 have la := a.1
 have E := Ext.refl w
 refine vc_enter1 14 Tryz.func95 rfl rfl rfl rfl ?_
 intro Q hret
 refine wc_seq ?_; intro K1 hK1
 refine wc_region ?_
 refine wl_ef (ef_box rfl rfl) rfl ?_
 rintro _ wB1 ⟨gB1, rfl, B1, hgB1, ex⟩
 have lB1 := B1.lt; have zB1 := ex.size
 replace E := E.ext ex
 refine wl_y (y_assign rfl) rfl ?_
 refine wl_nil ?_
 refine wq_then_norm (hK1 ?_)
 refine wc_seq ?_; intro K2 hK2
 refine wc_region ?_
 refine wl_call Tryz.func174 rfl rfl rfl (mnum_any none 0 0 2 1 [] _ (Bs.nil _ _) (by omega) (by omega) (by omega)) rfl ?_
 rintro e w2 ⟨A2, c2, rfl, R2, ex⟩
 refine ⟨_, rfl, ?_⟩
 replace E := E.ext ex
 replace B1 := B1.ext ex
 skip
 refine wl_call Tryz.func174 rfl rfl rfl (mnum_any A2 _ c2 2 1 _ _ R2.bs (by omega) (by omega) (by omega)) rfl ?_
 rintro e w3 ⟨A3, c3, rfl, R3, ex⟩
 refine ⟨_, rfl, ?_⟩
 replace E := E.ext ex
 replace B1 := B1.ext ex
 replace R2 := R2.ext ex
 skip
 refine wl_y (y_assign rfl) rfl ?_
 refine wl_nil ?_
 refine wq_then_norm (hK2 ?_)
 refine wc_seq ?_; intro K3 hK3
 refine wc_draw (by kernel_rfl) 9 rfl ?_; intro wd2 ex hd2
 replace E := E.ext ex
 replace B1 := B1.ext ex
 replace R3 := R3.ext ex
 refine wm_z 0 rfl (by kernel_rfl) (fun _ => y_move rfl) rfl ?_
 refine wm_z 1 rfl (by kernel_rfl) (fun _ => y_fieldAddr (o := 0) (s := 1) (off := 0) (o' := 0) rfl Tryz.underlying29 rfl (by kernel_rfl) rfl rfl) rfl ?_
 refine wm_y 2 rfl (by kernel_rfl) (y_load1 rfl Tryz.underlying23 rfl (B1.get (i := 0) rfl)) rfl ?_
 refine wm_z 4 rfl (by kernel_rfl) (fun _ => y_fieldAddr (o := 1) (s := 6) (off := 0) (o' := 1) rfl Tryz.underlying29 rfl (by kernel_rfl) rfl rfl) rfl ?_
 refine wm_y 5 rfl (by kernel_rfl) (y_loadx (o := 1) (s := 6) rfl Tryz.underlying27 rfl (by kernel_rfl) B1 rfl) rfl ?_
 have hz3 := E.size
 refine wm_one 3 (by kernel_rfl) ?_; refine om_call rfl Tryz.func94 rfl rfl rfl (mvec_any A3 i.A _ c3 i.n i.c _ _ _ R3.bs (by omega) (Bs.ext a E) (by omega)) rfl ?_
 rintro e w4 ⟨A4, k4, c4, rfl, R4, hk4, ex⟩
 refine ⟨_, rfl, .inr ex, ?_⟩
 replace E := E.ext ex
 replace B1 := B1.ext ex
 replace R3 := R3.ext ex
 have hl4 := lsz_le i.n; replace R4 := R4.lower hz3
 refine wm_one 6 (by kernel_rfl) ?_; refine om_call rfl Tryz.func175 rfl rfl rfl (leafBytes20_any _ (HL.ext E) hf.2.1 ok.2.1.1) rfl ?_
 rintro e w5 ⟨A5, k5, c5, rfl, R5, ex⟩
 refine ⟨_, rfl, .inr ex, ?_⟩
 replace E := E.ext ex
 replace B1 := B1.ext ex
 replace R4 := R4.ext ex
 have hk5 := R5.bs.1
 have hz7 := E.size
 refine wm_one 7 (by kernel_rfl) ?_; refine om_ef rfl (ef_app rfl rfl eltB R4 R5.at R5.len (by intro u hu; exact bv_one u hu) (by omega) (by omega) hz7) rfl ?_
 rintro _ w6 ⟨A6, c6, rfl, R6, be, gr, hl⟩
 refine ⟨.inl rfl, ?_⟩
 replace E := E.trans be; have R7 := R6.cat
 refine wm_y 8 rfl (by kernel_rfl) (y_assign rfl) rfl ?_
 refine wm_done (by kernel_rfl) ?_
 refine wq_nop ?_
 refine wq_then_norm (hK3 ?_)
 refine wc_ret ?_
 refine hret rfl ?_
 exact ⟨A6, _, c6, rfl, R7.congr rfl (by unfold packT; rw [List.nil_append]; rfl), E⟩
end
end Go.Proofs.YtjllhimhiekchaaGreat
