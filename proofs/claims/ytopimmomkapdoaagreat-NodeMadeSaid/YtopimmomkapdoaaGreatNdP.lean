/- The law NodeChecks: which leaves are checked. -/
import Derived.Test.YtopimmomkapdoaaGreatNdL
import Derived.Test.YtopimmomkapdoaaGreatSgJ
/- The text of a leaf that is signed, and whether a leaf's signature is good: what node and the reference hand back. -/
namespace Go.Proofs.YtopimmomkapdoaaGreat
open Go.RowKit
attribute [local irreducible] Y Ef WL WC WK WQ WM OpM WN WF OpN WJ OpJ
open Wire Nd
def lab : ByteArray := ⟨#[76, 101, 97, 102, 78, 111, 100, 101, 84, 66, 83]⟩
theorem lab_size : lab.size ≤ 1000 := by decide
/-- May a leaf of its kind stand at a place? -/
def okAt (l : Leaf) (z : Int) : Prop := l.src = 1 ∨ 0 ≤ z ∧ z < 65536
instance (l : Leaf) (z : Int) : Decidable (okAt l z) := by unfold okAt; infer_instance
def u64 (z : Int) : Nat := (z % 18446744073709551616).toNat
theorem u64_wrap (z : Int) : IntKind.u64.wrap z = ((u64 z : Nat) : Int) := by
  rw [wrap_u64']; unfold u64; omega
theorem u64_lt (z : Int) : u64 z < 18446744073709551616 := by unfold u64; omega
/-- The text that is signed. -/
def leafT (l : Leaf) (gs : List UInt8) (z : Int) : List UInt8 := if l.src = 1 then leafU l else leafU l ++ vec gs ++ be 4 (u64 z)
theorem leafT_le {l : Leaf} {gs : List UInt8} {z : Int} (hs : (leafU l).length ≤ 80000) (hg : gs.length ≤ 100) : (leafT l gs z).length ≤ 80200 := by
  have h := vec_le gs
  have hb : (be 4 (u64 z)).length = 4 := be_length 4 _
  unfold leafT
  split
  · omega
  · simp only [List.length_append]; omega
/-- A leaf of slices with room. -/
def LeafAc (w : World) (cs : Array Value) (l : Leaf) : Prop := LeafC (fun h xs => BsH w h xs ∧ h.n ≤ h.c) cs l
theorem LeafAc.at {w : World} {cs : Array Value} {l : Leaf} (h : LeafAc w cs l) : LeafAt w cs l := LeafC.imp h fun _ _ b => b.1
theorem LeafAc.ext {w w' : World} {cs : Array Value} {l : Leaf} (h : LeafAc w cs l) (e : Ext w w') : LeafAc w' cs l := LeafC.imp h fun _ _ b => ⟨Bs.ext b.1 e, b.2⟩
section
variable {cs : Array Value} {l : Leaf} {B : Option Addr} {m d : Nat} {gs : List UInt8} {z : Int}
theorem text16_any (w : World) (H : LeafAt w cs l) (hf : l.Fit) (HB : Bs w B m gs) (hm : m ≤ 1000) :
    Calls Tryz.prog 19 #[.agg cs, .slice B m d, .int .i64 z] w fun e w' => ∃ A' k c', e = .returned (.tuple #[.slice A' k c', .bool (decide (okAt l z))]) ∧ Row w' w.heap.size 5 A' k c' ((leafT l gs z).map bv) ∧ Ext w w' := by
  have hU := leafU_le hf
  have HL := H
  obtain ⟨h0, h1, h2, h4, h5, rfl, hs, b0, b1, b2, b4, b5⟩ := H
  have E := Ext.refl w
  refine vc_enter2 27 Tryz.func19 rfl rfl rfl rfl ?_
  intro Q hret
  refine wc_seq ?_; intro K1 hK1
  refine wc_region ?_
  refine wl_ef (ef_box rfl rfl) rfl ?_
  rintro _ wB3 ⟨gB3, rfl, B3, hgB3, ex⟩
  have lB3 := B3.lt; have zB3 := ex.size
  replace E := E.ext ex
  refine wl_y (y_assign rfl) rfl ?_
  refine wl_y (y_assign rfl) rfl ?_
  refine wl_nil ?_
  refine wq_then_norm (hK1 ?_)
  refine wc_seq ?_; intro K2 hK2
  refine wc_region ?_
  refine wl_y (y_loadx (o := 0) (s := 6) rfl Tryz.underlying24 rfl (by kernel_rfl) B3 rfl) rfl ?_
  have hz1 := E.size
  refine wl_call Tryz.func35 rfl rfl rfl (unsigned_any _ (Bs.nil _ none) (by omega) (HL.ext E) hf) rfl ?_
  rintro e w2 ⟨A2, k2, c2, rfl, R2, ex⟩
  refine ⟨_, rfl, ?_⟩
  replace E := E.ext ex
  replace B3 := B3.ext ex
  have hk2 := R2.bs.1; rw [List.nil_append] at hk2 R2
  refine wl_y (y_assign rfl) rfl ?_
  refine wl_nil ?_
  refine wq_then_norm (hK2 ?_)
  refine wc_seq ?_; intro K3 hK3
  refine wc_seq ?_; intro K4 hK4
  refine wc_region ?_
  refine wl_y (y_fieldAddr (o := 3) (s := 1) (off := 0) (o' := 3) rfl Tryz.underlying24 rfl (by kernel_rfl) rfl rfl) rfl ?_
  refine wl_y (y_load1 rfl Tryz.underlying5 rfl (B3.get (i := 3) rfl)) rfl ?_
  refine wl_y (y_eql rfl rfl) rfl ?_
  refine wl_nil ?_
  refine wq_then_norm (hK4 ?_)
  refine wc_dec rfl (fun hc1 => ?_) (fun hc1 => ?_)
  · skip
    refine wc_seq ?_; intro K5 hK5
    refine wc_region ?_
    refine wl_y (y_move rfl) rfl ?_
    refine wl_y (y_assign rfl) rfl ?_
    refine wl_y (y_assign rfl) rfl ?_
    refine wl_nil ?_
    refine wq_then_norm (hK5 ?_)
    refine wc_ret ?_
    refine wq_then_ret ?_
    refine hret rfl rfl ?_
    exact ⟨A2, k2, c2, by rw [decide_eq_true (show okAt l z from .inl (by omega))], (R2.lower hz1).congr rfl (by unfold leafT; rw [if_pos (by omega)]), E⟩
  · skip
    refine wc_skip ?_
    refine wq_then_norm (hK3 ?_)
    refine wc_seq ?_; intro K6 hK6
    refine wc_region ?_
    refine wl_y (y_move rfl) rfl ?_
    refine wl_y (y_move rfl) rfl ?_
    refine wl_call Tryz.func34 rfl rfl rfl (pv_any R2.bs (HB.ext E) (by omega) (by omega)) rfl ?_
    rintro e w3 ⟨A3, k3, c3, rfl, R3, hk3, ex⟩
    refine ⟨_, rfl, ?_⟩
    replace E := E.ext ex
    replace B3 := B3.ext ex
    replace R2 := R2.ext ex
    skip
    refine wl_y (y_move rfl) rfl ?_
    refine wl_y (y_conv rfl Tryz.underlying3 Tryz.underlying58 (u64_wrap z)) rfl ?_
    have hz4 := E.size
    refine wl_call Tryz.func40 rfl rfl rfl (putNum_any A3 k3 c3 4 (u64 z) _ _ R3.bs (by omega) (by omega) (u64_lt z)) rfl ?_
    rintro e w4 ⟨A4, c4, rfl, R4, ex⟩
    refine ⟨_, rfl, ?_⟩
    replace E := E.ext ex
    replace B3 := B3.ext ex
    replace R2 := R2.ext ex
    replace R3 := R3.ext ex
    skip
    refine wl_y (y_move rfl) rfl ?_
    refine wl_y (y_geq rfl rfl) rfl ?_
    refine wl_yask (y_move rfl) rfl (fun v0 => ?_) (fun v0 => ?_)
    · skip
      refine wl_gy 23 rfl rfl (y_move rfl) rfl ?_
      refine wl_gy 23 rfl rfl (y_lss rfl rfl) rfl ?_
      refine wl_y (y_pickt rfl rfl) rfl ?_
      refine wl_y (y_assign rfl) rfl ?_
      refine wl_y (y_assign rfl) rfl ?_
      refine wl_nil ?_
      refine wq_then_norm (hK6 ?_)
      refine wc_ret ?_
      refine hret rfl rfl ?_
      exact ⟨A4, _, c4, by rw [decide_eq_decide.2 (show z < 65536 ↔ okAt l z from ⟨fun h => .inr ⟨by omega, h⟩, fun h => by rcases h with h | h <;> omega⟩)], (R4.lower hz4).congr rfl (by unfold leafT; rw [if_neg (by omega)]), E⟩
    · skip
      refine wl_gno 23 rfl rfl rfl rfl ?_
      refine wl_gno 23 rfl rfl rfl rfl ?_
      refine wl_y (y_pickf rfl rfl) rfl ?_
      refine wl_y (y_assign rfl) rfl ?_
      refine wl_y (y_assign rfl) rfl ?_
      refine wl_nil ?_
      refine wq_then_norm (hK6 ?_)
      refine wc_ret ?_
      refine hret rfl rfl ?_
      exact ⟨A4, _, c4, by rw [decide_eq_false (show ¬ okAt l z from fun h => by rcases h with h | h <;> omega)], (R4.lower hz4).congr rfl (by unfold leafT; rw [if_neg (by omega)]), E⟩
theorem rtext16_any (w : World) (H : LeafAt w cs l) (hf : l.Fit) (HB : Bs w B m gs) (hm : m ≤ 1000) :
    Calls Tryz.prog 11 #[.agg cs, .slice B m d, .int .i64 z] w fun e w' => ∃ A' k c', e = .returned (.slice A' k c') ∧ Bs w' A' k (leafT l gs z) ∧ Ext w w' := by
  have hU := leafU_le hf
  have HL := H
  obtain ⟨h0, h1, h2, h4, h5, rfl, hs, b0, b1, b2, b4, b5⟩ := H
  have E := Ext.refl w
  refine vc_enter1 21 Tryz.func11 rfl rfl rfl rfl ?_
  intro Q hret
  refine wc_seq ?_; intro K1 hK1
  refine wc_region ?_
  refine wl_ef (ef_box rfl rfl) rfl ?_
  rintro _ wB3 ⟨gB3, rfl, B3, hgB3, ex⟩
  have lB3 := B3.lt; have zB3 := ex.size
  replace E := E.ext ex
  refine wl_y (y_assign rfl) rfl ?_
  refine wl_nil ?_
  refine wq_then_norm (hK1 ?_)
  refine wc_seq ?_; intro K2 hK2
  refine wc_seq ?_; intro K3 hK3
  refine wc_region ?_
  refine wl_y (y_fieldAddr (o := 3) (s := 1) (off := 0) (o' := 3) rfl Tryz.underlying24 rfl (by kernel_rfl) rfl rfl) rfl ?_
  refine wl_y (y_load1 rfl Tryz.underlying5 rfl (B3.get (i := 3) rfl)) rfl ?_
  refine wl_y (y_eql rfl rfl) rfl ?_
  refine wl_nil ?_
  refine wq_then_norm (hK3 ?_)
  refine wc_dec rfl (fun hc1 => ?_) (fun hc1 => ?_)
  · skip
    refine wc_seq ?_; intro K4 hK4
    refine wc_region ?_
    refine wl_y (y_loadx (o := 0) (s := 6) rfl Tryz.underlying24 rfl (by kernel_rfl) B3 rfl) rfl ?_
    refine wl_call Tryz.func23 rfl rfl rfl (ahead_any _ (HL.ext E) hf) rfl ?_
    rintro e w2 ⟨A2, k2, c2, rfl, R2, ex⟩
    refine ⟨_, rfl, ?_⟩
    replace E := E.ext ex
    replace B3 := B3.ext ex
    skip
    refine wl_y (y_assign rfl) rfl ?_
    refine wl_nil ?_
    refine wq_then_norm (hK4 ?_)
    refine wc_ret ?_
    refine wq_then_ret ?_
    refine hret rfl ?_
    exact ⟨A2, k2, c2, rfl, (show Bs _ A2 k2 (leafT l gs z) from by unfold leafT; rw [if_pos (by omega)]; exact R2.bs), E⟩
  · skip
    refine wc_skip ?_
    refine wq_then_norm (hK2 ?_)
    refine wc_seq ?_; intro K5 hK5
    refine wc_region ?_
    refine wl_y (y_loadx (o := 0) (s := 6) rfl Tryz.underlying24 rfl (by kernel_rfl) B3 rfl) rfl ?_
    refine wl_call Tryz.func23 rfl rfl rfl (ahead_any _ (HL.ext E) hf) rfl ?_
    rintro e w2 ⟨A2, k2, c2, rfl, R2, ex⟩
    refine ⟨_, rfl, ?_⟩
    replace E := E.ext ex
    replace B3 := B3.ext ex
    have hk2 := R2.bs.1
    refine wl_y (y_move rfl) rfl ?_
    refine wl_call Tryz.func25 rfl rfl rfl (rv_any (HB.ext E) (by omega)) rfl ?_
    rintro e w3 ⟨A3, k3, c3, rfl, R3, hk3, ex⟩
    refine ⟨_, rfl, ?_⟩
    replace E := E.ext ex
    replace B3 := B3.ext ex
    replace R2 := R2.ext ex
    skip
    refine wl_y (y_move rfl) rfl ?_
    refine wl_y (y_conv rfl Tryz.underlying3 Tryz.underlying58 (u64_wrap z)) rfl ?_
    refine wl_call Tryz.func26 rfl rfl rfl (refNum_any 4 (u64 z) _ (by omega) (u64_lt z)) rfl ?_
    rintro e w4 ⟨A4, c4, rfl, R4, ex⟩
    refine ⟨_, rfl, ?_⟩
    replace E := E.ext ex
    replace B3 := B3.ext ex
    replace R2 := R2.ext ex
    replace R3 := R3.ext ex
    skip
    refine wl_call Tryz.func24 rfl rfl rfl (jn16_any R3.bs R4.bs (by omega) (by omega)) rfl ?_
    rintro e w5 ⟨A5, c5, rfl, R5, ex⟩
    refine ⟨_, rfl, ?_⟩
    replace E := E.ext ex
    replace B3 := B3.ext ex
    replace R2 := R2.ext ex
    replace R3 := R3.ext ex
    replace R4 := R4.ext ex
    skip
    refine wl_call Tryz.func24 rfl rfl rfl (jn16_any R2.bs R5.bs (by omega) (by omega)) rfl ?_
    rintro e w6 ⟨A6, c6, rfl, R6, ex⟩
    refine ⟨_, rfl, ?_⟩
    replace E := E.ext ex
    replace B3 := B3.ext ex
    replace R2 := R2.ext ex
    replace R3 := R3.ext ex
    replace R4 := R4.ext ex
    replace R5 := R5.ext ex
    skip
    refine wl_y (y_assign rfl) rfl ?_
    refine wl_nil ?_
    refine wq_then_norm (hK5 ?_)
    refine wc_ret ?_
    refine hret rfl ?_
    exact ⟨A6, _, c6, rfl, (show Bs _ A6 _ (leafT l gs z) from by have h := R6.bs; unfold leafT; rw [if_neg (by omega)]; simpa only [List.append_assoc] using h), E⟩
/-- Is a leaf's signature good? -/
def chk (l : Leaf) (gs : List UInt8) (z : Int) : Bool := decide (okAt l z) && decide (okLeaf l) && Sg.holds l.sign (Sg.text lab.data.toList (leafT l gs z)) l.sig
theorem checkLeaf_any (w : World) (H : LeafAc w cs l) (hf : l.Fit) (hU : (leafU l).length ≤ 80000) (h1 : l.sign.length ≤ 1000) (h2 : l.sig.length ≤ 1000) (HB : Bs w B m gs) (hm : m ≤ 100) :
    Calls Tryz.prog 8 #[.agg cs, .slice B m d, .int .i64 z] w fun e w' => e = .returned (.bool (chk l gs z)) ∧ Ext w w' := by
  have HL := H.at
  have hT := leafT_le (z := z) hU (show gs.length ≤ 100 by rw [HB.1]; exact hm)
  obtain ⟨g0, g1, g2, g4, g5, rfl, hs, ⟨b0, _⟩, ⟨b1, q1⟩, ⟨b2, _⟩, ⟨b4, _⟩, ⟨b5, q5⟩⟩ := H
  have l1 := b1.1; have l5 := b5.1
  have E := Ext.refl w
  refine vc_enter1 29 Tryz.func8 rfl rfl rfl rfl ?_
  intro Q hret
  refine wc_seq ?_; intro K1 hK1
  refine wc_region ?_
  refine wl_ef (ef_box rfl rfl) rfl ?_
  rintro _ wB3 ⟨gB3, rfl, B3, hgB3, ex⟩
  have lB3 := B3.lt; have zB3 := ex.size
  replace E := E.ext ex
  refine wl_y (y_assign rfl) rfl ?_
  refine wl_nil ?_
  refine wq_then_norm (hK1 ?_)
  refine wc_seq ?_; intro K2 hK2
  refine wc_region ?_
  refine wl_y (y_loadx (o := 0) (s := 6) rfl Tryz.underlying24 rfl (by kernel_rfl) B3 rfl) rfl ?_
  refine wl_y (y_move rfl) rfl ?_
  refine wl_y (y_move rfl) rfl ?_
  refine wl_call Tryz.func19 rfl rfl rfl (text16_any _ (HL.ext E) hf (HB.ext E) (by omega)) rfl ?_
  rintro e w2 ⟨A2, k2, c2, rfl, R2, ex⟩
  refine ⟨_, rfl, ?_⟩
  replace E := E.ext ex
  replace B3 := B3.ext ex
  have H2 := R2.bs; have hk2 := H2.1
  refine wl_y (y_move rfl) rfl ?_
  refine wl_y (y_extract rfl rfl) rfl ?_
  refine wl_y (y_extract rfl rfl) rfl ?_
  refine wl_y (y_assign rfl) rfl ?_
  refine wl_y (y_assign rfl) rfl ?_
  refine wl_nil ?_
  refine wq_then_norm (hK2 ?_)
  refine wc_seq ?_; intro K3 hK3
  refine wc_region ?_
  refine wl_y (y_move rfl) rfl ?_
  refine wl_yask (y_move rfl) rfl (fun t0 => ?_) (fun t0 => ?_)
  · skip
    refine wl_gy 17 rfl rfl (y_loadx (o := 0) (s := 6) rfl Tryz.underlying24 rfl (by kernel_rfl) B3 rfl) rfl ?_
    refine wl_gcall 17 rfl rfl Tryz.func20 rfl rfl rfl (rightLeaf_any _ (HL.ext E)) rfl ?_
    rintro e w3 ⟨rfl, ex⟩
    refine ⟨_, rfl, ?_⟩
    replace E := E.ext ex
    replace B3 := B3.ext ex
    replace H2 := H2.ext ex
    skip
    refine wl_y (y_pickt rfl rfl) rfl ?_
    refine wl_yask (y_move rfl) rfl (fun t1 => ?_) (fun t1 => ?_)
    · skip
      refine wl_gy 21 rfl rfl (y_fieldAddr (o := 1) (s := 1) (off := 0) (o' := 1) rfl Tryz.underlying24 rfl (by kernel_rfl) rfl rfl) rfl ?_
      refine wl_gy 21 rfl rfl (y_load1 rfl Tryz.underlying22 rfl (B3.get (i := 1) rfl)) rfl ?_
      refine wl_gy 21 rfl rfl (y_move rfl) rfl ?_
      refine wl_gy 21 rfl rfl (y_fieldAddr (o := 5) (s := 1) (off := 0) (o' := 5) rfl Tryz.underlying24 rfl (by kernel_rfl) rfl rfl) rfl ?_
      refine wl_gy 21 rfl rfl (y_load1 rfl Tryz.underlying22 rfl (B3.get (i := 5) rfl)) rfl ?_
      refine wl_gcall 21 rfl rfl Tryz.func10 rfl rfl rfl (Check_any _ _ _ l.sign lab _ _ _ (leafT l gs z) _ _ _ l.sig _ (Bs.ext b1 E) H2 (Bs.ext b5 E) (by omega) lab_size (by omega) (by omega) q5) rfl ?_
      rintro e w4 ⟨rfl, ex⟩
      refine ⟨_, rfl, ?_⟩
      replace E := E.ext ex
      replace B3 := B3.ext ex
      replace H2 := H2.ext ex
      skip
      refine wl_y (y_pickt rfl rfl) rfl ?_
      refine wl_y (y_assign rfl) rfl ?_
      refine wl_nil ?_
      refine wq_then_norm (hK3 ?_)
      refine wc_ret ?_
      refine hret rfl ?_
      exact ⟨by unfold chk; rw [decide_eq_true t0, decide_eq_true t1]; rfl, E⟩
    · skip
      refine wl_gno 21 rfl rfl rfl rfl ?_
      refine wl_gno 21 rfl rfl rfl rfl ?_
      refine wl_gno 21 rfl rfl rfl rfl ?_
      refine wl_gno 21 rfl rfl rfl rfl ?_
      refine wl_gno 21 rfl rfl rfl rfl ?_
      refine wl_gno 21 rfl rfl rfl rfl ?_
      refine wl_y (y_pickf rfl rfl) rfl ?_
      refine wl_y (y_assign rfl) rfl ?_
      refine wl_nil ?_
      refine wq_then_norm (hK3 ?_)
      refine wc_ret ?_
      refine hret rfl ?_
      exact ⟨by unfold chk; rw [decide_eq_false t1, Bool.and_false]; rfl, E⟩
  · skip
    refine wl_gno 17 rfl rfl rfl rfl ?_
    refine wl_gno 17 rfl rfl rfl rfl ?_
    refine wl_y (y_pickf rfl rfl) rfl ?_
    refine wl_y (y_move rfl) rfl ?_
    refine wl_gno 21 rfl rfl rfl rfl ?_
    refine wl_gno 21 rfl rfl rfl rfl ?_
    refine wl_gno 21 rfl rfl rfl rfl ?_
    refine wl_gno 21 rfl rfl rfl rfl ?_
    refine wl_gno 21 rfl rfl rfl rfl ?_
    refine wl_gno 21 rfl rfl rfl rfl ?_
    refine wl_y (y_pickf rfl rfl) rfl ?_
    refine wl_y (y_assign rfl) rfl ?_
    refine wl_nil ?_
    refine wq_then_norm (hK3 ?_)
    refine wc_ret ?_
    refine hret rfl ?_
    exact ⟨by unfold chk; rw [decide_eq_false t0]; rfl, E⟩
end
end Go.Proofs.YtopimmomkapdoaaGreat

namespace Go.Proofs.YtopimmomkapdoaaGreat
open Go.RowKit
attribute [local irreducible] Y Ef WL WC WK WQ WM OpM WN WF OpN WJ OpJ
open Wire Nd
theorem leafU_small {l : Leaf} (h : (⟨0, l, Par.zero⟩ : Node).Small) : (leafU l).length ≤ 900 := by
  obtain ⟨f0, f1, f2, f4, _⟩ := h
  have f0 : l.box.length ≤ 200 := f0
  have f1 : l.sign.length ≤ 200 := f1
  have f2 : l.ident.length ≤ 200 := f2
  have f4 : l.parent.length ≤ 200 := f4
  have h0 := vec_le l.box; have h1 := vec_le l.sign; have h2 := vec_le l.ident; have h4 := vec_le l.parent
  unfold leafU
  simp only [List.length_append, List.length_singleton]
  split
  · omega
  · simp only [List.length_nil]; omega
theorem leafN_at {w : World} {h0 h1 h2 h4 h5 : Hd} {l : Leaf} (h : LeafAt w (leafV h0 h1 h2 l.src h4 h5) l) : NodeAt w (nodeV 0 h0 h1 h2 l.src h4 h5 nilH nilH nilH) ⟨0, l, Par.zero⟩ := by
  obtain ⟨j0, j1, j2, j4, j5, e, hs, q0, q1, q2, q4, q5⟩ := h
  have e0 : j0 = h0 ∧ j1 = h1 ∧ j2 = h2 ∧ j4 = h4 ∧ j5 = h5 := by
    unfold leafV at e
    simp only [Array.mk.injEq, List.cons.injEq, Value.slice.injEq, and_true, true_and] at e
    obtain ⟨a, b, c, d, f⟩ := e
    refine ⟨?_, ?_, ?_, ?_, ?_⟩
    · cases h0; cases j0; simp_all
    · cases h1; cases j1; simp_all
    · cases h2; cases j2; simp_all
    · cases h4; cases j4; simp_all
    · cases h5; cases j5; simp_all
  obtain ⟨rfl, rfl, rfl, rfl, rfl⟩ := e0
  exact ⟨_, _, _, _, _, nilH, nilH, nilH, rfl, (show 0 < 256 by omega), hs, q0, q1, q2, q4, q5, Bs.nil w none, Bs.nil w none, Zs.nil w none⟩
theorem chk_eq {l : Leaf} {gs : List UInt8} {z : Int} (h1 : okAt l z) (h2 : okLeaf l) : chk l gs z = Sg.holds l.sign (Sg.text lab.data.toList (leafT l gs z)) l.sig := by
  unfold chk; rw [decide_eq_true h1, decide_eq_true h2]; rfl
end Go.Proofs.YtopimmomkapdoaaGreat
