/- The reference's word for nodes that may be and their bytes, and the law NodeBytes. -/
import Derived.Test.YtopimmomkapdoaaNdK
namespace Go.Proofs.Ytopimmomkapdoaa
open Go.RowKit
attribute [local irreducible] Y Ef WL WC WK WQ WM OpM WN WF OpN WJ OpJ
open Wire Nd
theorem leafN_zero {l : Leaf} : (⟨0, l, Par.zero⟩ : Node) = Node.zero ↔ l = Leaf.zero := ⟨fun h => congrArg Node.leaf h, fun h => by rw [h]; rfl⟩
theorem parN_zero {p : Par} : (⟨0, Leaf.zero, p⟩ : Node) = Node.zero ↔ p = Par.zero := ⟨fun h => congrArg Node.par h, fun h => by rw [h]; rfl⟩
theorem rright_any {cs : Array Value} {n : Node} (w : World) (H : NodeAt w cs n) (hf : n.Fit) :
    Calls Try.prog 27 #[.agg cs] w fun e w' => e = .returned (.bool (decide (okNode n))) ∧ Ext w w' := by
  obtain ⟨hk, _, _, HL, HP⟩ := NodeC.parts H
  replace HL : LeafAt w _ n.leaf := HL
  replace HP : ParAt w _ n.par := HP
  obtain ⟨h0, h1, h2, h4, h5, p0, p1, p2, rfl, _, hs, b0, b1, b2, b4, b5, q0', q1', q2'⟩ := H
  have XL : NodeAt w (nodeV 0 h0 h1 h2 n.leaf.src h4 h5 nilH nilH nilH) ⟨0, n.leaf, Par.zero⟩ := ⟨h0, h1, h2, h4, h5, nilH, nilH, nilH, rfl, (show 0 < 256 by omega), hs, b0, b1, b2, b4, b5, Bs.nil w none, Bs.nil w none, Zs.nil w none⟩
  have XP : NodeAt w (nodeV 0 nilH nilH nilH 0 nilH nilH p0 p1 p2) ⟨0, Leaf.zero, n.par⟩ := ⟨nilH, nilH, nilH, nilH, nilH, p0, p1, p2, rfl, (show 0 < 256 by omega), (show 0 < 256 by omega), Bs.nil w none, Bs.nil w none, Bs.nil w none, Bs.nil w none, Bs.nil w none, q0', q1', q2'⟩
  have z0 : Node.zero.Fit := ⟨fit_zero, fit_par0⟩
  have fl3 := hf.2.2.2
  have E := Ext.refl w
  refine vc_enter1 43 Try.func27 rfl rfl rfl rfl ?_
  intro Q hret
  refine wc_seq ?_; intro K1 hK1
  refine wc_region ?_
  refine wl_ef (ef_box rfl rfl) rfl ?_
  rintro _ wB1 ⟨gB1, rfl, B1, hgB1, ex⟩
  have lB1 := B1.lt; have zB1 := ex.size
  replace E := E.ext ex
  refine wl_y (y_assign rfl) rfl ?_
  refine wl_nil ?_
  refine wq_then_norm (hK1 ?_)
  refine wc_seq ?_; intro K2 hK2
  refine wc_drawB (by kernel_rfl) 10 rfl ?_; intro wd1 ex hd1
  replace E := E.ext ex
  replace B1 := B1.ext ex
  have E_0 := E
  have B1_0 := B1
  have X0 := Ext.refl wd1
  refine wn_y 0 rfl (by kernel_rfl) (y_fieldAddr (o := 1) (s := 6) (off := 0) (o' := 1) rfl Try.underlying30 rfl (by kernel_rfl) rfl rfl) rfl ?_
  refine wn_y 1 rfl (by kernel_rfl) (y_loadx (o := 1) (s := 6) rfl Try.underlying25 rfl (by kernel_rfl) B1_0 rfl) rfl ?_
  refine wn_y 2 rfl (by kernel_rfl) (y_build rfl (cells := nodeV 0 h0 h1 h2 n.leaf.src h4 h5 nilH nilH nilH) (by kernel_rfl)) rfl ?_
  refine wn_y 3 rfl (by kernel_rfl) (y_fieldAddr (o := 7) (s := 3) (off := 0) (o' := 7) rfl Try.underlying30 rfl (by kernel_rfl) rfl rfl) rfl ?_
  refine wn_y 4 rfl (by kernel_rfl) (y_loadx (o := 7) (s := 3) rfl Try.underlying28 rfl (by kernel_rfl) B1_0 rfl) rfl ?_
  refine wn_y 5 rfl (by kernel_rfl) (y_build rfl (cells := nodeV 0 nilH nilH nilH 0 nilH nilH p0 p1 p2) (by kernel_rfl)) rfl ?_
  refine wf_start (fl := [flA 6 3 30 (zNodeV), flA 7 4 30 (zNodeV)]) rfl ?_
  refine wf_land2 ⟨(fall (flA_runs rfl (by kernel_rfl)) (fall (flA_runs rfl (by kernel_rfl)) fall_nil)), by decide, by decide, (fall (⟨rfl, by decide⟩) (fall (⟨rfl, by decide⟩) fall_nil)), (fall (mem_of_has (by kernel_rfl)) (fall (mem_of_has (by kernel_rfl)) fall_nil))⟩ (by kernel_rfl) ?_
  rintro _ _ wl1 ex ⟨⟨g3, rfl, Bg3⟩, hg3⟩ ⟨⟨g4, rfl, Bg4⟩, hg4⟩ farg3_g4
  replace hg3 := hg3 g3 rfl
  replace hg4 := hg4 g4 rfl
  have neg3_g4 : g3 ≠ g4 := fun e => farg3_g4 g3 rfl (by rw [e]; rfl)
  replace E := E.ext ex
  replace B1 := B1.ext ex
  replace X0 := X0.ext ex
  refine wn_one 8 (by kernel_rfl) ?_
  refine on_ef rfl (ef_storeW (cells := nodeV 0 h0 h1 h2 n.leaf.src h4 h5 nilH nilH nilH) rfl rfl (by kernel_rfl) Bg3 rfl (all_ones rfl)) rfl ?_
  rintro _ wn1_8 ⟨rfl, Bg3, cg⟩
  replace X0 := X0.chg cg hg3
  refine ⟨X0, ?_⟩
  replace E := E_0.ext X0
  replace B1 := B1_0.ext X0
  replace Bg4 := Bg4.chg cg (by omega)
  refine wn_one 9 (by kernel_rfl) ?_
  refine on_ef rfl (ef_storeW (cells := nodeV 0 nilH nilH nilH 0 nilH nilH p0 p1 p2) rfl rfl (by kernel_rfl) Bg4 rfl (all_ones rfl)) rfl ?_
  rintro _ wn1_9 ⟨rfl, Bg4, cg⟩
  replace X0 := X0.chg cg hg4
  refine ⟨X0, ?_⟩
  replace E := E_0.ext X0
  replace B1 := B1_0.ext X0
  replace Bg3 := Bg3.chg cg (by omega)
  refine wn_done (by kernel_rfl) ?_
  refine wq_nop ?_
  refine wq_then_norm (hK2 ?_)
  refine wc_seq ?_; intro K3 hK3
  refine wc_seq ?_; intro K4 hK4
  refine wc_region ?_
  refine wl_y (y_fieldAddr (o := 0) (s := 1) (off := 0) (o' := 0) rfl Try.underlying30 rfl (by kernel_rfl) rfl rfl) rfl ?_
  refine wl_y (y_load1 rfl Try.underlying5 rfl (B1.get (i := 0) rfl)) rfl ?_
  refine wl_nil ?_
  refine wq_then_norm (hK4 ?_)
  refine wc_block ?_
  refine wc_seq ?_; intro K5 hK5
  refine wc_region ?_
  refine wl_yask (y_eql rfl rfl) rfl (fun k0 => ?_) (fun k0 => ?_)
  · skip
    refine wl_y (y_assign rfl) rfl ?_
    refine wl_nil ?_
    refine wq_then_norm (hK5 ?_)
    refine wc_true rfl rfl ?_
    refine wc_seq ?_; intro K6 hK6
    refine wc_region ?_
    refine wl_y (y_loadx (o := 0) (s := 10) rfl Try.underlying30 rfl (by kernel_rfl) Bg3 rfl) rfl ?_
    refine wl_y (y_build rfl (cells := zNodeV) (by kernel_rfl)) rfl ?_
    refine wl_call Try.func14 rfl rfl rfl (rsame16_any _ (XL.ext E) (nodeAt_zero _) ⟨hf.1, fit_par0⟩ z0) rfl ?_
    rintro e w3 ⟨rfl, ex⟩
    refine ⟨_, rfl, ?_⟩
    replace E := E.ext ex
    replace B1 := B1.ext ex
    replace Bg3 := Bg3.ext ex
    replace Bg4 := Bg4.ext ex
    skip
    refine wl_yask (y_move rfl) rfl (fun q0 => ?_) (fun q0 => ?_)
    · skip
      refine wl_gy 18 rfl rfl (y_loadx (o := 0) (s := 10) rfl Try.underlying30 rfl (by kernel_rfl) Bg4 rfl) rfl ?_
      refine wl_gy 18 rfl rfl (y_build rfl (cells := zNodeV) (by kernel_rfl)) rfl ?_
      refine wl_gcall 18 rfl rfl Try.func14 rfl rfl rfl (rsame16_any _ (XP.ext E) (nodeAt_zero _) ⟨fit_zero, hf.2⟩ z0) rfl ?_
      rintro e w4 ⟨rfl, ex⟩
      refine ⟨_, rfl, ?_⟩
      replace E := E.ext ex
      replace B1 := B1.ext ex
      replace Bg3 := Bg3.ext ex
      replace Bg4 := Bg4.ext ex
      skip
      refine wl_y (y_pickt rfl rfl) rfl ?_
      refine wl_y (y_assign rfl) rfl ?_
      refine wl_nil ?_
      refine wq_then_norm (hK6 ?_)
      refine wc_ret ?_
      refine wq_blk_ret ?_
      refine wq_then_ret ?_
      refine hret rfl ?_
      exact ⟨ret_bool ⟨fun h => .inl ⟨by omega, leafN_zero.1 q0, parN_zero.1 h⟩, fun h => parN_zero.2 (by rcases h with h | h | h <;> first | exact h.2.2 | (exfalso; omega))⟩, E⟩
    · skip
      refine wl_gno 18 rfl rfl rfl rfl ?_
      refine wl_gno 18 rfl rfl rfl rfl ?_
      refine wl_gno 18 rfl rfl rfl rfl ?_
      refine wl_y (y_pickf rfl rfl) rfl ?_
      refine wl_y (y_assign rfl) rfl ?_
      refine wl_nil ?_
      refine wq_then_norm (hK6 ?_)
      refine wc_ret ?_
      refine wq_blk_ret ?_
      refine wq_then_ret ?_
      refine hret rfl ?_
      exact ⟨ret_no fun h => q0 (leafN_zero.2 (by rcases h with h | h | h <;> first | exact h.2.1 | (exfalso; omega))), E⟩
  · skip
    refine wl_y (y_assign rfl) rfl ?_
    refine wl_nil ?_
    refine wq_then_norm (hK5 ?_)
    refine wc_false rfl rfl ?_
    refine wc_seq ?_; intro K7 hK7
    refine wc_region ?_
    refine wl_yask (y_eql rfl rfl) rfl (fun k1 => ?_) (fun k1 => ?_)
    · skip
      refine wl_y (y_assign rfl) rfl ?_
      refine wl_nil ?_
      refine wq_then_norm (hK7 ?_)
      refine wc_true rfl rfl ?_
      refine wc_seq ?_; intro K8 hK8
      refine wc_region ?_
      refine wl_y (y_fieldAddr (o := 1) (s := 6) (off := 0) (o' := 1) rfl Try.underlying30 rfl (by kernel_rfl) rfl rfl) rfl ?_
      refine wl_y (y_loadx (o := 1) (s := 6) rfl Try.underlying25 rfl (by kernel_rfl) B1 rfl) rfl ?_
      refine wl_call Try.func24 rfl rfl rfl (rrightLeaf_any _ (HL.ext E)) rfl ?_
      rintro e w3 ⟨rfl, ex⟩
      refine ⟨_, rfl, ?_⟩
      replace E := E.ext ex
      replace B1 := B1.ext ex
      replace Bg3 := Bg3.ext ex
      replace Bg4 := Bg4.ext ex
      skip
      refine wl_yask (y_move rfl) rfl (fun q0 => ?_) (fun q0 => ?_)
      · skip
        refine wl_gy 28 rfl rfl (y_loadx (o := 0) (s := 10) rfl Try.underlying30 rfl (by kernel_rfl) Bg4 rfl) rfl ?_
        refine wl_gy 28 rfl rfl (y_build rfl (cells := zNodeV) (by kernel_rfl)) rfl ?_
        refine wl_gcall 28 rfl rfl Try.func14 rfl rfl rfl (rsame16_any _ (XP.ext E) (nodeAt_zero _) ⟨fit_zero, hf.2⟩ z0) rfl ?_
        rintro e w4 ⟨rfl, ex⟩
        refine ⟨_, rfl, ?_⟩
        replace E := E.ext ex
        replace B1 := B1.ext ex
        replace Bg3 := Bg3.ext ex
        replace Bg4 := Bg4.ext ex
        skip
        refine wl_y (y_pickt rfl rfl) rfl ?_
        refine wl_y (y_assign rfl) rfl ?_
        refine wl_nil ?_
        refine wq_then_norm (hK8 ?_)
        refine wc_ret ?_
        refine wq_blk_ret ?_
        refine wq_then_ret ?_
        refine hret rfl ?_
        exact ⟨ret_bool ⟨fun h => .inr (.inl ⟨by omega, q0, parN_zero.1 h⟩), fun h => parN_zero.2 (by rcases h with h | h | h <;> first | exact h.2.2 | (exfalso; omega))⟩, E⟩
      · skip
        refine wl_gno 28 rfl rfl rfl rfl ?_
        refine wl_gno 28 rfl rfl rfl rfl ?_
        refine wl_gno 28 rfl rfl rfl rfl ?_
        refine wl_y (y_pickf rfl rfl) rfl ?_
        refine wl_y (y_assign rfl) rfl ?_
        refine wl_nil ?_
        refine wq_then_norm (hK8 ?_)
        refine wc_ret ?_
        refine wq_blk_ret ?_
        refine wq_then_ret ?_
        refine hret rfl ?_
        exact ⟨ret_no fun h => q0 (by rcases h with h | h | h <;> first | exact h.2.1 | (exfalso; omega)), E⟩
    · skip
      refine wl_y (y_assign rfl) rfl ?_
      refine wl_nil ?_
      refine wq_then_norm (hK7 ?_)
      refine wc_false rfl rfl ?_
      refine wc_seq ?_; intro K9 hK9
      refine wc_region ?_
      refine wl_yask (y_eql rfl rfl) rfl (fun k2 => ?_) (fun k2 => ?_)
      · skip
        refine wl_y (y_assign rfl) rfl ?_
        refine wl_nil ?_
        refine wq_then_norm (hK9 ?_)
        refine wc_true rfl rfl ?_
        refine wc_seq ?_; intro K10 hK10
        refine wc_region ?_
        refine wl_y (y_fieldAddr (o := 7) (s := 3) (off := 0) (o' := 7) rfl Try.underlying30 rfl (by kernel_rfl) rfl rfl) rfl ?_
        refine wl_y (y_loadx (o := 7) (s := 3) rfl Try.underlying28 rfl (by kernel_rfl) B1 rfl) rfl ?_
        refine wl_call Try.func59 rfl rfl rfl (rrightParent_any _ (HP.ext E) (by omega)) rfl ?_
        rintro e w3 ⟨rfl, ex⟩
        refine ⟨_, rfl, ?_⟩
        replace E := E.ext ex
        replace B1 := B1.ext ex
        replace Bg3 := Bg3.ext ex
        replace Bg4 := Bg4.ext ex
        skip
        refine wl_yask (y_move rfl) rfl (fun q0 => ?_) (fun q0 => ?_)
        · skip
          refine wl_gy 38 rfl rfl (y_loadx (o := 0) (s := 10) rfl Try.underlying30 rfl (by kernel_rfl) Bg3 rfl) rfl ?_
          refine wl_gy 38 rfl rfl (y_build rfl (cells := zNodeV) (by kernel_rfl)) rfl ?_
          refine wl_gcall 38 rfl rfl Try.func14 rfl rfl rfl (rsame16_any _ (XL.ext E) (nodeAt_zero _) ⟨hf.1, fit_par0⟩ z0) rfl ?_
          rintro e w4 ⟨rfl, ex⟩
          refine ⟨_, rfl, ?_⟩
          replace E := E.ext ex
          replace B1 := B1.ext ex
          replace Bg3 := Bg3.ext ex
          replace Bg4 := Bg4.ext ex
          skip
          refine wl_y (y_pickt rfl rfl) rfl ?_
          refine wl_y (y_assign rfl) rfl ?_
          refine wl_nil ?_
          refine wq_then_norm (hK10 ?_)
          refine wc_ret ?_
          refine wq_blk_ret ?_
          refine wq_then_ret ?_
          refine hret rfl ?_
          exact ⟨ret_bool ⟨fun h => .inr (.inr ⟨by omega, leafN_zero.1 h, q0⟩), fun h => leafN_zero.2 (by rcases h with h | h | h <;> first | exact h.2.1 | (exfalso; omega))⟩, E⟩
        · skip
          refine wl_gno 38 rfl rfl rfl rfl ?_
          refine wl_gno 38 rfl rfl rfl rfl ?_
          refine wl_gno 38 rfl rfl rfl rfl ?_
          refine wl_y (y_pickf rfl rfl) rfl ?_
          refine wl_y (y_assign rfl) rfl ?_
          refine wl_nil ?_
          refine wq_then_norm (hK10 ?_)
          refine wc_ret ?_
          refine wq_blk_ret ?_
          refine wq_then_ret ?_
          refine hret rfl ?_
          exact ⟨ret_no fun h => q0 (by rcases h with h | h | h <;> first | exact h.2.2 | (exfalso; omega)), E⟩
      · skip
        refine wl_y (y_assign rfl) rfl ?_
        refine wl_nil ?_
        refine wq_then_norm (hK9 ?_)
        refine wc_false rfl rfl ?_
        refine wc_skip ?_
        refine wq_blk_norm ?_
        refine wq_then_norm (hK3 ?_)
        refine wc_seq ?_; intro K11 hK11
        refine wc_region ?_
        refine wl_y (y_assign rfl) rfl ?_
        refine wl_nil ?_
        refine wq_then_norm (hK11 ?_)
        refine wc_ret ?_
        refine hret rfl ?_
        exact ⟨ret_no fun h => by rcases h with h | h | h <;> omega, E⟩
theorem ahead_any {cs : Array Value} {l : Leaf} (w : World) (H : LeafAt w cs l) (hf : l.Fit) :
    Calls Try.prog 72 #[.agg cs] w fun e w' => ∃ A' k c', e = .returned (.slice A' k c') ∧ Row w' w.heap.size 5 A' k c' ((leafU l).map bv) ∧ Ext w w' := by
  obtain ⟨h0, h1, h2, h4, h5, rfl, hs, b0, b1, b2, b4, b5⟩ := H
  have l0 := b0.1; have l1 := b1.1; have l2 := b2.1; have l4 := b4.1; have l5 := b5.1
  obtain ⟨f0, f1, f2, f4, f5⟩ := hf
  have E := Ext.refl w
  refine vc_enter1 28 Try.func72 rfl rfl rfl rfl ?_
  intro Q hret
  refine wc_seq ?_; intro K1 hK1
  refine wc_region ?_
  refine wl_ef (ef_box rfl rfl) rfl ?_
  rintro _ wB1 ⟨gB1, rfl, B1, hgB1, ex⟩
  have lB1 := B1.lt; have zB1 := ex.size
  replace E := E.ext ex
  refine wl_y (y_assign rfl) rfl ?_
  refine wl_nil ?_
  refine wq_then_norm (hK1 ?_)
  refine wc_seq ?_; intro K2 hK2
  refine wc_draw (by kernel_rfl) 16 rfl ?_; intro wd1 ex hd1
  replace E := E.ext ex
  replace B1 := B1.ext ex
  refine wm_y 0 rfl (by kernel_rfl) (y_fieldAddr (o := 0) (s := 1) (off := 0) (o' := 0) rfl Try.underlying25 rfl (by kernel_rfl) rfl rfl) rfl ?_
  refine wm_y 1 rfl (by kernel_rfl) (y_load1 rfl Try.underlying22 rfl (B1.get (i := 0) rfl)) rfl ?_
  refine wm_y 3 rfl (by kernel_rfl) (y_fieldAddr (o := 1) (s := 1) (off := 0) (o' := 1) rfl Try.underlying25 rfl (by kernel_rfl) rfl rfl) rfl ?_
  refine wm_y 4 rfl (by kernel_rfl) (y_load1 rfl Try.underlying22 rfl (B1.get (i := 1) rfl)) rfl ?_
  refine wm_y 7 rfl (by kernel_rfl) (y_fieldAddr (o := 2) (s := 1) (off := 0) (o' := 2) rfl Try.underlying25 rfl (by kernel_rfl) rfl rfl) rfl ?_
  refine wm_y 8 rfl (by kernel_rfl) (y_load1 rfl Try.underlying22 rfl (B1.get (i := 2) rfl)) rfl ?_
  refine wm_y 10 rfl (by kernel_rfl) (y_fieldAddr (o := 3) (s := 1) (off := 0) (o' := 3) rfl Try.underlying25 rfl (by kernel_rfl) rfl rfl) rfl ?_
  refine wm_y 11 rfl (by kernel_rfl) (Y.as (y_load1 rfl Try.underlying5 rfl (B1.get (i := 3) rfl)) (src_byte hs)) rfl ?_
  refine wm_two 2 12 (by kernel_rfl) ?_ ?_
  · skip
    refine om_call rfl Try.func73 rfl rfl rfl (rv_any (Bs.ext b0 E) (by omega)) rfl ?_
    rintro e w2 ⟨A2, k2, c2, rfl, R2, hk2, ex⟩
    refine ⟨_, rfl, .inr ex, ?_⟩
    replace E := E.ext ex
    replace B1 := B1.ext ex
    skip
    refine wm_two 5 12 (by kernel_rfl) ?_ ?_
    · skip
      refine om_call rfl Try.func73 rfl rfl rfl (rv_any (Bs.ext b1 E) (by omega)) rfl ?_
      rintro e w3 ⟨A3, k3, c3, rfl, R3, hk3, ex⟩
      refine ⟨_, rfl, .inr ex, ?_⟩
      replace E := E.ext ex
      replace B1 := B1.ext ex
      replace R2 := R2.ext ex
      skip
      refine wm_two 6 12 (by kernel_rfl) ?_ ?_
      · skip
        refine om_call rfl Try.func71 rfl rfl rfl (jn16_any R2.bs R3.bs (by omega) (by omega)) rfl ?_
        rintro e w4 ⟨A4, c4, rfl, R4, ex⟩
        refine ⟨_, rfl, .inr ex, ?_⟩
        replace E := E.ext ex
        replace B1 := B1.ext ex
        replace R2 := R2.ext ex
        replace R3 := R3.ext ex
        skip
        refine wm_two 9 12 (by kernel_rfl) ?_ ?_
        · skip
          refine om_call rfl Try.func73 rfl rfl rfl (rv_any (Bs.ext b2 E) (by omega)) rfl ?_
          rintro e w5 ⟨A5, k5, c5, rfl, R5, hk5, ex⟩
          refine ⟨_, rfl, .inr ex, ?_⟩
          replace E := E.ext ex
          replace B1 := B1.ext ex
          replace R4 := R4.ext ex
          skip
          refine wm_one 12 (by kernel_rfl) ?_; refine om_ef rfl (ef_lit (z := .int .u8 0) Try.underlying22 (by kernel_rfl) rfl rfl rfl rfl rfl) rfl ?_
          rintro _ w6 ⟨g6, rfl, B6, hg6, ex⟩
          refine ⟨.inr ex, ?_⟩
          replace E := E.ext ex
          replace B1 := B1.ext ex
          replace R4 := R4.ext ex
          replace R5 := R5.ext ex
          have H6 := bs_blk' (xs := [UInt8.ofNat l.src]) (B6.congr (by rfl)) rfl
          refine wm_one 13 (by kernel_rfl) ?_; refine om_call rfl Try.func71 rfl rfl rfl (jn16_any R5.bs H6 (by omega) (by omega)) rfl ?_
          rintro e w7 ⟨A7, c7, rfl, R7, ex⟩
          refine ⟨_, rfl, .inr ex, ?_⟩
          replace E := E.ext ex
          replace B1 := B1.ext ex
          replace R4 := R4.ext ex
          replace R5 := R5.ext ex
          replace H6 := H6.ext ex
          skip
          have hz14 := E.size
          refine wm_one 14 (by kernel_rfl) ?_; refine om_call rfl Try.func71 rfl rfl rfl (jn16_any R4.bs R7.bs (by omega) (by omega)) rfl ?_
          rintro e w8 ⟨A8, c8, rfl, R8, ex⟩
          refine ⟨_, rfl, .inr ex, ?_⟩
          replace E := E.ext ex
          replace B1 := B1.ext ex
          replace R4 := R4.ext ex
          replace R7 := R7.ext ex
          replace R8 := R8.lower hz14
          refine wm_y 15 rfl (by kernel_rfl) (y_assign rfl) rfl ?_
          refine wm_done (by kernel_rfl) ?_
          refine wq_nop ?_
          refine wq_then_norm (hK2 ?_)
          refine wc_seq ?_; intro K3 hK3
          refine wc_seq ?_; intro K4 hK4
          refine wc_region ?_
          refine wl_y (y_fieldAddr (o := 3) (s := 1) (off := 0) (o' := 3) rfl Try.underlying25 rfl (by kernel_rfl) rfl rfl) rfl ?_
          refine wl_y (y_load1 rfl Try.underlying5 rfl (B1.get (i := 3) rfl)) rfl ?_
          refine wl_y (y_eql rfl rfl) rfl ?_
          refine wl_nil ?_
          refine wq_then_norm (hK4 ?_)
          refine wc_dec rfl (fun hc1 => ?_) (fun hc1 => ?_)
          · skip
            refine wc_region ?_
            refine wl_y (y_move rfl) rfl ?_
            refine wl_y (y_fieldAddr (o := 4) (s := 1) (off := 0) (o' := 4) rfl Try.underlying25 rfl (by kernel_rfl) rfl rfl) rfl ?_
            refine wl_y (y_load1 rfl Try.underlying22 rfl (B1.get (i := 4) rfl)) rfl ?_
            refine wl_call Try.func73 rfl rfl rfl (rv_any (Bs.ext b4 E) (by omega)) rfl ?_
            rintro e w9 ⟨A9, k9, c9, rfl, R9, hk9, ex⟩
            refine ⟨_, rfl, ?_⟩
            replace E := E.ext ex
            replace B1 := B1.ext ex
            replace R8 := R8.ext ex
            skip
            have hz34 := E.size
            refine wl_call Try.func71 rfl rfl rfl (jn16_any R8.bs R9.bs (by omega) (by omega)) rfl ?_
            rintro e w10 ⟨A10, c10, rfl, R10, ex⟩
            refine ⟨_, rfl, ?_⟩
            replace E := E.ext ex
            replace B1 := B1.ext ex
            replace R8 := R8.ext ex
            replace R9 := R9.ext ex
            skip
            refine wl_y (y_assign rfl) rfl ?_
            refine wl_nil ?_
            refine wq_then_norm (hK3 ?_)
            refine wc_seq ?_; intro K5 hK5
            refine wc_region ?_
            refine wl_y (y_move rfl) rfl ?_
            refine wl_y (y_assign rfl) rfl ?_
            refine wl_nil ?_
            refine wq_then_norm (hK5 ?_)
            refine wc_ret ?_
            refine hret rfl ?_
            exact ⟨A10, _, c10, rfl, (R10.lower hz34).congr rfl (by unfold leafU; rw [if_pos (by omega)]; simp only [List.append_assoc]), E⟩
          · skip
            refine wc_skip ?_
            refine wq_then_norm (hK3 ?_)
            refine wc_seq ?_; intro K6 hK6
            refine wc_region ?_
            refine wl_y (y_move rfl) rfl ?_
            refine wl_y (y_assign rfl) rfl ?_
            refine wl_nil ?_
            refine wq_then_norm (hK6 ?_)
            refine wc_ret ?_
            refine hret rfl ?_
            exact ⟨A8, _, c8, rfl, R8.congr rfl (by unfold leafU; rw [if_neg (by omega)]; simp only [List.append_assoc, List.append_nil]), E⟩
        · skip
          refine om_ef rfl (ef_lit (z := .int .u8 0) Try.underlying22 (by kernel_rfl) rfl rfl rfl rfl rfl) rfl ?_
          rintro _ w6 ⟨g6, rfl, B6, hg6, ex⟩
          refine ⟨.inr ex, ?_⟩
          replace E := E.ext ex
          replace B1 := B1.ext ex
          replace R4 := R4.ext ex
          have H6 := bs_blk' (xs := [UInt8.ofNat l.src]) (B6.congr (by rfl)) rfl
          refine wm_one 9 (by kernel_rfl) ?_; refine om_call rfl Try.func73 rfl rfl rfl (rv_any (Bs.ext b2 E) (by omega)) rfl ?_
          rintro e w5 ⟨A5, k5, c5, rfl, R5, hk5, ex⟩
          refine ⟨_, rfl, .inr ex, ?_⟩
          replace E := E.ext ex
          replace B1 := B1.ext ex
          replace R4 := R4.ext ex
          replace H6 := H6.ext ex
          skip
          refine wm_one 13 (by kernel_rfl) ?_; refine om_call rfl Try.func71 rfl rfl rfl (jn16_any R5.bs H6 (by omega) (by omega)) rfl ?_
          rintro e w7 ⟨A7, c7, rfl, R7, ex⟩
          refine ⟨_, rfl, .inr ex, ?_⟩
          replace E := E.ext ex
          replace B1 := B1.ext ex
          replace R4 := R4.ext ex
          replace H6 := H6.ext ex
          replace R5 := R5.ext ex
          skip
          have hz14 := E.size
          refine wm_one 14 (by kernel_rfl) ?_; refine om_call rfl Try.func71 rfl rfl rfl (jn16_any R4.bs R7.bs (by omega) (by omega)) rfl ?_
          rintro e w8 ⟨A8, c8, rfl, R8, ex⟩
          refine ⟨_, rfl, .inr ex, ?_⟩
          replace E := E.ext ex
          replace B1 := B1.ext ex
          replace R4 := R4.ext ex
          replace R7 := R7.ext ex
          replace R8 := R8.lower hz14
          refine wm_y 15 rfl (by kernel_rfl) (y_assign rfl) rfl ?_
          refine wm_done (by kernel_rfl) ?_
          refine wq_nop ?_
          refine wq_then_norm (hK2 ?_)
          refine wc_seq ?_; intro K7 hK7
          refine wc_seq ?_; intro K8 hK8
          refine wc_region ?_
          refine wl_y (y_fieldAddr (o := 3) (s := 1) (off := 0) (o' := 3) rfl Try.underlying25 rfl (by kernel_rfl) rfl rfl) rfl ?_
          refine wl_y (y_load1 rfl Try.underlying5 rfl (B1.get (i := 3) rfl)) rfl ?_
          refine wl_y (y_eql rfl rfl) rfl ?_
          refine wl_nil ?_
          refine wq_then_norm (hK8 ?_)
          refine wc_dec rfl (fun hc1 => ?_) (fun hc1 => ?_)
          · skip
            refine wc_region ?_
            refine wl_y (y_move rfl) rfl ?_
            refine wl_y (y_fieldAddr (o := 4) (s := 1) (off := 0) (o' := 4) rfl Try.underlying25 rfl (by kernel_rfl) rfl rfl) rfl ?_
            refine wl_y (y_load1 rfl Try.underlying22 rfl (B1.get (i := 4) rfl)) rfl ?_
            refine wl_call Try.func73 rfl rfl rfl (rv_any (Bs.ext b4 E) (by omega)) rfl ?_
            rintro e w9 ⟨A9, k9, c9, rfl, R9, hk9, ex⟩
            refine ⟨_, rfl, ?_⟩
            replace E := E.ext ex
            replace B1 := B1.ext ex
            replace R8 := R8.ext ex
            skip
            have hz34 := E.size
            refine wl_call Try.func71 rfl rfl rfl (jn16_any R8.bs R9.bs (by omega) (by omega)) rfl ?_
            rintro e w10 ⟨A10, c10, rfl, R10, ex⟩
            refine ⟨_, rfl, ?_⟩
            replace E := E.ext ex
            replace B1 := B1.ext ex
            replace R8 := R8.ext ex
            replace R9 := R9.ext ex
            skip
            refine wl_y (y_assign rfl) rfl ?_
            refine wl_nil ?_
            refine wq_then_norm (hK7 ?_)
            refine wc_seq ?_; intro K9 hK9
            refine wc_region ?_
            refine wl_y (y_move rfl) rfl ?_
            refine wl_y (y_assign rfl) rfl ?_
            refine wl_nil ?_
            refine wq_then_norm (hK9 ?_)
            refine wc_ret ?_
            refine hret rfl ?_
            exact ⟨A10, _, c10, rfl, (R10.lower hz34).congr rfl (by unfold leafU; rw [if_pos (by omega)]; simp only [List.append_assoc]), E⟩
          · skip
            refine wc_skip ?_
            refine wq_then_norm (hK7 ?_)
            refine wc_seq ?_; intro K10 hK10
            refine wc_region ?_
            refine wl_y (y_move rfl) rfl ?_
            refine wl_y (y_assign rfl) rfl ?_
            refine wl_nil ?_
            refine wq_then_norm (hK10 ?_)
            refine wc_ret ?_
            refine hret rfl ?_
            exact ⟨A8, _, c8, rfl, R8.congr rfl (by unfold leafU; rw [if_neg (by omega)]; simp only [List.append_assoc, List.append_nil]), E⟩
      · skip
        refine om_ef rfl (ef_lit (z := .int .u8 0) Try.underlying22 (by kernel_rfl) rfl rfl rfl rfl rfl) rfl ?_
        rintro _ w6 ⟨g6, rfl, B6, hg6, ex⟩
        refine ⟨.inr ex, ?_⟩
        replace E := E.ext ex
        replace B1 := B1.ext ex
        replace R2 := R2.ext ex
        replace R3 := R3.ext ex
        have H6 := bs_blk' (xs := [UInt8.ofNat l.src]) (B6.congr (by rfl)) rfl
        refine wm_one 6 (by kernel_rfl) ?_; refine om_call rfl Try.func71 rfl rfl rfl (jn16_any R2.bs R3.bs (by omega) (by omega)) rfl ?_
        rintro e w4 ⟨A4, c4, rfl, R4, ex⟩
        refine ⟨_, rfl, .inr ex, ?_⟩
        replace E := E.ext ex
        replace B1 := B1.ext ex
        replace R2 := R2.ext ex
        replace R3 := R3.ext ex
        replace H6 := H6.ext ex
        skip
        refine wm_one 9 (by kernel_rfl) ?_; refine om_call rfl Try.func73 rfl rfl rfl (rv_any (Bs.ext b2 E) (by omega)) rfl ?_
        rintro e w5 ⟨A5, k5, c5, rfl, R5, hk5, ex⟩
        refine ⟨_, rfl, .inr ex, ?_⟩
        replace E := E.ext ex
        replace B1 := B1.ext ex
        replace H6 := H6.ext ex
        replace R4 := R4.ext ex
        skip
        refine wm_one 13 (by kernel_rfl) ?_; refine om_call rfl Try.func71 rfl rfl rfl (jn16_any R5.bs H6 (by omega) (by omega)) rfl ?_
        rintro e w7 ⟨A7, c7, rfl, R7, ex⟩
        refine ⟨_, rfl, .inr ex, ?_⟩
        replace E := E.ext ex
        replace B1 := B1.ext ex
        replace H6 := H6.ext ex
        replace R4 := R4.ext ex
        replace R5 := R5.ext ex
        skip
        have hz14 := E.size
        refine wm_one 14 (by kernel_rfl) ?_; refine om_call rfl Try.func71 rfl rfl rfl (jn16_any R4.bs R7.bs (by omega) (by omega)) rfl ?_
        rintro e w8 ⟨A8, c8, rfl, R8, ex⟩
        refine ⟨_, rfl, .inr ex, ?_⟩
        replace E := E.ext ex
        replace B1 := B1.ext ex
        replace R4 := R4.ext ex
        replace R7 := R7.ext ex
        replace R8 := R8.lower hz14
        refine wm_y 15 rfl (by kernel_rfl) (y_assign rfl) rfl ?_
        refine wm_done (by kernel_rfl) ?_
        refine wq_nop ?_
        refine wq_then_norm (hK2 ?_)
        refine wc_seq ?_; intro K11 hK11
        refine wc_seq ?_; intro K12 hK12
        refine wc_region ?_
        refine wl_y (y_fieldAddr (o := 3) (s := 1) (off := 0) (o' := 3) rfl Try.underlying25 rfl (by kernel_rfl) rfl rfl) rfl ?_
        refine wl_y (y_load1 rfl Try.underlying5 rfl (B1.get (i := 3) rfl)) rfl ?_
        refine wl_y (y_eql rfl rfl) rfl ?_
        refine wl_nil ?_
        refine wq_then_norm (hK12 ?_)
        refine wc_dec rfl (fun hc1 => ?_) (fun hc1 => ?_)
        · skip
          refine wc_region ?_
          refine wl_y (y_move rfl) rfl ?_
          refine wl_y (y_fieldAddr (o := 4) (s := 1) (off := 0) (o' := 4) rfl Try.underlying25 rfl (by kernel_rfl) rfl rfl) rfl ?_
          refine wl_y (y_load1 rfl Try.underlying22 rfl (B1.get (i := 4) rfl)) rfl ?_
          refine wl_call Try.func73 rfl rfl rfl (rv_any (Bs.ext b4 E) (by omega)) rfl ?_
          rintro e w9 ⟨A9, k9, c9, rfl, R9, hk9, ex⟩
          refine ⟨_, rfl, ?_⟩
          replace E := E.ext ex
          replace B1 := B1.ext ex
          replace R8 := R8.ext ex
          skip
          have hz34 := E.size
          refine wl_call Try.func71 rfl rfl rfl (jn16_any R8.bs R9.bs (by omega) (by omega)) rfl ?_
          rintro e w10 ⟨A10, c10, rfl, R10, ex⟩
          refine ⟨_, rfl, ?_⟩
          replace E := E.ext ex
          replace B1 := B1.ext ex
          replace R8 := R8.ext ex
          replace R9 := R9.ext ex
          skip
          refine wl_y (y_assign rfl) rfl ?_
          refine wl_nil ?_
          refine wq_then_norm (hK11 ?_)
          refine wc_seq ?_; intro K13 hK13
          refine wc_region ?_
          refine wl_y (y_move rfl) rfl ?_
          refine wl_y (y_assign rfl) rfl ?_
          refine wl_nil ?_
          refine wq_then_norm (hK13 ?_)
          refine wc_ret ?_
          refine hret rfl ?_
          exact ⟨A10, _, c10, rfl, (R10.lower hz34).congr rfl (by unfold leafU; rw [if_pos (by omega)]; simp only [List.append_assoc]), E⟩
        · skip
          refine wc_skip ?_
          refine wq_then_norm (hK11 ?_)
          refine wc_seq ?_; intro K14 hK14
          refine wc_region ?_
          refine wl_y (y_move rfl) rfl ?_
          refine wl_y (y_assign rfl) rfl ?_
          refine wl_nil ?_
          refine wq_then_norm (hK14 ?_)
          refine wc_ret ?_
          refine hret rfl ?_
          exact ⟨A8, _, c8, rfl, R8.congr rfl (by unfold leafU; rw [if_neg (by omega)]; simp only [List.append_assoc, List.append_nil]), E⟩
    · skip
      refine om_ef rfl (ef_lit (z := .int .u8 0) Try.underlying22 (by kernel_rfl) rfl rfl rfl rfl rfl) rfl ?_
      rintro _ w6 ⟨g6, rfl, B6, hg6, ex⟩
      refine ⟨.inr ex, ?_⟩
      replace E := E.ext ex
      replace B1 := B1.ext ex
      replace R2 := R2.ext ex
      have H6 := bs_blk' (xs := [UInt8.ofNat l.src]) (B6.congr (by rfl)) rfl
      refine wm_one 5 (by kernel_rfl) ?_; refine om_call rfl Try.func73 rfl rfl rfl (rv_any (Bs.ext b1 E) (by omega)) rfl ?_
      rintro e w3 ⟨A3, k3, c3, rfl, R3, hk3, ex⟩
      refine ⟨_, rfl, .inr ex, ?_⟩
      replace E := E.ext ex
      replace B1 := B1.ext ex
      replace R2 := R2.ext ex
      replace H6 := H6.ext ex
      skip
      refine wm_one 6 (by kernel_rfl) ?_; refine om_call rfl Try.func71 rfl rfl rfl (jn16_any R2.bs R3.bs (by omega) (by omega)) rfl ?_
      rintro e w4 ⟨A4, c4, rfl, R4, ex⟩
      refine ⟨_, rfl, .inr ex, ?_⟩
      replace E := E.ext ex
      replace B1 := B1.ext ex
      replace R2 := R2.ext ex
      replace H6 := H6.ext ex
      replace R3 := R3.ext ex
      skip
      refine wm_one 9 (by kernel_rfl) ?_; refine om_call rfl Try.func73 rfl rfl rfl (rv_any (Bs.ext b2 E) (by omega)) rfl ?_
      rintro e w5 ⟨A5, k5, c5, rfl, R5, hk5, ex⟩
      refine ⟨_, rfl, .inr ex, ?_⟩
      replace E := E.ext ex
      replace B1 := B1.ext ex
      replace H6 := H6.ext ex
      replace R4 := R4.ext ex
      skip
      refine wm_one 13 (by kernel_rfl) ?_; refine om_call rfl Try.func71 rfl rfl rfl (jn16_any R5.bs H6 (by omega) (by omega)) rfl ?_
      rintro e w7 ⟨A7, c7, rfl, R7, ex⟩
      refine ⟨_, rfl, .inr ex, ?_⟩
      replace E := E.ext ex
      replace B1 := B1.ext ex
      replace H6 := H6.ext ex
      replace R4 := R4.ext ex
      replace R5 := R5.ext ex
      skip
      have hz14 := E.size
      refine wm_one 14 (by kernel_rfl) ?_; refine om_call rfl Try.func71 rfl rfl rfl (jn16_any R4.bs R7.bs (by omega) (by omega)) rfl ?_
      rintro e w8 ⟨A8, c8, rfl, R8, ex⟩
      refine ⟨_, rfl, .inr ex, ?_⟩
      replace E := E.ext ex
      replace B1 := B1.ext ex
      replace R4 := R4.ext ex
      replace R7 := R7.ext ex
      replace R8 := R8.lower hz14
      refine wm_y 15 rfl (by kernel_rfl) (y_assign rfl) rfl ?_
      refine wm_done (by kernel_rfl) ?_
      refine wq_nop ?_
      refine wq_then_norm (hK2 ?_)
      refine wc_seq ?_; intro K15 hK15
      refine wc_seq ?_; intro K16 hK16
      refine wc_region ?_
      refine wl_y (y_fieldAddr (o := 3) (s := 1) (off := 0) (o' := 3) rfl Try.underlying25 rfl (by kernel_rfl) rfl rfl) rfl ?_
      refine wl_y (y_load1 rfl Try.underlying5 rfl (B1.get (i := 3) rfl)) rfl ?_
      refine wl_y (y_eql rfl rfl) rfl ?_
      refine wl_nil ?_
      refine wq_then_norm (hK16 ?_)
      refine wc_dec rfl (fun hc1 => ?_) (fun hc1 => ?_)
      · skip
        refine wc_region ?_
        refine wl_y (y_move rfl) rfl ?_
        refine wl_y (y_fieldAddr (o := 4) (s := 1) (off := 0) (o' := 4) rfl Try.underlying25 rfl (by kernel_rfl) rfl rfl) rfl ?_
        refine wl_y (y_load1 rfl Try.underlying22 rfl (B1.get (i := 4) rfl)) rfl ?_
        refine wl_call Try.func73 rfl rfl rfl (rv_any (Bs.ext b4 E) (by omega)) rfl ?_
        rintro e w9 ⟨A9, k9, c9, rfl, R9, hk9, ex⟩
        refine ⟨_, rfl, ?_⟩
        replace E := E.ext ex
        replace B1 := B1.ext ex
        replace R8 := R8.ext ex
        skip
        have hz34 := E.size
        refine wl_call Try.func71 rfl rfl rfl (jn16_any R8.bs R9.bs (by omega) (by omega)) rfl ?_
        rintro e w10 ⟨A10, c10, rfl, R10, ex⟩
        refine ⟨_, rfl, ?_⟩
        replace E := E.ext ex
        replace B1 := B1.ext ex
        replace R8 := R8.ext ex
        replace R9 := R9.ext ex
        skip
        refine wl_y (y_assign rfl) rfl ?_
        refine wl_nil ?_
        refine wq_then_norm (hK15 ?_)
        refine wc_seq ?_; intro K17 hK17
        refine wc_region ?_
        refine wl_y (y_move rfl) rfl ?_
        refine wl_y (y_assign rfl) rfl ?_
        refine wl_nil ?_
        refine wq_then_norm (hK17 ?_)
        refine wc_ret ?_
        refine hret rfl ?_
        exact ⟨A10, _, c10, rfl, (R10.lower hz34).congr rfl (by unfold leafU; rw [if_pos (by omega)]; simp only [List.append_assoc]), E⟩
      · skip
        refine wc_skip ?_
        refine wq_then_norm (hK15 ?_)
        refine wc_seq ?_; intro K18 hK18
        refine wc_region ?_
        refine wl_y (y_move rfl) rfl ?_
        refine wl_y (y_assign rfl) rfl ?_
        refine wl_nil ?_
        refine wq_then_norm (hK18 ?_)
        refine wc_ret ?_
        refine hret rfl ?_
        exact ⟨A8, _, c8, rfl, R8.congr rfl (by unfold leafU; rw [if_neg (by omega)]; simp only [List.append_assoc, List.append_nil]), E⟩
  · skip
    refine om_ef rfl (ef_lit (z := .int .u8 0) Try.underlying22 (by kernel_rfl) rfl rfl rfl rfl rfl) rfl ?_
    rintro _ w6 ⟨g6, rfl, B6, hg6, ex⟩
    refine ⟨.inr ex, ?_⟩
    replace E := E.ext ex
    replace B1 := B1.ext ex
    have H6 := bs_blk' (xs := [UInt8.ofNat l.src]) (B6.congr (by rfl)) rfl
    refine wm_one 2 (by kernel_rfl) ?_; refine om_call rfl Try.func73 rfl rfl rfl (rv_any (Bs.ext b0 E) (by omega)) rfl ?_
    rintro e w2 ⟨A2, k2, c2, rfl, R2, hk2, ex⟩
    refine ⟨_, rfl, .inr ex, ?_⟩
    replace E := E.ext ex
    replace B1 := B1.ext ex
    replace H6 := H6.ext ex
    skip
    refine wm_one 5 (by kernel_rfl) ?_; refine om_call rfl Try.func73 rfl rfl rfl (rv_any (Bs.ext b1 E) (by omega)) rfl ?_
    rintro e w3 ⟨A3, k3, c3, rfl, R3, hk3, ex⟩
    refine ⟨_, rfl, .inr ex, ?_⟩
    replace E := E.ext ex
    replace B1 := B1.ext ex
    replace H6 := H6.ext ex
    replace R2 := R2.ext ex
    skip
    refine wm_one 6 (by kernel_rfl) ?_; refine om_call rfl Try.func71 rfl rfl rfl (jn16_any R2.bs R3.bs (by omega) (by omega)) rfl ?_
    rintro e w4 ⟨A4, c4, rfl, R4, ex⟩
    refine ⟨_, rfl, .inr ex, ?_⟩
    replace E := E.ext ex
    replace B1 := B1.ext ex
    replace H6 := H6.ext ex
    replace R2 := R2.ext ex
    replace R3 := R3.ext ex
    skip
    refine wm_one 9 (by kernel_rfl) ?_; refine om_call rfl Try.func73 rfl rfl rfl (rv_any (Bs.ext b2 E) (by omega)) rfl ?_
    rintro e w5 ⟨A5, k5, c5, rfl, R5, hk5, ex⟩
    refine ⟨_, rfl, .inr ex, ?_⟩
    replace E := E.ext ex
    replace B1 := B1.ext ex
    replace H6 := H6.ext ex
    replace R4 := R4.ext ex
    skip
    refine wm_one 13 (by kernel_rfl) ?_; refine om_call rfl Try.func71 rfl rfl rfl (jn16_any R5.bs H6 (by omega) (by omega)) rfl ?_
    rintro e w7 ⟨A7, c7, rfl, R7, ex⟩
    refine ⟨_, rfl, .inr ex, ?_⟩
    replace E := E.ext ex
    replace B1 := B1.ext ex
    replace H6 := H6.ext ex
    replace R4 := R4.ext ex
    replace R5 := R5.ext ex
    skip
    have hz14 := E.size
    refine wm_one 14 (by kernel_rfl) ?_; refine om_call rfl Try.func71 rfl rfl rfl (jn16_any R4.bs R7.bs (by omega) (by omega)) rfl ?_
    rintro e w8 ⟨A8, c8, rfl, R8, ex⟩
    refine ⟨_, rfl, .inr ex, ?_⟩
    replace E := E.ext ex
    replace B1 := B1.ext ex
    replace R4 := R4.ext ex
    replace R7 := R7.ext ex
    replace R8 := R8.lower hz14
    refine wm_y 15 rfl (by kernel_rfl) (y_assign rfl) rfl ?_
    refine wm_done (by kernel_rfl) ?_
    refine wq_nop ?_
    refine wq_then_norm (hK2 ?_)
    refine wc_seq ?_; intro K19 hK19
    refine wc_seq ?_; intro K20 hK20
    refine wc_region ?_
    refine wl_y (y_fieldAddr (o := 3) (s := 1) (off := 0) (o' := 3) rfl Try.underlying25 rfl (by kernel_rfl) rfl rfl) rfl ?_
    refine wl_y (y_load1 rfl Try.underlying5 rfl (B1.get (i := 3) rfl)) rfl ?_
    refine wl_y (y_eql rfl rfl) rfl ?_
    refine wl_nil ?_
    refine wq_then_norm (hK20 ?_)
    refine wc_dec rfl (fun hc1 => ?_) (fun hc1 => ?_)
    · skip
      refine wc_region ?_
      refine wl_y (y_move rfl) rfl ?_
      refine wl_y (y_fieldAddr (o := 4) (s := 1) (off := 0) (o' := 4) rfl Try.underlying25 rfl (by kernel_rfl) rfl rfl) rfl ?_
      refine wl_y (y_load1 rfl Try.underlying22 rfl (B1.get (i := 4) rfl)) rfl ?_
      refine wl_call Try.func73 rfl rfl rfl (rv_any (Bs.ext b4 E) (by omega)) rfl ?_
      rintro e w9 ⟨A9, k9, c9, rfl, R9, hk9, ex⟩
      refine ⟨_, rfl, ?_⟩
      replace E := E.ext ex
      replace B1 := B1.ext ex
      replace R8 := R8.ext ex
      skip
      have hz34 := E.size
      refine wl_call Try.func71 rfl rfl rfl (jn16_any R8.bs R9.bs (by omega) (by omega)) rfl ?_
      rintro e w10 ⟨A10, c10, rfl, R10, ex⟩
      refine ⟨_, rfl, ?_⟩
      replace E := E.ext ex
      replace B1 := B1.ext ex
      replace R8 := R8.ext ex
      replace R9 := R9.ext ex
      skip
      refine wl_y (y_assign rfl) rfl ?_
      refine wl_nil ?_
      refine wq_then_norm (hK19 ?_)
      refine wc_seq ?_; intro K21 hK21
      refine wc_region ?_
      refine wl_y (y_move rfl) rfl ?_
      refine wl_y (y_assign rfl) rfl ?_
      refine wl_nil ?_
      refine wq_then_norm (hK21 ?_)
      refine wc_ret ?_
      refine hret rfl ?_
      exact ⟨A10, _, c10, rfl, (R10.lower hz34).congr rfl (by unfold leafU; rw [if_pos (by omega)]; simp only [List.append_assoc]), E⟩
    · skip
      refine wc_skip ?_
      refine wq_then_norm (hK19 ?_)
      refine wc_seq ?_; intro K22 hK22
      refine wc_region ?_
      refine wl_y (y_move rfl) rfl ?_
      refine wl_y (y_assign rfl) rfl ?_
      refine wl_nil ?_
      refine wq_then_norm (hK22 ?_)
      refine wc_ret ?_
      refine hret rfl ?_
      exact ⟨A8, _, c8, rfl, R8.congr rfl (by unfold leafU; rw [if_neg (by omega)]; simp only [List.append_assoc, List.append_nil]), E⟩
theorem rleafBytes_any {cs : Array Value} {l : Leaf} (w : World) (H : LeafAt w cs l) (hf : l.Fit) :
    Calls Try.prog 26 #[.agg cs] w fun e w' => ∃ A' k c', e = .returned (.slice A' k c') ∧ Row w' w.heap.size 5 A' k c' ((leafB l).map bv) ∧ Ext w w' := by
  have HH := H
  have hU := leafU_le hf
  obtain ⟨h0, h1, h2, h4, h5, rfl, hs, b0, b1, b2, b4, b5⟩ := H
  have l5 := b5.1
  have f5 := hf.2.2.2.2
  have E := Ext.refl w
  refine vc_enter1 9 Try.func26 rfl rfl rfl rfl ?_
  intro Q hret
  refine wc_seq ?_; intro K1 hK1
  refine wc_region ?_
  refine wl_ef (ef_box rfl rfl) rfl ?_
  rintro _ wB1 ⟨gB1, rfl, B1, hgB1, ex⟩
  have lB1 := B1.lt; have zB1 := ex.size
  replace E := E.ext ex
  refine wl_y (y_assign rfl) rfl ?_
  refine wl_nil ?_
  refine wq_then_norm (hK1 ?_)
  refine wc_seq ?_; intro K2 hK2
  refine wc_draw (by kernel_rfl) 7 rfl ?_; intro wd1 ex hd1
  replace E := E.ext ex
  replace B1 := B1.ext ex
  refine wm_y 0 rfl (by kernel_rfl) (y_loadx (o := 0) (s := 6) rfl Try.underlying25 rfl (by kernel_rfl) B1 rfl) rfl ?_
  refine wm_y 2 rfl (by kernel_rfl) (y_fieldAddr (o := 5) (s := 1) (off := 0) (o' := 5) rfl Try.underlying25 rfl (by kernel_rfl) rfl rfl) rfl ?_
  refine wm_y 3 rfl (by kernel_rfl) (y_load1 rfl Try.underlying22 rfl (B1.get (i := 5) rfl)) rfl ?_
  refine wm_one 1 (by kernel_rfl) ?_; refine om_call rfl Try.func72 rfl rfl rfl (ahead_any _ (HH.ext E) hf) rfl ?_
  rintro e w2 ⟨A2, k2, c2, rfl, R2, ex⟩
  refine ⟨_, rfl, .inr ex, ?_⟩
  replace E := E.ext ex
  replace B1 := B1.ext ex
  have hk2 := R2.bs.1
  refine wm_one 4 (by kernel_rfl) ?_; refine om_call rfl Try.func73 rfl rfl rfl (rv_any (Bs.ext b5 E) (by omega)) rfl ?_
  rintro e w3 ⟨A3, k3, c3, rfl, R3, hk3, ex⟩
  refine ⟨_, rfl, .inr ex, ?_⟩
  replace E := E.ext ex
  replace B1 := B1.ext ex
  replace R2 := R2.ext ex
  skip
  have hz5 := E.size
  refine wm_one 5 (by kernel_rfl) ?_; refine om_call rfl Try.func71 rfl rfl rfl (jn16_any R2.bs R3.bs (by omega) (by omega)) rfl ?_
  rintro e w4 ⟨A4, c4, rfl, R4, ex⟩
  refine ⟨_, rfl, .inr ex, ?_⟩
  replace E := E.ext ex
  replace B1 := B1.ext ex
  replace R2 := R2.ext ex
  replace R3 := R3.ext ex
  skip
  refine wm_y 6 rfl (by kernel_rfl) (y_assign rfl) rfl ?_
  refine wm_done (by kernel_rfl) ?_
  refine wq_nop ?_
  refine wq_then_norm (hK2 ?_)
  refine wc_ret ?_
  refine hret rfl ?_
  exact ⟨A4, _, c4, rfl, R4.lower hz5, E⟩
theorem rbytes16_any {cs : Array Value} {n : Node} (w : World) (H : NodeAt w cs n) (hf : n.Fit) (ok : okNode n) :
    Calls Try.prog 28 #[.agg cs] w fun e w' => ∃ A' k c', e = .returned (.slice A' k c') ∧ Row w' w.heap.size 5 A' k c' ((nodeB n).map bv) ∧ Ext w w' := by
  obtain ⟨hk, _, _, HL, HP⟩ := NodeC.parts H
  replace HL : LeafAt w _ n.leaf := HL
  obtain ⟨h0, h1, h2, h4, h5, p0, p1, ⟨A2, n2, c2⟩, rfl, _, hs, b0, b1, b2, b4, b5, q0', q1', q2'⟩ := H
  replace q2' : Zs w A2 n2 n.par.late := q2'
  have m0 := q0'.1; have m1 := q1'.1; have m2 : n.par.late.length = n2 := q2'.1
  have hn' : (⟨A2, n2, c2⟩ : Hd).n = n2 := rfl
  have hB := leafB_le hf.1
  obtain ⟨fl, f0, f1, f2⟩ := id hf
  have hll := lateB_length n.par.late
  have E := Ext.refl w
  refine vc_enter1 49 Try.func28 rfl rfl rfl rfl ?_
  intro Q hret
  refine wc_seq ?_; intro K1 hK1
  refine wc_region ?_
  refine wl_ef (ef_box rfl rfl) rfl ?_
  rintro _ wB1 ⟨gB1, rfl, B1, hgB1, ex⟩
  have lB1 := B1.lt; have zB1 := ex.size
  replace E := E.ext ex
  refine wl_y (y_assign rfl) rfl ?_
  refine wl_nil ?_
  refine wq_then_norm (hK1 ?_)
  refine wc_seq ?_; intro K2 hK2
  refine wc_seq ?_; intro K3 hK3
  refine wc_region ?_
  refine wl_y (y_fieldAddr (o := 0) (s := 1) (off := 0) (o' := 0) rfl Try.underlying30 rfl (by kernel_rfl) rfl rfl) rfl ?_
  refine wl_y (y_load1 rfl Try.underlying5 rfl (B1.get (i := 0) rfl)) rfl ?_
  refine wl_y (y_eql rfl rfl) rfl ?_
  refine wl_nil ?_
  refine wq_then_norm (hK3 ?_)
  refine wc_dec rfl (fun hc1 => ?_) (fun hc1 => ?_)
  · skip
    refine wc_seq ?_; intro K4 hK4
    refine wc_region ?_
    refine wl_ef (ef_lit (z := .int .u8 0) Try.underlying22 (by kernel_rfl) rfl rfl rfl rfl rfl) rfl ?_
    rintro _ w2 ⟨g2, rfl, B2, hg2, ex⟩
    replace E := E.ext ex
    replace B1 := B1.ext ex
    have H2 := bs_blk' (xs := [(1 : UInt8)]) (B2.congr (by rfl)) rfl
    refine wl_y (y_fieldAddr (o := 1) (s := 6) (off := 0) (o' := 1) rfl Try.underlying30 rfl (by kernel_rfl) rfl rfl) rfl ?_
    refine wl_y (y_loadx (o := 1) (s := 6) rfl Try.underlying25 rfl (by kernel_rfl) B1 rfl) rfl ?_
    refine wl_call Try.func26 rfl rfl rfl (rleafBytes_any _ (HL.ext E) fl) rfl ?_
    rintro e w3 ⟨A3, k3, c3, rfl, R3, ex⟩
    refine ⟨_, rfl, ?_⟩
    replace E := E.ext ex
    replace B1 := B1.ext ex
    replace H2 := H2.ext ex
    have hk3 := R3.bs.1
    have hz4 := E.size
    refine wl_call Try.func71 rfl rfl rfl (jn16_any H2 R3.bs (by omega) (by omega)) rfl ?_
    rintro e w4 ⟨A4, c4, rfl, R4, ex⟩
    refine ⟨_, rfl, ?_⟩
    replace E := E.ext ex
    replace B1 := B1.ext ex
    replace H2 := H2.ext ex
    replace R3 := R3.ext ex
    skip
    refine wl_y (y_assign rfl) rfl ?_
    refine wl_nil ?_
    refine wq_then_norm (hK4 ?_)
    refine wc_ret ?_
    refine wq_then_ret ?_
    refine hret rfl ?_
    exact ⟨A4, _, c4, rfl, (R4.lower hz4).congr rfl (by unfold nodeB; rw [if_pos (by omega), show n.kind = 1 by omega]; rfl), E⟩
  · skip
    refine wc_skip ?_
    refine wq_then_norm (hK2 ?_)
    refine wc_seq ?_; intro K5 hK5
    refine wc_seq ?_; intro K6 hK6
    refine wc_region ?_
    refine wl_y (y_fieldAddr (o := 0) (s := 1) (off := 0) (o' := 0) rfl Try.underlying30 rfl (by kernel_rfl) rfl rfl) rfl ?_
    refine wl_y (y_load1 rfl Try.underlying5 rfl (B1.get (i := 0) rfl)) rfl ?_
    refine wl_y (y_eql rfl rfl) rfl ?_
    refine wl_nil ?_
    refine wq_then_norm (hK6 ?_)
    refine wc_dec rfl (fun hc2 => ?_) (fun hc2 => ?_)
    · skip
      refine wc_seq ?_; intro K7 hK7
      have hpar : okPar n.par := by rcases ok with h | h | h <;> first | exact h.2.2 | (exfalso; omega)
      refine wc_region ?_
      refine wl_y (y_assign rfl) rfl ?_
      refine wl_nil ?_
      refine wq_then_norm (hK7 ?_)
      refine wc_seq ?_; intro K8 hK8
      refine wc_seq ?_; intro K9 hK9
      refine wc_region ?_
      refine wl_y (y_assign rfl) rfl ?_
      refine wl_nil ?_
      refine wq_then_norm (hK9 ?_)
      refine wc_block ?_
      refine wc_loop (fun n' L wr => ∃ (k e : Nat) (D : Option Addr), L = [(1, .pointer (some ⟨gB1, 0, none⟩)), (3, .slice D (4 * k) e), (4, .int .i64 (k : Int))] ∧ n' = n2 - k ∧ (k ≤ n2 ∧ Bs wr D (4 * k) (lateB (n.par.late.take k)) ∧ Ext w wr ∧ Blk wr gB1 30 (nodeV n.kind h0 h1 h2 n.leaf.src h4 h5 p0 p1 ⟨A2, n2, c2⟩))) _ _ ⟨0, 0, none, rfl, rfl, by omega, Bs.nil _ _, E, B1⟩ ⟨rfl, rfl, (by first | rfl | exact congrArg some (int_val (by omega))), trivial⟩ ?_
      rintro KL1 n' L wr ⟨k, e, D, rfl, rfl, hk', HD, E, B1⟩ hL1
      refine wc_seq ?_; intro K10 hK10
      refine wc_seq ?_; intro K11 hK11
      refine wc_region ?_
      refine wl_y (y_move rfl) rfl ?_
      refine wl_y (y_fieldAddr (o := 7) (s := 3) (off := 0) (o' := 7) rfl Try.underlying30 rfl (by kernel_rfl) rfl rfl) rfl ?_
      refine wl_y (y_fieldAddr (o := 2) (s := 1) (off := 7) (o' := 9) rfl Try.underlying28 rfl (by kernel_rfl) rfl rfl) rfl ?_
      refine wl_y (y_load1 rfl Try.underlying26 rfl (B1.get (i := 9) rfl)) rfl ?_
      refine wl_y (y_len_slice rfl Try.underlying26) rfl ?_
      refine wl_y (y_lss rfl rfl) rfl ?_
      refine wl_nil ?_
      refine wq_then_norm (hK11 ?_)
      refine wc_dec rfl (fun hc3 => ?_) (fun hc3 => ?_)
      · skip
        refine wc_skip ?_
        refine wq_then_norm (hK10 ?_)
        refine wc_seq ?_; intro K12 hK12
        refine wc_block ?_
        have hlt : k < n2 := by omega
        obtain ⟨b, off, rfl, _, hc, hb1, hb2⟩ := (q2'.ext E).get hlt
        have hbd := rising_bd (by omega) hpar.1 k (by omega)
        obtain ⟨z, hz⟩ := Int.eq_ofNat_of_zero_le hbd.1
        rw [hz] at hc
        refine wc_region ?_
        refine wl_y (y_move rfl) rfl ?_
        refine wl_y (y_fieldAddr (o := 7) (s := 3) (off := 0) (o' := 7) rfl Try.underlying30 rfl (by kernel_rfl) rfl rfl) rfl ?_
        refine wl_y (y_fieldAddr (o := 2) (s := 1) (off := 7) (o' := 9) rfl Try.underlying28 rfl (by kernel_rfl) rfl rfl) rfl ?_
        refine wl_y (y_load1 rfl Try.underlying26 rfl (B1.get (i := 9) rfl)) rfl ?_
        refine wl_y (y_move rfl) rfl ?_
        refine wl_y (y_ixs1 rfl rfl Try.underlying26 (by kernel_rfl) rfl (by omega)) rfl ?_
        refine wl_y (y_load1 rfl Try.underlying3 rfl hc) rfl ?_
        refine wl_y (y_conv rfl Try.underlying3 Try.underlying59 (IntWalk.u64_in _ ⟨by omega, by omega⟩)) rfl ?_
        refine wl_call Try.func74 rfl rfl rfl (refNum_any 4 z _ (by omega) (by omega)) rfl ?_
        rintro e w5 ⟨A5, c5, rfl, R5, ex⟩
        refine ⟨_, rfl, ?_⟩
        replace E := E.ext ex
        replace B1 := B1.ext ex
        replace HD := HD.ext ex
        skip
        refine wl_call Try.func71 rfl rfl rfl (jn16_any HD R5.bs (by omega) (by omega)) rfl ?_
        rintro e w6 ⟨A6, c6, rfl, R6, ex⟩
        refine ⟨_, rfl, ?_⟩
        replace E := E.ext ex
        replace B1 := B1.ext ex
        replace HD := HD.ext ex
        replace R5 := R5.ext ex
        have H6 := R6.bs
        refine wl_y (y_assign rfl) rfl ?_
        refine wl_nil ?_
        refine wq_blk_norm ?_
        refine wq_then_norm (hK12 ?_)
        refine wc_region ?_
        refine wl_y (y_move rfl) rfl ?_
        refine wl_y (y_add rfl rfl (i64_ok (by omega) (by omega))) rfl ?_
        refine wl_y (y_assign rfl) rfl ?_
        refine wl_nil ?_
        refine wq_then_norm ?_
        refine hL1 _ _ ⟨k + 1, c6, A6, rfl, rfl, by omega, by rw [lateB_snoc (by omega), hz]; exact H6, E, B1⟩ (by omega) ⟨rfl, rfl, (by first | rfl | exact congrArg some (int_val (by omega))), trivial⟩
      · skip
        refine wc_exit ?_
        refine wq_then_exit ?_
        refine wq_then_exit ?_
        refine wq_blk_hit ?_
        refine wq_then_norm (hK8 ?_)
        refine wc_seq ?_; intro K13 hK13
        obtain rfl : k = n2 := by omega
        rw [List.take_of_length_le (by omega)] at HD
        refine wc_draw (by kernel_rfl) 15 rfl ?_; intro wd9 ex hd9
        replace E := E.ext ex
        replace B1 := B1.ext ex
        replace HD := HD.ext ex
        refine wm_y 1 rfl (by kernel_rfl) (y_fieldAddr (o := 7) (s := 3) (off := 0) (o' := 7) rfl Try.underlying30 rfl (by kernel_rfl) rfl rfl) rfl ?_
        refine wm_y 2 rfl (by kernel_rfl) (y_fieldAddr (o := 0) (s := 1) (off := 7) (o' := 7) rfl Try.underlying28 rfl (by kernel_rfl) rfl rfl) rfl ?_
        refine wm_y 3 rfl (by kernel_rfl) (y_load1 rfl Try.underlying22 rfl (B1.get (i := 7) rfl)) rfl ?_
        refine wm_y 6 rfl (by kernel_rfl) (y_fieldAddr (o := 7) (s := 3) (off := 0) (o' := 7) rfl Try.underlying30 rfl (by kernel_rfl) rfl rfl) rfl ?_
        refine wm_y 7 rfl (by kernel_rfl) (y_fieldAddr (o := 1) (s := 1) (off := 7) (o' := 8) rfl Try.underlying28 rfl (by kernel_rfl) rfl rfl) rfl ?_
        refine wm_y 8 rfl (by kernel_rfl) (y_load1 rfl Try.underlying22 rfl (B1.get (i := 8) rfl)) rfl ?_
        refine wm_y 10 rfl (by kernel_rfl) (y_move rfl) rfl ?_
        refine wm_two 0 4 (by kernel_rfl) ?_ ?_
        · skip
          refine om_ef rfl (ef_lit (z := .int .u8 0) Try.underlying22 (by kernel_rfl) rfl rfl rfl rfl rfl) rfl ?_
          rintro _ w7 ⟨g7, rfl, B7, hg7, ex⟩
          refine ⟨.inr ex, ?_⟩
          replace E := E.ext ex
          replace B1 := B1.ext ex
          replace HD := HD.ext ex
          have H7 := bs_blk' (xs := [(2 : UInt8)]) (B7.congr (by rfl)) rfl
          refine wm_one 4 (by kernel_rfl) ?_; refine om_call rfl Try.func73 rfl rfl rfl (rv_any (Bs.ext q0' E) (by omega)) rfl ?_
          rintro e w8 ⟨A8, k8, c8, rfl, R8, hk8, ex⟩
          refine ⟨_, rfl, .inr ex, ?_⟩
          replace E := E.ext ex
          replace B1 := B1.ext ex
          replace HD := HD.ext ex
          replace H7 := H7.ext ex
          skip
          refine wm_one 5 (by kernel_rfl) ?_; refine om_call rfl Try.func71 rfl rfl rfl (jn16_any H7 R8.bs (by omega) (by omega)) rfl ?_
          rintro e w9 ⟨A9, c9, rfl, R9, ex⟩
          refine ⟨_, rfl, .inr ex, ?_⟩
          replace E := E.ext ex
          replace B1 := B1.ext ex
          replace HD := HD.ext ex
          replace H7 := H7.ext ex
          replace R8 := R8.ext ex
          skip
          refine wm_one 9 (by kernel_rfl) ?_; refine om_call rfl Try.func73 rfl rfl rfl (rv_any (Bs.ext q1' E) (by omega)) rfl ?_
          rintro e w10 ⟨A10, k10, c10, rfl, R10, hk10, ex⟩
          refine ⟨_, rfl, .inr ex, ?_⟩
          replace E := E.ext ex
          replace B1 := B1.ext ex
          replace HD := HD.ext ex
          replace R9 := R9.ext ex
          skip
          refine wm_one 11 (by kernel_rfl) ?_; refine om_call rfl Try.func73 rfl rfl rfl (rv_any HD (by omega)) rfl ?_
          rintro e w11 ⟨A11, k11, c11, rfl, R11, hk11, ex⟩
          refine ⟨_, rfl, .inr ex, ?_⟩
          replace E := E.ext ex
          replace B1 := B1.ext ex
          replace HD := HD.ext ex
          replace R9 := R9.ext ex
          replace R10 := R10.ext ex
          skip
          refine wm_one 12 (by kernel_rfl) ?_; refine om_call rfl Try.func71 rfl rfl rfl (jn16_any R10.bs R11.bs (by omega) (by omega)) rfl ?_
          rintro e w12 ⟨A12, c12, rfl, R12, ex⟩
          refine ⟨_, rfl, .inr ex, ?_⟩
          replace E := E.ext ex
          replace B1 := B1.ext ex
          replace HD := HD.ext ex
          replace R9 := R9.ext ex
          replace R10 := R10.ext ex
          replace R11 := R11.ext ex
          skip
          have hz13 := E.size
          refine wm_one 13 (by kernel_rfl) ?_; refine om_call rfl Try.func71 rfl rfl rfl (jn16_any R9.bs R12.bs (by omega) (by omega)) rfl ?_
          rintro e w13 ⟨A13, c13, rfl, R13, ex⟩
          refine ⟨_, rfl, .inr ex, ?_⟩
          replace E := E.ext ex
          replace B1 := B1.ext ex
          replace HD := HD.ext ex
          replace R9 := R9.ext ex
          replace R12 := R12.ext ex
          skip
          refine wm_y 14 rfl (by kernel_rfl) (y_assign rfl) rfl ?_
          refine wm_done (by kernel_rfl) ?_
          refine wq_nop ?_
          refine wq_then_norm (hK13 ?_)
          refine wc_ret ?_
          refine wq_then_ret ?_
          refine hret rfl ?_
          exact ⟨A13, _, c13, rfl, (R13.lower hz13).congr rfl (by unfold nodeB parB; rw [if_neg (by omega), if_pos (by omega), show n.kind = 2 by omega]; simp only [List.append_assoc]; rfl), E⟩
        · skip
          refine om_call rfl Try.func73 rfl rfl rfl (rv_any (Bs.ext q0' E) (by omega)) rfl ?_
          rintro e w8 ⟨A8, k8, c8, rfl, R8, hk8, ex⟩
          refine ⟨_, rfl, .inr ex, ?_⟩
          replace E := E.ext ex
          replace B1 := B1.ext ex
          replace HD := HD.ext ex
          skip
          refine wm_one 0 (by kernel_rfl) ?_; refine om_ef rfl (ef_lit (z := .int .u8 0) Try.underlying22 (by kernel_rfl) rfl rfl rfl rfl rfl) rfl ?_
          rintro _ w7 ⟨g7, rfl, B7, hg7, ex⟩
          refine ⟨.inr ex, ?_⟩
          replace E := E.ext ex
          replace B1 := B1.ext ex
          replace HD := HD.ext ex
          replace R8 := R8.ext ex
          have H7 := bs_blk' (xs := [(2 : UInt8)]) (B7.congr (by rfl)) rfl
          refine wm_one 5 (by kernel_rfl) ?_; refine om_call rfl Try.func71 rfl rfl rfl (jn16_any H7 R8.bs (by omega) (by omega)) rfl ?_
          rintro e w9 ⟨A9, c9, rfl, R9, ex⟩
          refine ⟨_, rfl, .inr ex, ?_⟩
          replace E := E.ext ex
          replace B1 := B1.ext ex
          replace HD := HD.ext ex
          replace R8 := R8.ext ex
          replace H7 := H7.ext ex
          skip
          refine wm_one 9 (by kernel_rfl) ?_; refine om_call rfl Try.func73 rfl rfl rfl (rv_any (Bs.ext q1' E) (by omega)) rfl ?_
          rintro e w10 ⟨A10, k10, c10, rfl, R10, hk10, ex⟩
          refine ⟨_, rfl, .inr ex, ?_⟩
          replace E := E.ext ex
          replace B1 := B1.ext ex
          replace HD := HD.ext ex
          replace R9 := R9.ext ex
          skip
          refine wm_one 11 (by kernel_rfl) ?_; refine om_call rfl Try.func73 rfl rfl rfl (rv_any HD (by omega)) rfl ?_
          rintro e w11 ⟨A11, k11, c11, rfl, R11, hk11, ex⟩
          refine ⟨_, rfl, .inr ex, ?_⟩
          replace E := E.ext ex
          replace B1 := B1.ext ex
          replace HD := HD.ext ex
          replace R9 := R9.ext ex
          replace R10 := R10.ext ex
          skip
          refine wm_one 12 (by kernel_rfl) ?_; refine om_call rfl Try.func71 rfl rfl rfl (jn16_any R10.bs R11.bs (by omega) (by omega)) rfl ?_
          rintro e w12 ⟨A12, c12, rfl, R12, ex⟩
          refine ⟨_, rfl, .inr ex, ?_⟩
          replace E := E.ext ex
          replace B1 := B1.ext ex
          replace HD := HD.ext ex
          replace R9 := R9.ext ex
          replace R10 := R10.ext ex
          replace R11 := R11.ext ex
          skip
          have hz13 := E.size
          refine wm_one 13 (by kernel_rfl) ?_; refine om_call rfl Try.func71 rfl rfl rfl (jn16_any R9.bs R12.bs (by omega) (by omega)) rfl ?_
          rintro e w13 ⟨A13, c13, rfl, R13, ex⟩
          refine ⟨_, rfl, .inr ex, ?_⟩
          replace E := E.ext ex
          replace B1 := B1.ext ex
          replace HD := HD.ext ex
          replace R9 := R9.ext ex
          replace R12 := R12.ext ex
          skip
          refine wm_y 14 rfl (by kernel_rfl) (y_assign rfl) rfl ?_
          refine wm_done (by kernel_rfl) ?_
          refine wq_nop ?_
          refine wq_then_norm (hK13 ?_)
          refine wc_ret ?_
          refine wq_then_ret ?_
          refine hret rfl ?_
          exact ⟨A13, _, c13, rfl, (R13.lower hz13).congr rfl (by unfold nodeB parB; rw [if_neg (by omega), if_pos (by omega), show n.kind = 2 by omega]; simp only [List.append_assoc]; rfl), E⟩
    · skip
      refine wc_skip ?_
      refine wq_then_norm (hK5 ?_)
      refine wc_seq ?_; intro K14 hK14
      refine wc_region ?_
      refine wl_ef (ef_lit (z := .int .u8 0) Try.underlying22 (by kernel_rfl) rfl rfl rfl rfl rfl) rfl ?_
      rintro _ w3 ⟨g4, rfl, B4, hg4, ex⟩
      replace E := E.ext ex
      replace B1 := B1.ext ex
      have R4 : Row w3 w.heap.size 5 (some ⟨g4, 0, none⟩) 1 1 ([(0 : UInt8)].map bv) := Row.new (cs := #[bv 0]) B4 (by have := E.size; omega) rfl (by show 1 ≤ maxLen; unfold maxLen; omega)
      refine wl_y (y_assign rfl) rfl ?_
      refine wl_nil ?_
      refine wq_then_norm (hK14 ?_)
      refine wc_ret ?_
      refine hret rfl ?_
      exact ⟨some ⟨g4, 0, none⟩, 1, 1, rfl, R4.congr rfl (by unfold nodeB; rw [if_neg (by omega), if_neg (by omega), show n.kind = 0 by rcases ok with h | h | h <;> omega]; rfl), E⟩
theorem leafBytes_at {cs : Array Value} {l : Leaf} {xs : List UInt8} {z : Nat} (w : World) (H : LeafAt w cs l) (hf : l.Fit) (h : leafE l = (xs, z)) :
    Calls Try.prog 23 #[.agg cs] w fun e w' => ∃ A' k c', e = .returned (.tuple #[.slice A' k c', .int .u8 (z : Int)]) ∧ Row w' w.heap.size 5 A' k c' (xs.map bv) ∧ Ext w w' :=
  (LeafBytes_any w H hf).mono fun _ _ ⟨A', k, c', h1, h2, h3⟩ => ⟨A', k, c', by rw [h1, h], by rw [h] at h2; exact h2, h3⟩
theorem nodeB_le {n : Node} (hf : n.Fit) : (nodeB n).length ≤ 6000013 := by
  have h1 := leafB_le hf.1; have h2 := parB_le hf.2
  unfold nodeB
  split
  · rw [List.length_cons]; omega
  · split
    · rw [List.length_cons]; omega
    · show 1 ≤ _; omega
set_option maxHeartbeats 1000000 in
theorem nodeBytes_law (cs : Array Value) (n : Node) (w : World) (HN : NodeAt w cs n) :
    Calls Try.prog 5 #[.agg cs] w fun e w' => e = .returned (.bool true) ∧ Below w.heap.size w w' := by
  have E := Ext.refl w
  obtain ⟨_, _, _, HL, _⟩ := NodeC.parts HN
  replace HL : LeafAt w _ n.leaf := HL
  have HN0 := HN
  obtain ⟨h0, h1, h2, h4, h5, p0, p1, p2, rfl, _⟩ := HN0
  have hE3 : (nodeE n).2 = 0 ∨ (nodeE n).2 = 3 := by unfold nodeE; split <;> simp
  have hF3 : (leafE n.leaf).2 = 0 ∨ (leafE n.leaf).2 = 3 := by unfold leafE; split <;> simp
  obtain ⟨xs, y, hE⟩ : ∃ xs y, nodeE n = (xs, y) := ⟨_, _, rfl⟩
  obtain ⟨ys, z, hF⟩ : ∃ xs y, leafE n.leaf = (xs, y) := ⟨_, _, rfl⟩
  rw [hE] at hE3
  rw [hF] at hF3
  refine vc_enter1 65 Try.func5 rfl rfl rfl rfl ?_
  intro Q hret
  refine wc_seq ?_; intro K1 hK1
  refine wc_region ?_
  refine wl_ef (ef_box rfl rfl) rfl ?_
  rintro _ wB1 ⟨gB1, rfl, B1, hgB1, ex⟩
  have lB1 := B1.lt; have zB1 := ex.size
  replace E := E.ext ex
  refine wl_y (y_assign rfl) rfl ?_
  refine wl_nil ?_
  refine wq_then_norm (hK1 ?_)
  refine wc_seq ?_; intro K2 hK2
  refine wc_seq ?_; intro K3 hK3
  refine wc_region ?_
  refine wl_call Try.func11 rfl rfl rfl (alive16_any _) rfl ?_
  rintro e w1 ⟨rfl, ex⟩
  refine ⟨_, rfl, ?_⟩
  replace E := E.ext ex
  replace B1 := B1.ext ex
  refine wl_y (y_not rfl) rfl ?_
  refine wl_nil ?_
  refine wq_then_norm (hK3 ?_)
  refine wc_false rfl rfl ?_
  refine wc_skip ?_
  refine wq_then_norm (hK2 ?_)
  refine wc_seq ?_; intro K4 hK4
  refine wc_seq ?_; intro K5 hK5
  refine wc_region ?_
  refine wl_y (y_loadx (o := 0) (s := 10) rfl Try.underlying30 rfl (by kernel_rfl) B1 rfl) rfl ?_
  refine wl_call Try.func21 rfl rfl rfl (small_any _ (HN.ext E)) rfl ?_
  rintro e w2 ⟨rfl, ex⟩
  refine ⟨_, rfl, ?_⟩
  replace E := E.ext ex
  replace B1 := B1.ext ex
  skip
  refine wl_y (y_not rfl) rfl ?_
  refine wl_nil ?_
  refine wq_then_norm (hK5 ?_)
  refine wc_cond rfl (fun hc2 => ?_) (fun hc2 => ?_)
  · skip
    refine wc_seq ?_; intro K6 hK6
    refine wc_region ?_
    refine wl_y (y_assign rfl) rfl ?_
    refine wl_nil ?_
    refine wq_then_norm (hK6 ?_)
    refine wc_ret ?_
    refine wq_then_ret ?_
    refine hret rfl ?_
    exact ⟨rfl, E⟩
  · skip
    refine wc_skip ?_
    refine wq_then_norm (hK4 ?_)
    refine wc_seq ?_; intro K7 hK7
    refine wc_region ?_
    refine wl_y (y_loadx (o := 0) (s := 10) rfl Try.underlying30 rfl (by kernel_rfl) B1 rfl) rfl ?_
    have hs : n.Small := by simpa using hc2
    have hn := hs.fit
    have hn1 := hn.1
    have hB := leafB_le hn1
    refine wl_call Try.func22 rfl rfl rfl (bytes16_at _ (HN.ext E) hn hE) rfl ?_
    rintro e w3 ⟨A1, k1, c1, rfl, R1, ex⟩
    refine ⟨_, rfl, ?_⟩
    replace E := E.ext ex
    replace B1 := B1.ext ex
    have H1 := R1.bs
    refine wl_y (y_move rfl) rfl ?_
    refine wl_y (y_extract rfl rfl) rfl ?_
    refine wl_y (y_extract rfl rfl) rfl ?_
    refine wl_y (y_assign rfl) rfl ?_
    refine wl_y (y_assign rfl) rfl ?_
    refine wl_nil ?_
    refine wq_then_norm (hK7 ?_)
    refine wc_seq ?_; intro K8 hK8
    refine wc_region ?_
    refine wl_y (y_fieldAddr (o := 1) (s := 6) (off := 0) (o' := 1) rfl Try.underlying30 rfl (by kernel_rfl) rfl rfl) rfl ?_
    refine wl_y (y_loadx (o := 1) (s := 6) rfl Try.underlying25 rfl (by kernel_rfl) B1 rfl) rfl ?_
    refine wl_call Try.func23 rfl rfl rfl (leafBytes_at _ (HL.ext E) hn1 hF) rfl ?_
    rintro e w4 ⟨A2, k2, c2, rfl, R2, ex⟩
    refine ⟨_, rfl, ?_⟩
    replace E := E.ext ex
    replace B1 := B1.ext ex
    replace H1 := H1.ext ex
    have H2 := R2.bs
    refine wl_y (y_move rfl) rfl ?_
    refine wl_y (y_extract rfl rfl) rfl ?_
    refine wl_y (y_extract rfl rfl) rfl ?_
    refine wl_y (y_assign rfl) rfl ?_
    refine wl_y (y_assign rfl) rfl ?_
    refine wl_nil ?_
    refine wq_then_norm (hK8 ?_)
    refine wc_seq ?_; intro K9 hK9
    refine wc_seq ?_; intro K10 hK10
    refine wc_region ?_
    refine wl_y (y_fieldAddr (o := 1) (s := 6) (off := 0) (o' := 1) rfl Try.underlying30 rfl (by kernel_rfl) rfl rfl) rfl ?_
    refine wl_y (y_loadx (o := 1) (s := 6) rfl Try.underlying25 rfl (by kernel_rfl) B1 rfl) rfl ?_
    refine wl_call Try.func24 rfl rfl rfl (rrightLeaf_any _ (HL.ext E)) rfl ?_
    rintro e w5 ⟨rfl, ex⟩
    refine ⟨_, rfl, ?_⟩
    replace E := E.ext ex
    replace B1 := B1.ext ex
    replace H1 := H1.ext ex
    replace H2 := H2.ext ex
    skip
    refine wl_nil ?_
    refine wq_then_norm (hK10 ?_)
    refine wc_cond rfl (fun hc3 => ?_) (fun hc3 => ?_)
    · skip
      refine wc_seq ?_; intro K11 hK11
      have okl : okLeaf n.leaf := by simpa using hc3
      have e1 : leafE n.leaf = (leafB n.leaf, 0) := by unfold leafE; rw [if_pos okl]
      rw [hF] at e1
      injection e1 with e1 e2
      subst e1; subst e2
      refine wc_region ?_
      refine wl_y (y_move rfl) rfl ?_
      refine wl_y (y_conv rfl Try.underlying33 Try.underlying3 (i64_ok (by omega) (by omega))) rfl ?_
      refine wl_y (y_neq rfl rfl) rfl ?_
      refine wl_y (Y.as (y_move rfl) (congrArg Value.bool (decide_eq_false (by omega)))) rfl ?_
      refine wl_gy 29 rfl rfl (y_move rfl) rfl ?_
      refine wl_gy 29 rfl rfl (y_fieldAddr (o := 1) (s := 6) (off := 0) (o' := 1) rfl Try.underlying30 rfl (by kernel_rfl) rfl rfl) rfl ?_
      refine wl_gy 29 rfl rfl (y_loadx (o := 1) (s := 6) rfl Try.underlying25 rfl (by kernel_rfl) B1 rfl) rfl ?_
      refine wl_gcall 29 rfl rfl Try.func26 rfl rfl rfl (rleafBytes_any _ (HL.ext E) hn1) rfl ?_
      rintro e w6 ⟨A3, k3, c3, rfl, R3, ex⟩
      refine ⟨_, rfl, ?_⟩
      replace E := E.ext ex
      replace B1 := B1.ext ex
      replace H1 := H1.ext ex
      replace H2 := H2.ext ex
      have H3 := R3.bs
      have hk2 := H2.1; have hk3 := H3.1
      refine wl_gcall 29 rfl rfl Try.func25 rfl rfl rfl (sm_any H2 H3 (by omega) (by omega)) rfl ?_
      rintro e w7 ⟨rfl, ex⟩
      refine ⟨_, rfl, ?_⟩
      replace E := E.ext ex
      replace B1 := B1.ext ex
      replace H1 := H1.ext ex
      replace H2 := H2.ext ex
      rw [decide_eq_true rfl]
      refine wl_gy 29 rfl rfl (y_not rfl) rfl ?_
      refine wl_y (y_pickf rfl rfl) rfl ?_
      refine wl_nil ?_
      refine wq_then_norm (hK11 ?_)
      refine wc_false rfl rfl ?_
      refine wc_skip ?_
      refine wq_then_norm (hK9 ?_)
      refine wc_seq ?_; intro K12 hK12
      refine wc_seq ?_; intro K13 hK13
      refine wc_region ?_
      refine wl_y (y_loadx (o := 0) (s := 10) rfl Try.underlying30 rfl (by kernel_rfl) B1 rfl) rfl ?_
      refine wl_call Try.func27 rfl rfl rfl (rright_any _ (HN.ext E) hn) rfl ?_
      rintro e w8 ⟨rfl, ex⟩
      refine ⟨_, rfl, ?_⟩
      replace E := E.ext ex
      replace B1 := B1.ext ex
      replace H1 := H1.ext ex
      replace H2 := H2.ext ex
      skip
      refine wl_y (y_not rfl) rfl ?_
      refine wl_nil ?_
      refine wq_then_norm (hK13 ?_)
      refine wc_cond rfl (fun hc6 => ?_) (fun hc6 => ?_)
      · skip
        refine wc_seq ?_; intro K14 hK14
        have nok : ¬ okNode n := by simpa using hc6
        have e3 : nodeE n = ([], 3) := by unfold nodeE; rw [if_neg nok]
        rw [hE] at e3
        injection e3 with e3 e4
        subst e3; subst e4
        have hk1 : k1 = 0 := H1.1.symm
        refine wc_region ?_
        refine wl_y (y_move rfl) rfl ?_
        refine wl_y (y_conv rfl Try.underlying33 Try.underlying3 (i64_ok (by omega) (by omega))) rfl ?_
        refine wl_y (y_eql rfl rfl) rfl ?_
        refine wl_y (Y.as (y_move rfl) (congrArg Value.bool (decide_eq_true (by omega)))) rfl ?_
        refine wl_gy 51 rfl rfl (y_move rfl) rfl ?_
        refine wl_gy 51 rfl rfl (y_len_slice rfl Try.underlying22) rfl ?_
        refine wl_gy 51 rfl rfl (Y.as (y_eql rfl rfl) (congrArg Value.bool (decide_eq_true (by omega)))) rfl ?_
        refine wl_y (y_pickt rfl rfl) rfl ?_
        refine wl_y (y_assign rfl) rfl ?_
        refine wl_nil ?_
        refine wq_then_norm (hK14 ?_)
        refine wc_ret ?_
        refine wq_then_ret ?_
        refine hret rfl ?_
        exact ⟨rfl, E⟩
      · skip
        refine wc_skip ?_
        refine wq_then_norm (hK12 ?_)
        refine wc_seq ?_; intro K15 hK15
        have ok : okNode n := by simpa using hc6
        have e3 : nodeE n = (nodeB n, 0) := by unfold nodeE; rw [if_pos ok]
        rw [hE] at e3
        injection e3 with e3 e4
        subst e3; subst e4
        have hPB := parB_le hn.2
        refine wc_region ?_
        refine wl_y (y_move rfl) rfl ?_
        refine wl_y (y_conv rfl Try.underlying33 Try.underlying3 (i64_ok (by omega) (by omega))) rfl ?_
        refine wl_y (y_eql rfl rfl) rfl ?_
        refine wl_y (Y.as (y_move rfl) (congrArg Value.bool (decide_eq_true (by omega)))) rfl ?_
        refine wl_gy 59 rfl rfl (y_move rfl) rfl ?_
        refine wl_gy 59 rfl rfl (y_loadx (o := 0) (s := 10) rfl Try.underlying30 rfl (by kernel_rfl) B1 rfl) rfl ?_
        refine wl_gcall 59 rfl rfl Try.func28 rfl rfl rfl (rbytes16_any _ (HN.ext E) hn ok) rfl ?_
        rintro e w9 ⟨A4, k4, c4, rfl, R4, ex⟩
        refine ⟨_, rfl, ?_⟩
        replace E := E.ext ex
        replace B1 := B1.ext ex
        replace H1 := H1.ext ex
        replace H2 := H2.ext ex
        have H4 := R4.bs
        have hk1 := H1.1; have hk4 := H4.1; have hnl := nodeB_le hn
        refine wl_gcall 59 rfl rfl Try.func25 rfl rfl rfl (sm_any H1 H4 (by omega) (by omega)) rfl ?_
        rintro e w10 ⟨rfl, ex⟩
        refine ⟨_, rfl, ?_⟩
        replace E := E.ext ex
        replace B1 := B1.ext ex
        replace H1 := H1.ext ex
        replace H2 := H2.ext ex
        rw [decide_eq_true rfl]
        refine wl_y (y_pickt rfl rfl) rfl ?_
        refine wl_y (y_assign rfl) rfl ?_
        refine wl_nil ?_
        refine wq_then_norm (hK15 ?_)
        refine wc_ret ?_
        refine hret rfl ?_
        exact ⟨rfl, E⟩
    · skip
      refine wc_seq ?_; intro K16 hK16
      have nokl : ¬ okLeaf n.leaf := by simpa using hc3
      have e1 : leafE n.leaf = ([], 3) := by unfold leafE; rw [if_neg nokl]
      rw [hF] at e1
      injection e1 with e1 e2
      subst e1; subst e2
      have hk2 : k2 = 0 := H2.1.symm
      refine wc_region ?_
      refine wl_y (y_move rfl) rfl ?_
      refine wl_y (y_conv rfl Try.underlying33 Try.underlying3 (i64_ok (by omega) (by omega))) rfl ?_
      refine wl_y (y_neq rfl rfl) rfl ?_
      refine wl_y (Y.as (y_move rfl) (congrArg Value.bool (decide_eq_false (by omega)))) rfl ?_
      refine wl_gy 40 rfl rfl (y_move rfl) rfl ?_
      refine wl_gy 40 rfl rfl (y_len_slice rfl Try.underlying22) rfl ?_
      refine wl_gy 40 rfl rfl (Y.as (y_neq rfl rfl) (congrArg Value.bool (decide_eq_false (by omega)))) rfl ?_
      refine wl_y (y_pickf rfl rfl) rfl ?_
      refine wl_nil ?_
      refine wq_then_norm (hK16 ?_)
      refine wc_false rfl rfl ?_
      refine wc_skip ?_
      refine wq_then_norm (hK9 ?_)
      refine wc_seq ?_; intro K17 hK17
      refine wc_seq ?_; intro K18 hK18
      refine wc_region ?_
      refine wl_y (y_loadx (o := 0) (s := 10) rfl Try.underlying30 rfl (by kernel_rfl) B1 rfl) rfl ?_
      refine wl_call Try.func27 rfl rfl rfl (rright_any _ (HN.ext E) hn) rfl ?_
      rintro e w8 ⟨rfl, ex⟩
      refine ⟨_, rfl, ?_⟩
      replace E := E.ext ex
      replace B1 := B1.ext ex
      replace H1 := H1.ext ex
      replace H2 := H2.ext ex
      skip
      refine wl_y (y_not rfl) rfl ?_
      refine wl_nil ?_
      refine wq_then_norm (hK18 ?_)
      refine wc_cond rfl (fun hc6 => ?_) (fun hc6 => ?_)
      · skip
        refine wc_seq ?_; intro K19 hK19
        have nok : ¬ okNode n := by simpa using hc6
        have e3 : nodeE n = ([], 3) := by unfold nodeE; rw [if_neg nok]
        rw [hE] at e3
        injection e3 with e3 e4
        subst e3; subst e4
        have hk1 : k1 = 0 := H1.1.symm
        refine wc_region ?_
        refine wl_y (y_move rfl) rfl ?_
        refine wl_y (y_conv rfl Try.underlying33 Try.underlying3 (i64_ok (by omega) (by omega))) rfl ?_
        refine wl_y (y_eql rfl rfl) rfl ?_
        refine wl_y (Y.as (y_move rfl) (congrArg Value.bool (decide_eq_true (by omega)))) rfl ?_
        refine wl_gy 51 rfl rfl (y_move rfl) rfl ?_
        refine wl_gy 51 rfl rfl (y_len_slice rfl Try.underlying22) rfl ?_
        refine wl_gy 51 rfl rfl (Y.as (y_eql rfl rfl) (congrArg Value.bool (decide_eq_true (by omega)))) rfl ?_
        refine wl_y (y_pickt rfl rfl) rfl ?_
        refine wl_y (y_assign rfl) rfl ?_
        refine wl_nil ?_
        refine wq_then_norm (hK19 ?_)
        refine wc_ret ?_
        refine wq_then_ret ?_
        refine hret rfl ?_
        exact ⟨rfl, E⟩
      · skip
        refine wc_skip ?_
        refine wq_then_norm (hK17 ?_)
        refine wc_seq ?_; intro K20 hK20
        have ok : okNode n := by simpa using hc6
        have e3 : nodeE n = (nodeB n, 0) := by unfold nodeE; rw [if_pos ok]
        rw [hE] at e3
        injection e3 with e3 e4
        subst e3; subst e4
        have hPB := parB_le hn.2
        refine wc_region ?_
        refine wl_y (y_move rfl) rfl ?_
        refine wl_y (y_conv rfl Try.underlying33 Try.underlying3 (i64_ok (by omega) (by omega))) rfl ?_
        refine wl_y (y_eql rfl rfl) rfl ?_
        refine wl_y (Y.as (y_move rfl) (congrArg Value.bool (decide_eq_true (by omega)))) rfl ?_
        refine wl_gy 59 rfl rfl (y_move rfl) rfl ?_
        refine wl_gy 59 rfl rfl (y_loadx (o := 0) (s := 10) rfl Try.underlying30 rfl (by kernel_rfl) B1 rfl) rfl ?_
        refine wl_gcall 59 rfl rfl Try.func28 rfl rfl rfl (rbytes16_any _ (HN.ext E) hn ok) rfl ?_
        rintro e w9 ⟨A4, k4, c4, rfl, R4, ex⟩
        refine ⟨_, rfl, ?_⟩
        replace E := E.ext ex
        replace B1 := B1.ext ex
        replace H1 := H1.ext ex
        replace H2 := H2.ext ex
        have H4 := R4.bs
        have hk1 := H1.1; have hk4 := H4.1; have hnl := nodeB_le hn
        refine wl_gcall 59 rfl rfl Try.func25 rfl rfl rfl (sm_any H1 H4 (by omega) (by omega)) rfl ?_
        rintro e w10 ⟨rfl, ex⟩
        refine ⟨_, rfl, ?_⟩
        replace E := E.ext ex
        replace B1 := B1.ext ex
        replace H1 := H1.ext ex
        replace H2 := H2.ext ex
        rw [decide_eq_true rfl]
        refine wl_y (y_pickt rfl rfl) rfl ?_
        refine wl_y (y_assign rfl) rfl ?_
        refine wl_nil ?_
        refine wq_then_norm (hK20 ?_)
        refine wc_ret ?_
        refine hret rfl ?_
        exact ⟨rfl, E⟩
end Go.Proofs.Ytopimmomkapdoaa
