/- Which proposals may be, and which are small: what msg and the reference answer. -/
import Derived.Test.YtpgalbgonmclaaaMsA
namespace Go.Proofs.Ytpgalbgonmclaaa
open Go.RowKit
attribute [local irreducible] Y Ef WL WC WK WQ WM OpM WN WF OpN
open Nd
def Pack.Small (p : Pack) : Prop := p.init.length ≤ 100 ∧ p.sig.length ≤ 100 ∧ (⟨0, p.leaf, Par.zero⟩ : Node).Small
instance (p : Pack) : Decidable p.Small := by unfold Pack.Small; infer_instance
def Prop20.Small (p : Prop20) : Prop := p.pack.Small ∧ (⟨0, p.leaf, Par.zero⟩ : Node).Small
instance (p : Prop20) : Decidable p.Small := by unfold Prop20.Small; infer_instance
theorem Pack.Small.fit {p : Pack} (h : p.Small) : p.Fit := ⟨by have := h.1; omega, h.2.2.fit.1, by have := h.2.1; omega⟩
theorem Prop20.Small.fit {p : Prop20} (h : p.Small) : p.Fit := ⟨h.1.fit, h.2.fit.1⟩
section
variable {cs : Array Value} {p : Pack} {q : Prop20}
theorem place_any (z : Int) (w : World) : Calls Try.prog 142 #[.int .i64 z] w fun e w' => e = .returned (.bool (decide (0 ≤ z ∧ z ≤ 65535))) ∧ Ext w w' := by
  have E := Ext.refl w
  refine vc_enter1 9 Try.func142 rfl rfl rfl rfl ?_
  intro Q hret
  refine wc_seq ?_; intro K1 hK1
  refine wc_region ?_
  refine wl_y (y_assign rfl) rfl ?_
  refine wl_nil ?_
  refine wq_then_norm (hK1 ?_)
  refine wc_seq ?_; intro K2 hK2
  refine wc_region ?_
  refine wl_y (y_move rfl) rfl ?_
  refine wl_y (y_geq rfl rfl) rfl ?_
  refine wl_yask (y_move rfl) rfl (fun q0 => ?_) (fun q0 => ?_)
  · skip
    refine wl_gy 5 rfl rfl (y_move rfl) rfl ?_
    refine wl_gy 5 rfl rfl (y_lss rfl rfl) rfl ?_
    refine wl_y (y_pickt rfl rfl) rfl ?_
    refine wl_y (y_assign rfl) rfl ?_
    refine wl_nil ?_
    refine wq_then_norm (hK2 ?_)
    refine wc_ret ?_
    refine hret rfl ?_
    exact ⟨ret_bool ⟨fun h => by omega, fun h => by omega⟩, E⟩
  · skip
    refine wl_gno 5 rfl rfl rfl rfl ?_
    refine wl_gno 5 rfl rfl rfl rfl ?_
    refine wl_y (y_pickf rfl rfl) rfl ?_
    refine wl_y (y_assign rfl) rfl ?_
    refine wl_nil ?_
    refine wq_then_norm (hK2 ?_)
    refine wc_ret ?_
    refine hret rfl ?_
    exact ⟨ret_no fun h => by omega, E⟩
theorem rightProp_any (w : World) (H : PropAt w cs q) (hf : q.Fit) :
    Calls Try.prog 67 #[.agg cs] w fun e w' => e = .returned (.bool (decide (okProp q))) ∧ Ext w w' := by
  have HP := H.pack
  have HL := H.leaf
  obtain ⟨i, h0, h1, h2, h4, h5, g, l0, l1, l2, l4, l5, rfl, hk, hs, ht, hz, _⟩ := H
  have E := Ext.refl w
  refine vc_enter1 50 Try.func67 rfl rfl rfl rfl ?_
  intro Q hret
  refine wc_seq ?_; intro K1 hK1
  refine wc_region ?_
  refine wl_ef (ef_box rfl rfl) rfl ?_
  rintro _ wB1 ⟨gB1, rfl, B1, hgB1, ex⟩
  have lB1 := B1.lt; have zB1 := ex.size
  replace E := E.ext ex
  refine wl_y (y_assign rfl) rfl ?_
  refine wl_nil ?_
  refine wq_then_norm (hK1 ?_)
  refine wc_seq ?_; intro K2 hK2
  refine wc_seq ?_; intro K3 hK3
  refine wc_region ?_
  refine wl_y (y_fieldAddr (o := 0) (s := 1) (off := 0) (o' := 0) rfl Try.underlying28 rfl (by kernel_rfl) rfl rfl) rfl ?_
  refine wl_y (y_load1 rfl Try.underlying5 rfl (B1.get (i := 0) rfl)) rfl ?_
  refine wl_nil ?_
  refine wq_then_norm (hK3 ?_)
  refine wc_block ?_
  refine wc_seq ?_; intro K4 hK4
  refine wc_region ?_
  refine wl_yask (y_eql rfl rfl) rfl (fun k1 => ?_) (fun k1 => ?_)
  · skip
    refine wl_y (y_assign rfl) rfl ?_
    refine wl_nil ?_
    refine wq_then_norm (hK4 ?_)
    refine wc_true rfl rfl ?_
    refine wc_seq ?_; intro K5 hK5
    refine wc_region ?_
    refine wl_y (y_fieldAddr (o := 1) (s := 8) (off := 0) (o' := 1) rfl Try.underlying28 rfl (by kernel_rfl) rfl rfl) rfl ?_
    refine wl_y (y_loadx (o := 1) (s := 8) rfl Try.underlying26 rfl (by kernel_rfl) B1 rfl) rfl ?_
    refine wl_call Try.func100 rfl rfl rfl (rightPack_any _ (HP.ext E) hf.1) rfl ?_
    rintro e w2 ⟨rfl, ex⟩
    refine ⟨_, rfl, ?_⟩
    replace E := E.ext ex
    replace B1 := B1.ext ex
    skip
    refine wl_yask (y_move rfl) rfl (fun a1 => ?_) (fun a1 => ?_)
    · skip
      refine wl_gy 10 rfl rfl (y_fieldAddr (o := 9) (s := 6) (off := 0) (o' := 9) rfl Try.underlying28 rfl (by kernel_rfl) rfl rfl) rfl ?_
      refine wl_gy 10 rfl rfl (y_loadx (o := 9) (s := 6) rfl Try.underlying24 rfl (by kernel_rfl) B1 rfl) rfl ?_
      refine wl_gcall 10 rfl rfl Try.func139 rfl rfl rfl (noLeaf20_any _ (HL.ext E) hf.2) rfl ?_
      rintro e w3 ⟨rfl, ex⟩
      refine ⟨_, rfl, ?_⟩
      replace E := E.ext ex
      replace B1 := B1.ext ex
      skip
      refine wl_y (y_pickt rfl rfl) rfl ?_
      refine wl_yask (y_move rfl) rfl (fun b1 => ?_) (fun b1 => ?_)
      · skip
        refine wl_gy 15 rfl rfl (y_fieldAddr (o := 15) (s := 1) (off := 0) (o' := 15) rfl Try.underlying28 rfl (by kernel_rfl) rfl rfl) rfl ?_
        refine wl_gy 15 rfl rfl (y_load1 rfl Try.underlying3 rfl (B1.get (i := 15) rfl)) rfl ?_
        refine wl_gy 15 rfl rfl (y_eql rfl rfl) rfl ?_
        refine wl_y (y_pickt rfl rfl) rfl ?_
        refine wl_y (y_assign rfl) rfl ?_
        refine wl_nil ?_
        refine wq_then_norm (hK5 ?_)
        refine wc_ret ?_
        refine wq_blk_ret ?_
        refine wq_then_ret ?_
        refine hret rfl ?_
        exact ⟨ret_bool ⟨fun h => .inl ⟨by omega, a1, b1, h⟩, fun h => by rcases h with h | h | h <;> first | exact h.2.2.2 | (exfalso; omega)⟩, E⟩
      · skip
        refine wl_gno 15 rfl rfl rfl rfl ?_
        refine wl_gno 15 rfl rfl rfl rfl ?_
        refine wl_gno 15 rfl rfl rfl rfl ?_
        refine wl_y (y_pickf rfl rfl) rfl ?_
        refine wl_y (y_assign rfl) rfl ?_
        refine wl_nil ?_
        refine wq_then_norm (hK5 ?_)
        refine wc_ret ?_
        refine wq_blk_ret ?_
        refine wq_then_ret ?_
        refine hret rfl ?_
        exact ⟨ret_no fun h => b1 (by rcases h with h | h | h <;> first | exact h.2.2.1 | (exfalso; omega)), E⟩
    · skip
      refine wl_gno 10 rfl rfl rfl rfl ?_
      refine wl_gno 10 rfl rfl rfl rfl ?_
      refine wl_gno 10 rfl rfl rfl rfl ?_
      refine wl_y (y_pickf rfl rfl) rfl ?_
      refine wl_y (y_move rfl) rfl ?_
      refine wl_gno 15 rfl rfl rfl rfl ?_
      refine wl_gno 15 rfl rfl rfl rfl ?_
      refine wl_gno 15 rfl rfl rfl rfl ?_
      refine wl_y (y_pickf rfl rfl) rfl ?_
      refine wl_y (y_assign rfl) rfl ?_
      refine wl_nil ?_
      refine wq_then_norm (hK5 ?_)
      refine wc_ret ?_
      refine wq_blk_ret ?_
      refine wq_then_ret ?_
      refine hret rfl ?_
      exact ⟨ret_no fun h => a1 (by rcases h with h | h | h <;> first | exact h.2.1 | (exfalso; omega)), E⟩
  · skip
    refine wl_y (y_assign rfl) rfl ?_
    refine wl_nil ?_
    refine wq_then_norm (hK4 ?_)
    refine wc_false rfl rfl ?_
    refine wc_seq ?_; intro K6 hK6
    refine wc_region ?_
    refine wl_yask (y_eql rfl rfl) rfl (fun k2 => ?_) (fun k2 => ?_)
    · skip
      refine wl_y (y_assign rfl) rfl ?_
      refine wl_nil ?_
      refine wq_then_norm (hK6 ?_)
      refine wc_true rfl rfl ?_
      refine wc_seq ?_; intro K7 hK7
      refine wc_region ?_
      refine wl_y (y_fieldAddr (o := 1) (s := 8) (off := 0) (o' := 1) rfl Try.underlying28 rfl (by kernel_rfl) rfl rfl) rfl ?_
      refine wl_y (y_loadx (o := 1) (s := 8) rfl Try.underlying26 rfl (by kernel_rfl) B1 rfl) rfl ?_
      refine wl_call Try.func140 rfl rfl rfl (noPack_any _ (HP.ext E) hf.1) rfl ?_
      rintro e w2 ⟨rfl, ex⟩
      refine ⟨_, rfl, ?_⟩
      replace E := E.ext ex
      replace B1 := B1.ext ex
      skip
      refine wl_yask (y_move rfl) rfl (fun a1 => ?_) (fun a1 => ?_)
      · skip
        refine wl_gy 25 rfl rfl (y_fieldAddr (o := 9) (s := 6) (off := 0) (o' := 9) rfl Try.underlying28 rfl (by kernel_rfl) rfl rfl) rfl ?_
        refine wl_gy 25 rfl rfl (y_loadx (o := 9) (s := 6) rfl Try.underlying24 rfl (by kernel_rfl) B1 rfl) rfl ?_
        refine wl_gcall 25 rfl rfl Try.func141 rfl rfl rfl (rightLeaf20_any (s := 2) _ (HL.ext E) hf.2) rfl ?_
        rintro e w3 ⟨rfl, ex⟩
        refine ⟨_, rfl, ?_⟩
        replace E := E.ext ex
        replace B1 := B1.ext ex
        skip
        refine wl_y (y_pickt rfl rfl) rfl ?_
        refine wl_yask (y_move rfl) rfl (fun b1 => ?_) (fun b1 => ?_)
        · skip
          refine wl_gy 30 rfl rfl (y_fieldAddr (o := 15) (s := 1) (off := 0) (o' := 15) rfl Try.underlying28 rfl (by kernel_rfl) rfl rfl) rfl ?_
          refine wl_gy 30 rfl rfl (y_load1 rfl Try.underlying3 rfl (B1.get (i := 15) rfl)) rfl ?_
          refine wl_gy 30 rfl rfl (y_eql rfl rfl) rfl ?_
          refine wl_y (y_pickt rfl rfl) rfl ?_
          refine wl_y (y_assign rfl) rfl ?_
          refine wl_nil ?_
          refine wq_then_norm (hK7 ?_)
          refine wc_ret ?_
          refine wq_blk_ret ?_
          refine wq_then_ret ?_
          refine hret rfl ?_
          exact ⟨ret_bool ⟨fun h => .inr (.inl ⟨by omega, a1, b1, h⟩), fun h => by rcases h with h | h | h <;> first | exact h.2.2.2 | (exfalso; omega)⟩, E⟩
        · skip
          refine wl_gno 30 rfl rfl rfl rfl ?_
          refine wl_gno 30 rfl rfl rfl rfl ?_
          refine wl_gno 30 rfl rfl rfl rfl ?_
          refine wl_y (y_pickf rfl rfl) rfl ?_
          refine wl_y (y_assign rfl) rfl ?_
          refine wl_nil ?_
          refine wq_then_norm (hK7 ?_)
          refine wc_ret ?_
          refine wq_blk_ret ?_
          refine wq_then_ret ?_
          refine hret rfl ?_
          exact ⟨ret_no fun h => b1 (by rcases h with h | h | h <;> first | exact h.2.2.1 | (exfalso; omega)), E⟩
      · skip
        refine wl_gno 25 rfl rfl rfl rfl ?_
        refine wl_gno 25 rfl rfl rfl rfl ?_
        refine wl_gno 25 rfl rfl rfl rfl ?_
        refine wl_y (y_pickf rfl rfl) rfl ?_
        refine wl_y (y_move rfl) rfl ?_
        refine wl_gno 30 rfl rfl rfl rfl ?_
        refine wl_gno 30 rfl rfl rfl rfl ?_
        refine wl_gno 30 rfl rfl rfl rfl ?_
        refine wl_y (y_pickf rfl rfl) rfl ?_
        refine wl_y (y_assign rfl) rfl ?_
        refine wl_nil ?_
        refine wq_then_norm (hK7 ?_)
        refine wc_ret ?_
        refine wq_blk_ret ?_
        refine wq_then_ret ?_
        refine hret rfl ?_
        exact ⟨ret_no fun h => a1 (by rcases h with h | h | h <;> first | exact h.2.1 | (exfalso; omega)), E⟩
    · skip
      refine wl_y (y_assign rfl) rfl ?_
      refine wl_nil ?_
      refine wq_then_norm (hK6 ?_)
      refine wc_false rfl rfl ?_
      refine wc_seq ?_; intro K8 hK8
      refine wc_region ?_
      refine wl_yask (y_eql rfl rfl) rfl (fun k3 => ?_) (fun k3 => ?_)
      · skip
        refine wl_y (y_assign rfl) rfl ?_
        refine wl_nil ?_
        refine wq_then_norm (hK8 ?_)
        refine wc_true rfl rfl ?_
        refine wc_seq ?_; intro K9 hK9
        refine wc_region ?_
        refine wl_y (y_fieldAddr (o := 1) (s := 8) (off := 0) (o' := 1) rfl Try.underlying28 rfl (by kernel_rfl) rfl rfl) rfl ?_
        refine wl_y (y_loadx (o := 1) (s := 8) rfl Try.underlying26 rfl (by kernel_rfl) B1 rfl) rfl ?_
        refine wl_call Try.func140 rfl rfl rfl (noPack_any _ (HP.ext E) hf.1) rfl ?_
        rintro e w2 ⟨rfl, ex⟩
        refine ⟨_, rfl, ?_⟩
        replace E := E.ext ex
        replace B1 := B1.ext ex
        skip
        refine wl_yask (y_move rfl) rfl (fun a1 => ?_) (fun a1 => ?_)
        · skip
          refine wl_gy 40 rfl rfl (y_fieldAddr (o := 9) (s := 6) (off := 0) (o' := 9) rfl Try.underlying28 rfl (by kernel_rfl) rfl rfl) rfl ?_
          refine wl_gy 40 rfl rfl (y_loadx (o := 9) (s := 6) rfl Try.underlying24 rfl (by kernel_rfl) B1 rfl) rfl ?_
          refine wl_gcall 40 rfl rfl Try.func139 rfl rfl rfl (noLeaf20_any _ (HL.ext E) hf.2) rfl ?_
          rintro e w3 ⟨rfl, ex⟩
          refine ⟨_, rfl, ?_⟩
          replace E := E.ext ex
          replace B1 := B1.ext ex
          skip
          refine wl_y (y_pickt rfl rfl) rfl ?_
          refine wl_yask (y_move rfl) rfl (fun b1 => ?_) (fun b1 => ?_)
          · skip
            refine wl_gy 45 rfl rfl (y_fieldAddr (o := 15) (s := 1) (off := 0) (o' := 15) rfl Try.underlying28 rfl (by kernel_rfl) rfl rfl) rfl ?_
            refine wl_gy 45 rfl rfl (y_load1 rfl Try.underlying3 rfl (B1.get (i := 15) rfl)) rfl ?_
            refine wl_gcall 45 rfl rfl Try.func142 rfl rfl rfl (place_any _ _) rfl ?_
            rintro e w4 ⟨rfl, ex⟩
            refine ⟨_, rfl, ?_⟩
            replace E := E.ext ex
            replace B1 := B1.ext ex
            skip
            refine wl_y (y_pickt rfl rfl) rfl ?_
            refine wl_y (y_assign rfl) rfl ?_
            refine wl_nil ?_
            refine wq_then_norm (hK9 ?_)
            refine wc_ret ?_
            refine wq_blk_ret ?_
            refine wq_then_ret ?_
            refine hret rfl ?_
            exact ⟨ret_bool ⟨fun h => .inr (.inr ⟨by omega, a1, b1, h⟩), fun h => by rcases h with h | h | h <;> first | exact h.2.2.2 | (exfalso; omega)⟩, E⟩
          · skip
            refine wl_gno 45 rfl rfl rfl rfl ?_
            refine wl_gno 45 rfl rfl rfl rfl ?_
            refine wl_gno 45 rfl rfl rfl rfl ?_
            refine wl_y (y_pickf rfl rfl) rfl ?_
            refine wl_y (y_assign rfl) rfl ?_
            refine wl_nil ?_
            refine wq_then_norm (hK9 ?_)
            refine wc_ret ?_
            refine wq_blk_ret ?_
            refine wq_then_ret ?_
            refine hret rfl ?_
            exact ⟨ret_no fun h => b1 (by rcases h with h | h | h <;> first | exact h.2.2.1 | (exfalso; omega)), E⟩
        · skip
          refine wl_gno 40 rfl rfl rfl rfl ?_
          refine wl_gno 40 rfl rfl rfl rfl ?_
          refine wl_gno 40 rfl rfl rfl rfl ?_
          refine wl_y (y_pickf rfl rfl) rfl ?_
          refine wl_y (y_move rfl) rfl ?_
          refine wl_gno 45 rfl rfl rfl rfl ?_
          refine wl_gno 45 rfl rfl rfl rfl ?_
          refine wl_gno 45 rfl rfl rfl rfl ?_
          refine wl_y (y_pickf rfl rfl) rfl ?_
          refine wl_y (y_assign rfl) rfl ?_
          refine wl_nil ?_
          refine wq_then_norm (hK9 ?_)
          refine wc_ret ?_
          refine wq_blk_ret ?_
          refine wq_then_ret ?_
          refine hret rfl ?_
          exact ⟨ret_no fun h => a1 (by rcases h with h | h | h <;> first | exact h.2.1 | (exfalso; omega)), E⟩
      · skip
        refine wl_y (y_assign rfl) rfl ?_
        refine wl_nil ?_
        refine wq_then_norm (hK8 ?_)
        refine wc_false rfl rfl ?_
        refine wc_skip ?_
        refine wq_blk_norm ?_
        refine wq_then_norm (hK2 ?_)
        refine wc_seq ?_; intro K10 hK10
        refine wc_region ?_
        refine wl_y (y_assign rfl) rfl ?_
        refine wl_nil ?_
        refine wq_then_norm (hK10 ?_)
        refine wc_ret ?_
        refine hret rfl ?_
        exact ⟨ret_no fun h => by rcases h with h | h | h <;> omega, E⟩
end
end Go.Proofs.Ytpgalbgonmclaaa
