/- Which proposals may be, and which are small: what msg and the reference answer. -/
import Derived.Test.YtpgalbgonmclaaaGreatMsA
namespace Go.Proofs.YtpgalbgonmclaaaGreat
open Go.RowKit
attribute [local irreducible] Y Ef WL WC WK WQ WM OpM WN WF OpN
open Nd
section
variable {cs : Array Value} {p : Pack} {q : Prop20}
theorem place_any (z : Int) (w : World) : Calls Tryz.prog 86 #[.int .i64 z] w fun e w' => e = .returned (.bool (decide (0 ≤ z ∧ z ≤ 65535))) ∧ Ext w w' := by
  have E := Ext.refl w
  refine vc_enter1 9 Tryz.func86 rfl rfl rfl rfl ?_
  intro Q hret
  refine wc_seq ?_; intro K1 hK1
  refine wc_region ?_
  refine wl_y (y_assign rfl) rfl ?_
  refine wl_nil ?_
  refine wq_then_norm (hK1 ?_)
  refine wc_seq ?_; intro K2 hK2
  refine wc_region ?_
  refine wl_y (y_move rfl) rfl ?_
  refine wl_y (y_geq rfl rfl) rfl ?_
  refine wl_yask (y_move rfl) rfl (fun q0 => ?_) (fun q0 => ?_)
  · skip
    refine wl_gy 5 rfl rfl (y_move rfl) rfl ?_
    refine wl_gy 5 rfl rfl (y_lss rfl rfl) rfl ?_
    refine wl_y (y_pickt rfl rfl) rfl ?_
    refine wl_y (y_assign rfl) rfl ?_
    refine wl_nil ?_
    refine wq_then_norm (hK2 ?_)
    refine wc_ret ?_
    refine hret rfl ?_
    exact ⟨ret_bool ⟨fun h => by omega, fun h => by omega⟩, E⟩
  · skip
    refine wl_gno 5 rfl rfl rfl rfl ?_
    refine wl_gno 5 rfl rfl rfl rfl ?_
    refine wl_y (y_pickf rfl rfl) rfl ?_
    refine wl_y (y_assign rfl) rfl ?_
    refine wl_nil ?_
    refine wq_then_norm (hK2 ?_)
    refine wc_ret ?_
    refine hret rfl ?_
    exact ⟨ret_no fun h => by omega, E⟩
theorem rightProp_any (w : World) (H : PropAt w cs q) (hf : q.Fit) :
    Calls Tryz.prog 37 #[.agg cs] w fun e w' => e = .returned (.bool (decide (okProp q))) ∧ Ext w w' := by
  have HP := H.pack
  have HL := H.leaf
  obtain ⟨i, h0, h1, h2, h4, h5, g, l0, l1, l2, l4, l5, rfl, hk, hs, ht, hz, _⟩ := H
  have E := Ext.refl w
  refine vc_enter1 50 Tryz.func37 rfl rfl rfl rfl ?_
  intro Q hret
  refine wc_seq ?_; intro K1 hK1
  refine wc_region ?_
  refine wl_ef (ef_box rfl rfl) rfl ?_
  rintro _ wB1 ⟨gB1, rfl, B1, hgB1, ex⟩
  have lB1 := B1.lt; have zB1 := ex.size
  replace E := E.ext ex
  refine wl_y (y_assign rfl) rfl ?_
  refine wl_nil ?_
  refine wq_then_norm (hK1 ?_)
  refine wc_seq ?_; intro K2 hK2
  refine wc_seq ?_; intro K3 hK3
  refine wc_region ?_
  refine wl_y (y_fieldAddr (o := 0) (s := 1) (off := 0) (o' := 0) rfl Tryz.underlying32 rfl (by kernel_rfl) rfl rfl) rfl ?_
  refine wl_y (y_load1 rfl Tryz.underlying5 rfl (B1.get (i := 0) rfl)) rfl ?_
  refine wl_nil ?_
  refine wq_then_norm (hK3 ?_)
  refine wc_block ?_
  refine wc_seq ?_; intro K4 hK4
  refine wc_region ?_
  refine wl_yask (y_eql rfl rfl) rfl (fun k1 => ?_) (fun k1 => ?_)
  · skip
    refine wl_y (y_assign rfl) rfl ?_
    refine wl_nil ?_
    refine wq_then_norm (hK4 ?_)
    refine wc_true rfl rfl ?_
    refine wc_seq ?_; intro K5 hK5
    refine wc_region ?_
    refine wl_y (y_fieldAddr (o := 1) (s := 8) (off := 0) (o' := 1) rfl Tryz.underlying32 rfl (by kernel_rfl) rfl rfl) rfl ?_
    refine wl_y (y_loadx (o := 1) (s := 8) rfl Tryz.underlying27 rfl (by kernel_rfl) B1 rfl) rfl ?_
    refine wl_call Tryz.func33 rfl rfl rfl (rightPack_any _ (HP.ext E) hf.1) rfl ?_
    rintro e w2 ⟨rfl, ex⟩
    refine ⟨_, rfl, ?_⟩
    replace E := E.ext ex
    replace B1 := B1.ext ex
    skip
    refine wl_yask (y_move rfl) rfl (fun a1 => ?_) (fun a1 => ?_)
    · skip
      refine wl_gy 10 rfl rfl (y_fieldAddr (o := 9) (s := 6) (off := 0) (o' := 9) rfl Tryz.underlying32 rfl (by kernel_rfl) rfl rfl) rfl ?_
      refine wl_gy 10 rfl rfl (y_loadx (o := 9) (s := 6) rfl Tryz.underlying25 rfl (by kernel_rfl) B1 rfl) rfl ?_
      refine wl_gcall 10 rfl rfl Tryz.func84 rfl rfl rfl (noLeaf20_any _ (HL.ext E) hf.2) rfl ?_
      rintro e w3 ⟨rfl, ex⟩
      refine ⟨_, rfl, ?_⟩
      replace E := E.ext ex
      replace B1 := B1.ext ex
      skip
      refine wl_y (y_pickt rfl rfl) rfl ?_
      refine wl_yask (y_move rfl) rfl (fun b1 => ?_) (fun b1 => ?_)
      · skip
        refine wl_gy 15 rfl rfl (y_fieldAddr (o := 15) (s := 1) (off := 0) (o' := 15) rfl Tryz.underlying32 rfl (by kernel_rfl) rfl rfl) rfl ?_
        refine wl_gy 15 rfl rfl (y_load1 rfl Tryz.underlying3 rfl (B1.get (i := 15) rfl)) rfl ?_
        refine wl_gy 15 rfl rfl (y_eql rfl rfl) rfl ?_
        refine wl_y (y_pickt rfl rfl) rfl ?_
        refine wl_y (y_assign rfl) rfl ?_
        refine wl_nil ?_
        refine wq_then_norm (hK5 ?_)
        refine wc_ret ?_
        refine wq_blk_ret ?_
        refine wq_then_ret ?_
        refine hret rfl ?_
        exact ⟨ret_bool ⟨fun h => .inl ⟨by omega, a1, b1, h⟩, fun h => by rcases h with h | h | h <;> first | exact h.2.2.2 | (exfalso; omega)⟩, E⟩
      · skip
        refine wl_gno 15 rfl rfl rfl rfl ?_
        refine wl_gno 15 rfl rfl rfl rfl ?_
        refine wl_gno 15 rfl rfl rfl rfl ?_
        refine wl_y (y_pickf rfl rfl) rfl ?_
        refine wl_y (y_assign rfl) rfl ?_
        refine wl_nil ?_
        refine wq_then_norm (hK5 ?_)
        refine wc_ret ?_
        refine wq_blk_ret ?_
        refine wq_then_ret ?_
        refine hret rfl ?_
        exact ⟨ret_no fun h => b1 (by rcases h with h | h | h <;> first | exact h.2.2.1 | (exfalso; omega)), E⟩
    · skip
      refine wl_gno 10 rfl rfl rfl rfl ?_
      refine wl_gno 10 rfl rfl rfl rfl ?_
      refine wl_gno 10 rfl rfl rfl rfl ?_
      refine wl_y (y_pickf rfl rfl) rfl ?_
      refine wl_y (y_move rfl) rfl ?_
      refine wl_gno 15 rfl rfl rfl rfl ?_
      refine wl_gno 15 rfl rfl rfl rfl ?_
      refine wl_gno 15 rfl rfl rfl rfl ?_
      refine wl_y (y_pickf rfl rfl) rfl ?_
      refine wl_y (y_assign rfl) rfl ?_
      refine wl_nil ?_
      refine wq_then_norm (hK5 ?_)
      refine wc_ret ?_
      refine wq_blk_ret ?_
      refine wq_then_ret ?_
      refine hret rfl ?_
      exact ⟨ret_no fun h => a1 (by rcases h with h | h | h <;> first | exact h.2.1 | (exfalso; omega)), E⟩
  · skip
    refine wl_y (y_assign rfl) rfl ?_
    refine wl_nil ?_
    refine wq_then_norm (hK4 ?_)
    refine wc_false rfl rfl ?_
    refine wc_seq ?_; intro K6 hK6
    refine wc_region ?_
    refine wl_yask (y_eql rfl rfl) rfl (fun k2 => ?_) (fun k2 => ?_)
    · skip
      refine wl_y (y_assign rfl) rfl ?_
      refine wl_nil ?_
      refine wq_then_norm (hK6 ?_)
      refine wc_true rfl rfl ?_
      refine wc_seq ?_; intro K7 hK7
      refine wc_region ?_
      refine wl_y (y_fieldAddr (o := 1) (s := 8) (off := 0) (o' := 1) rfl Tryz.underlying32 rfl (by kernel_rfl) rfl rfl) rfl ?_
      refine wl_y (y_loadx (o := 1) (s := 8) rfl Tryz.underlying27 rfl (by kernel_rfl) B1 rfl) rfl ?_
      refine wl_call Tryz.func85 rfl rfl rfl (noPack_any _ (HP.ext E) hf.1) rfl ?_
      rintro e w2 ⟨rfl, ex⟩
      refine ⟨_, rfl, ?_⟩
      replace E := E.ext ex
      replace B1 := B1.ext ex
      skip
      refine wl_yask (y_move rfl) rfl (fun a1 => ?_) (fun a1 => ?_)
      · skip
        refine wl_gy 25 rfl rfl (y_fieldAddr (o := 9) (s := 6) (off := 0) (o' := 9) rfl Tryz.underlying32 rfl (by kernel_rfl) rfl rfl) rfl ?_
        refine wl_gy 25 rfl rfl (y_loadx (o := 9) (s := 6) rfl Tryz.underlying25 rfl (by kernel_rfl) B1 rfl) rfl ?_
        refine wl_gcall 25 rfl rfl Tryz.func82 rfl rfl rfl (rightLeaf20_any (s := 2) _ (HL.ext E) hf.2) rfl ?_
        rintro e w3 ⟨rfl, ex⟩
        refine ⟨_, rfl, ?_⟩
        replace E := E.ext ex
        replace B1 := B1.ext ex
        skip
        refine wl_y (y_pickt rfl rfl) rfl ?_
        refine wl_yask (y_move rfl) rfl (fun b1 => ?_) (fun b1 => ?_)
        · skip
          refine wl_gy 30 rfl rfl (y_fieldAddr (o := 15) (s := 1) (off := 0) (o' := 15) rfl Tryz.underlying32 rfl (by kernel_rfl) rfl rfl) rfl ?_
          refine wl_gy 30 rfl rfl (y_load1 rfl Tryz.underlying3 rfl (B1.get (i := 15) rfl)) rfl ?_
          refine wl_gy 30 rfl rfl (y_eql rfl rfl) rfl ?_
          refine wl_y (y_pickt rfl rfl) rfl ?_
          refine wl_y (y_assign rfl) rfl ?_
          refine wl_nil ?_
          refine wq_then_norm (hK7 ?_)
          refine wc_ret ?_
          refine wq_blk_ret ?_
          refine wq_then_ret ?_
          refine hret rfl ?_
          exact ⟨ret_bool ⟨fun h => .inr (.inl ⟨by omega, a1, b1, h⟩), fun h => by rcases h with h | h | h <;> first | exact h.2.2.2 | (exfalso; omega)⟩, E⟩
        · skip
          refine wl_gno 30 rfl rfl rfl rfl ?_
          refine wl_gno 30 rfl rfl rfl rfl ?_
          refine wl_gno 30 rfl rfl rfl rfl ?_
          refine wl_y (y_pickf rfl rfl) rfl ?_
          refine wl_y (y_assign rfl) rfl ?_
          refine wl_nil ?_
          refine wq_then_norm (hK7 ?_)
          refine wc_ret ?_
          refine wq_blk_ret ?_
          refine wq_then_ret ?_
          refine hret rfl ?_
          exact ⟨ret_no fun h => b1 (by rcases h with h | h | h <;> first | exact h.2.2.1 | (exfalso; omega)), E⟩
      · skip
        refine wl_gno 25 rfl rfl rfl rfl ?_
        refine wl_gno 25 rfl rfl rfl rfl ?_
        refine wl_gno 25 rfl rfl rfl rfl ?_
        refine wl_y (y_pickf rfl rfl) rfl ?_
        refine wl_y (y_move rfl) rfl ?_
        refine wl_gno 30 rfl rfl rfl rfl ?_
        refine wl_gno 30 rfl rfl rfl rfl ?_
        refine wl_gno 30 rfl rfl rfl rfl ?_
        refine wl_y (y_pickf rfl rfl) rfl ?_
        refine wl_y (y_assign rfl) rfl ?_
        refine wl_nil ?_
        refine wq_then_norm (hK7 ?_)
        refine wc_ret ?_
        refine wq_blk_ret ?_
        refine wq_then_ret ?_
        refine hret rfl ?_
        exact ⟨ret_no fun h => a1 (by rcases h with h | h | h <;> first | exact h.2.1 | (exfalso; omega)), E⟩
    · skip
      refine wl_y (y_assign rfl) rfl ?_
      refine wl_nil ?_
      refine wq_then_norm (hK6 ?_)
      refine wc_false rfl rfl ?_
      refine wc_seq ?_; intro K8 hK8
      refine wc_region ?_
      refine wl_yask (y_eql rfl rfl) rfl (fun k3 => ?_) (fun k3 => ?_)
      · skip
        refine wl_y (y_assign rfl) rfl ?_
        refine wl_nil ?_
        refine wq_then_norm (hK8 ?_)
        refine wc_true rfl rfl ?_
        refine wc_seq ?_; intro K9 hK9
        refine wc_region ?_
        refine wl_y (y_fieldAddr (o := 1) (s := 8) (off := 0) (o' := 1) rfl Tryz.underlying32 rfl (by kernel_rfl) rfl rfl) rfl ?_
        refine wl_y (y_loadx (o := 1) (s := 8) rfl Tryz.underlying27 rfl (by kernel_rfl) B1 rfl) rfl ?_
        refine wl_call Tryz.func85 rfl rfl rfl (noPack_any _ (HP.ext E) hf.1) rfl ?_
        rintro e w2 ⟨rfl, ex⟩
        refine ⟨_, rfl, ?_⟩
        replace E := E.ext ex
        replace B1 := B1.ext ex
        skip
        refine wl_yask (y_move rfl) rfl (fun a1 => ?_) (fun a1 => ?_)
        · skip
          refine wl_gy 40 rfl rfl (y_fieldAddr (o := 9) (s := 6) (off := 0) (o' := 9) rfl Tryz.underlying32 rfl (by kernel_rfl) rfl rfl) rfl ?_
          refine wl_gy 40 rfl rfl (y_loadx (o := 9) (s := 6) rfl Tryz.underlying25 rfl (by kernel_rfl) B1 rfl) rfl ?_
          refine wl_gcall 40 rfl rfl Tryz.func84 rfl rfl rfl (noLeaf20_any _ (HL.ext E) hf.2) rfl ?_
          rintro e w3 ⟨rfl, ex⟩
          refine ⟨_, rfl, ?_⟩
          replace E := E.ext ex
          replace B1 := B1.ext ex
          skip
          refine wl_y (y_pickt rfl rfl) rfl ?_
          refine wl_yask (y_move rfl) rfl (fun b1 => ?_) (fun b1 => ?_)
          · skip
            refine wl_gy 45 rfl rfl (y_fieldAddr (o := 15) (s := 1) (off := 0) (o' := 15) rfl Tryz.underlying32 rfl (by kernel_rfl) rfl rfl) rfl ?_
            refine wl_gy 45 rfl rfl (y_load1 rfl Tryz.underlying3 rfl (B1.get (i := 15) rfl)) rfl ?_
            refine wl_gcall 45 rfl rfl Tryz.func86 rfl rfl rfl (place_any _ _) rfl ?_
            rintro e w4 ⟨rfl, ex⟩
            refine ⟨_, rfl, ?_⟩
            replace E := E.ext ex
            replace B1 := B1.ext ex
            skip
            refine wl_y (y_pickt rfl rfl) rfl ?_
            refine wl_y (y_assign rfl) rfl ?_
            refine wl_nil ?_
            refine wq_then_norm (hK9 ?_)
            refine wc_ret ?_
            refine wq_blk_ret ?_
            refine wq_then_ret ?_
            refine hret rfl ?_
            exact ⟨ret_bool ⟨fun h => .inr (.inr ⟨by omega, a1, b1, h⟩), fun h => by rcases h with h | h | h <;> first | exact h.2.2.2 | (exfalso; omega)⟩, E⟩
          · skip
            refine wl_gno 45 rfl rfl rfl rfl ?_
            refine wl_gno 45 rfl rfl rfl rfl ?_
            refine wl_gno 45 rfl rfl rfl rfl ?_
            refine wl_y (y_pickf rfl rfl) rfl ?_
            refine wl_y (y_assign rfl) rfl ?_
            refine wl_nil ?_
            refine wq_then_norm (hK9 ?_)
            refine wc_ret ?_
            refine wq_blk_ret ?_
            refine wq_then_ret ?_
            refine hret rfl ?_
            exact ⟨ret_no fun h => b1 (by rcases h with h | h | h <;> first | exact h.2.2.1 | (exfalso; omega)), E⟩
        · skip
          refine wl_gno 40 rfl rfl rfl rfl ?_
          refine wl_gno 40 rfl rfl rfl rfl ?_
          refine wl_gno 40 rfl rfl rfl rfl ?_
          refine wl_y (y_pickf rfl rfl) rfl ?_
          refine wl_y (y_move rfl) rfl ?_
          refine wl_gno 45 rfl rfl rfl rfl ?_
          refine wl_gno 45 rfl rfl rfl rfl ?_
          refine wl_gno 45 rfl rfl rfl rfl ?_
          refine wl_y (y_pickf rfl rfl) rfl ?_
          refine wl_y (y_assign rfl) rfl ?_
          refine wl_nil ?_
          refine wq_then_norm (hK9 ?_)
          refine wc_ret ?_
          refine wq_blk_ret ?_
          refine wq_then_ret ?_
          refine hret rfl ?_
          exact ⟨ret_no fun h => a1 (by rcases h with h | h | h <;> first | exact h.2.1 | (exfalso; omega)), E⟩
      · skip
        refine wl_y (y_assign rfl) rfl ?_
        refine wl_nil ?_
        refine wq_then_norm (hK8 ?_)
        refine wc_false rfl rfl ?_
        refine wc_skip ?_
        refine wq_blk_norm ?_
        refine wq_then_norm (hK2 ?_)
        refine wc_seq ?_; intro K10 hK10
        refine wc_region ?_
        refine wl_y (y_assign rfl) rfl ?_
        refine wl_nil ?_
        refine wq_then_norm (hK10 ?_)
        refine wc_ret ?_
        refine hret rfl ?_
        exact ⟨ret_no fun h => by rcases h with h | h | h <;> omega, E⟩
theorem noProp_any (w : World) (H : PropAt w cs q) (hf : q.Fit) :
    Calls Tryz.prog 105 #[.agg cs] w fun e w' => e = .returned (.bool (decide (noProp q))) ∧ Ext w w' := by
  have HP := H.pack
  have HL := H.leaf
  obtain ⟨i, h0, h1, h2, h4, h5, g, l0, l1, l2, l4, l5, rfl, hk, hs, ht, hz, _⟩ := H
  have E := Ext.refl w
  refine vc_enter1 21 Tryz.func105 rfl rfl rfl rfl ?_
  intro Q hret
  refine wc_seq ?_; intro K1 hK1
  refine wc_region ?_
  refine wl_ef (ef_box rfl rfl) rfl ?_
  rintro _ wB1 ⟨gB1, rfl, B1, hgB1, ex⟩
  have lB1 := B1.lt; have zB1 := ex.size
  replace E := E.ext ex
  refine wl_y (y_assign rfl) rfl ?_
  refine wl_nil ?_
  refine wq_then_norm (hK1 ?_)
  refine wc_seq ?_; intro K2 hK2
  refine wc_region ?_
  refine wl_y (y_fieldAddr (o := 0) (s := 1) (off := 0) (o' := 0) rfl Tryz.underlying32 rfl (by kernel_rfl) rfl rfl) rfl ?_
  refine wl_y (y_load1 rfl Tryz.underlying5 rfl (B1.get (i := 0) rfl)) rfl ?_
  refine wl_y (y_eql rfl rfl) rfl ?_
  refine wl_yask (y_move rfl) rfl (fun k0 => ?_) (fun k0 => ?_)
  · skip
    refine wl_gy 6 rfl rfl (y_fieldAddr (o := 1) (s := 8) (off := 0) (o' := 1) rfl Tryz.underlying32 rfl (by kernel_rfl) rfl rfl) rfl ?_
    refine wl_gy 6 rfl rfl (y_loadx (o := 1) (s := 8) rfl Tryz.underlying27 rfl (by kernel_rfl) B1 rfl) rfl ?_
    refine wl_gcall 6 rfl rfl Tryz.func85 rfl rfl rfl (noPack_any _ (HP.ext E) hf.1) rfl ?_
    rintro e w2 ⟨rfl, ex⟩
    refine ⟨_, rfl, ?_⟩
    replace E := E.ext ex
    replace B1 := B1.ext ex
    skip
    refine wl_y (y_pickt rfl rfl) rfl ?_
    refine wl_yask (y_move rfl) rfl (fun a1 => ?_) (fun a1 => ?_)
    · skip
      refine wl_gy 11 rfl rfl (y_fieldAddr (o := 9) (s := 6) (off := 0) (o' := 9) rfl Tryz.underlying32 rfl (by kernel_rfl) rfl rfl) rfl ?_
      refine wl_gy 11 rfl rfl (y_loadx (o := 9) (s := 6) rfl Tryz.underlying25 rfl (by kernel_rfl) B1 rfl) rfl ?_
      refine wl_gcall 11 rfl rfl Tryz.func84 rfl rfl rfl (noLeaf20_any _ (HL.ext E) hf.2) rfl ?_
      rintro e w3 ⟨rfl, ex⟩
      refine ⟨_, rfl, ?_⟩
      replace E := E.ext ex
      replace B1 := B1.ext ex
      skip
      refine wl_y (y_pickt rfl rfl) rfl ?_
      refine wl_yask (y_move rfl) rfl (fun b1 => ?_) (fun b1 => ?_)
      · skip
        refine wl_gy 16 rfl rfl (y_fieldAddr (o := 15) (s := 1) (off := 0) (o' := 15) rfl Tryz.underlying32 rfl (by kernel_rfl) rfl rfl) rfl ?_
        refine wl_gy 16 rfl rfl (y_load1 rfl Tryz.underlying3 rfl (B1.get (i := 15) rfl)) rfl ?_
        refine wl_gy 16 rfl rfl (y_eql rfl rfl) rfl ?_
        refine wl_y (y_pickt rfl rfl) rfl ?_
        refine wl_y (y_assign rfl) rfl ?_
        refine wl_nil ?_
        refine wq_then_norm (hK2 ?_)
        refine wc_ret ?_
        refine hret rfl ?_
        exact ⟨ret_bool ⟨fun h => ⟨by omega, a1, b1, h⟩, fun h => h.2.2.2⟩, E⟩
      · skip
        refine wl_gno 16 rfl rfl rfl rfl ?_
        refine wl_gno 16 rfl rfl rfl rfl ?_
        refine wl_gno 16 rfl rfl rfl rfl ?_
        refine wl_y (y_pickf rfl rfl) rfl ?_
        refine wl_y (y_assign rfl) rfl ?_
        refine wl_nil ?_
        refine wq_then_norm (hK2 ?_)
        refine wc_ret ?_
        refine hret rfl ?_
        exact ⟨ret_no fun h => b1 h.2.2.1, E⟩
    · skip
      refine wl_gno 11 rfl rfl rfl rfl ?_
      refine wl_gno 11 rfl rfl rfl rfl ?_
      refine wl_gno 11 rfl rfl rfl rfl ?_
      refine wl_y (y_pickf rfl rfl) rfl ?_
      refine wl_y (y_move rfl) rfl ?_
      refine wl_gno 16 rfl rfl rfl rfl ?_
      refine wl_gno 16 rfl rfl rfl rfl ?_
      refine wl_gno 16 rfl rfl rfl rfl ?_
      refine wl_y (y_pickf rfl rfl) rfl ?_
      refine wl_y (y_assign rfl) rfl ?_
      refine wl_nil ?_
      refine wq_then_norm (hK2 ?_)
      refine wc_ret ?_
      refine hret rfl ?_
      exact ⟨ret_no fun h => a1 h.2.1, E⟩
  · skip
    refine wl_gno 6 rfl rfl rfl rfl ?_
    refine wl_gno 6 rfl rfl rfl rfl ?_
    refine wl_gno 6 rfl rfl rfl rfl ?_
    refine wl_y (y_pickf rfl rfl) rfl ?_
    refine wl_y (y_move rfl) rfl ?_
    refine wl_gno 11 rfl rfl rfl rfl ?_
    refine wl_gno 11 rfl rfl rfl rfl ?_
    refine wl_gno 11 rfl rfl rfl rfl ?_
    refine wl_y (y_pickf rfl rfl) rfl ?_
    refine wl_y (y_move rfl) rfl ?_
    refine wl_gno 16 rfl rfl rfl rfl ?_
    refine wl_gno 16 rfl rfl rfl rfl ?_
    refine wl_gno 16 rfl rfl rfl rfl ?_
    refine wl_y (y_pickf rfl rfl) rfl ?_
    refine wl_y (y_assign rfl) rfl ?_
    refine wl_nil ?_
    refine wq_then_norm (hK2 ?_)
    refine wc_ret ?_
    refine hret rfl ?_
    exact ⟨ret_no fun h => by have := h.1; omega, E⟩
theorem rNoProp_any (w : World) (H : PropAt w cs q) (hf : q.Fit) :
    Calls Tryz.prog 102 #[.agg cs] w fun e w' => e = .returned (.bool (decide (noProp q))) ∧ Ext w w' := by
  have HP := H.pack
  have HL := H.leaf
  obtain ⟨i, h0, h1, h2, h4, h5, g, l0, l1, l2, l4, l5, rfl, hk, hs, ht, hz, _⟩ := H
  have E := Ext.refl w
  refine vc_enter1 21 Tryz.func102 rfl rfl rfl rfl ?_
  intro Q hret
  refine wc_seq ?_; intro K1 hK1
  refine wc_region ?_
  refine wl_ef (ef_box rfl rfl) rfl ?_
  rintro _ wB1 ⟨gB1, rfl, B1, hgB1, ex⟩
  have lB1 := B1.lt; have zB1 := ex.size
  replace E := E.ext ex
  refine wl_y (y_assign rfl) rfl ?_
  refine wl_nil ?_
  refine wq_then_norm (hK1 ?_)
  refine wc_seq ?_; intro K2 hK2
  refine wc_region ?_
  refine wl_y (y_fieldAddr (o := 0) (s := 1) (off := 0) (o' := 0) rfl Tryz.underlying32 rfl (by kernel_rfl) rfl rfl) rfl ?_
  refine wl_y (y_load1 rfl Tryz.underlying5 rfl (B1.get (i := 0) rfl)) rfl ?_
  refine wl_y (y_eql rfl rfl) rfl ?_
  refine wl_yask (y_move rfl) rfl (fun k0 => ?_) (fun k0 => ?_)
  · skip
    refine wl_gy 6 rfl rfl (y_fieldAddr (o := 1) (s := 8) (off := 0) (o' := 1) rfl Tryz.underlying32 rfl (by kernel_rfl) rfl rfl) rfl ?_
    refine wl_gy 6 rfl rfl (y_loadx (o := 1) (s := 8) rfl Tryz.underlying27 rfl (by kernel_rfl) B1 rfl) rfl ?_
    refine wl_gcall 6 rfl rfl Tryz.func98 rfl rfl rfl (rNoPack_any _ (HP.ext E) hf.1) rfl ?_
    rintro e w2 ⟨rfl, ex⟩
    refine ⟨_, rfl, ?_⟩
    replace E := E.ext ex
    replace B1 := B1.ext ex
    skip
    refine wl_y (y_pickt rfl rfl) rfl ?_
    refine wl_yask (y_move rfl) rfl (fun a1 => ?_) (fun a1 => ?_)
    · skip
      refine wl_gy 11 rfl rfl (y_fieldAddr (o := 9) (s := 6) (off := 0) (o' := 9) rfl Tryz.underlying32 rfl (by kernel_rfl) rfl rfl) rfl ?_
      refine wl_gy 11 rfl rfl (y_loadx (o := 9) (s := 6) rfl Tryz.underlying25 rfl (by kernel_rfl) B1 rfl) rfl ?_
      refine wl_gcall 11 rfl rfl Tryz.func99 rfl rfl rfl (rNoLeaf20_any _ (HL.ext E) hf.2) rfl ?_
      rintro e w3 ⟨rfl, ex⟩
      refine ⟨_, rfl, ?_⟩
      replace E := E.ext ex
      replace B1 := B1.ext ex
      skip
      refine wl_y (y_pickt rfl rfl) rfl ?_
      refine wl_yask (y_move rfl) rfl (fun b1 => ?_) (fun b1 => ?_)
      · skip
        refine wl_gy 16 rfl rfl (y_fieldAddr (o := 15) (s := 1) (off := 0) (o' := 15) rfl Tryz.underlying32 rfl (by kernel_rfl) rfl rfl) rfl ?_
        refine wl_gy 16 rfl rfl (y_load1 rfl Tryz.underlying3 rfl (B1.get (i := 15) rfl)) rfl ?_
        refine wl_gy 16 rfl rfl (y_eql rfl rfl) rfl ?_
        refine wl_y (y_pickt rfl rfl) rfl ?_
        refine wl_y (y_assign rfl) rfl ?_
        refine wl_nil ?_
        refine wq_then_norm (hK2 ?_)
        refine wc_ret ?_
        refine hret rfl ?_
        exact ⟨ret_bool ⟨fun h => ⟨by omega, a1, b1, h⟩, fun h => h.2.2.2⟩, E⟩
      · skip
        refine wl_gno 16 rfl rfl rfl rfl ?_
        refine wl_gno 16 rfl rfl rfl rfl ?_
        refine wl_gno 16 rfl rfl rfl rfl ?_
        refine wl_y (y_pickf rfl rfl) rfl ?_
        refine wl_y (y_assign rfl) rfl ?_
        refine wl_nil ?_
        refine wq_then_norm (hK2 ?_)
        refine wc_ret ?_
        refine hret rfl ?_
        exact ⟨ret_no fun h => b1 h.2.2.1, E⟩
    · skip
      refine wl_gno 11 rfl rfl rfl rfl ?_
      refine wl_gno 11 rfl rfl rfl rfl ?_
      refine wl_gno 11 rfl rfl rfl rfl ?_
      refine wl_y (y_pickf rfl rfl) rfl ?_
      refine wl_y (y_move rfl) rfl ?_
      refine wl_gno 16 rfl rfl rfl rfl ?_
      refine wl_gno 16 rfl rfl rfl rfl ?_
      refine wl_gno 16 rfl rfl rfl rfl ?_
      refine wl_y (y_pickf rfl rfl) rfl ?_
      refine wl_y (y_assign rfl) rfl ?_
      refine wl_nil ?_
      refine wq_then_norm (hK2 ?_)
      refine wc_ret ?_
      refine hret rfl ?_
      exact ⟨ret_no fun h => a1 h.2.1, E⟩
  · skip
    refine wl_gno 6 rfl rfl rfl rfl ?_
    refine wl_gno 6 rfl rfl rfl rfl ?_
    refine wl_gno 6 rfl rfl rfl rfl ?_
    refine wl_y (y_pickf rfl rfl) rfl ?_
    refine wl_y (y_move rfl) rfl ?_
    refine wl_gno 11 rfl rfl rfl rfl ?_
    refine wl_gno 11 rfl rfl rfl rfl ?_
    refine wl_gno 11 rfl rfl rfl rfl ?_
    refine wl_y (y_pickf rfl rfl) rfl ?_
    refine wl_y (y_move rfl) rfl ?_
    refine wl_gno 16 rfl rfl rfl rfl ?_
    refine wl_gno 16 rfl rfl rfl rfl ?_
    refine wl_gno 16 rfl rfl rfl rfl ?_
    refine wl_y (y_pickf rfl rfl) rfl ?_
    refine wl_y (y_assign rfl) rfl ?_
    refine wl_nil ?_
    refine wq_then_norm (hK2 ?_)
    refine wc_ret ?_
    refine hret rfl ?_
    exact ⟨ret_no fun h => by have := h.1; omega, E⟩
theorem rProp_any (w : World) (H : PropAt w cs q) (hf : q.Fit) :
    Calls Tryz.prog 46 #[.agg cs] w fun e w' => e = .returned (.bool (decide (okProp q))) ∧ Ext w w' := by
  have HP := H.pack
  have HL := H.leaf
  obtain ⟨i, h0, h1, h2, h4, h5, g, l0, l1, l2, l4, l5, rfl, hk, hs, ht, hz, _⟩ := H
  have E := Ext.refl w
  refine vc_enter1 66 Tryz.func46 rfl rfl rfl rfl ?_
  intro Q hret
  refine wc_seq ?_; intro K1 hK1
  refine wc_region ?_
  refine wl_ef (ef_box rfl rfl) rfl ?_
  rintro _ wB1 ⟨gB1, rfl, B1, hgB1, ex⟩
  have lB1 := B1.lt; have zB1 := ex.size
  replace E := E.ext ex
  refine wl_y (y_assign rfl) rfl ?_
  refine wl_nil ?_
  refine wq_then_norm (hK1 ?_)
  refine wc_seq ?_; intro K2 hK2
  refine wc_draw (by kernel_rfl) 12 rfl ?_; intro wd1 ex hd1
  replace E := E.ext ex
  replace B1 := B1.ext ex
  refine wm_y 0 rfl (by kernel_rfl) (y_fieldAddr (o := 1) (s := 8) (off := 0) (o' := 1) rfl Tryz.underlying32 rfl (by kernel_rfl) rfl rfl) rfl ?_
  refine wm_y 1 rfl (by kernel_rfl) (y_loadx (o := 1) (s := 8) rfl Tryz.underlying27 rfl (by kernel_rfl) B1 rfl) rfl ?_
  refine wm_y 3 rfl (by kernel_rfl) (y_fieldAddr (o := 9) (s := 6) (off := 0) (o' := 9) rfl Tryz.underlying32 rfl (by kernel_rfl) rfl rfl) rfl ?_
  refine wm_y 4 rfl (by kernel_rfl) (y_loadx (o := 9) (s := 6) rfl Tryz.underlying25 rfl (by kernel_rfl) B1 rfl) rfl ?_
  refine wm_y 6 rfl (by kernel_rfl) (y_fieldAddr (o := 15) (s := 1) (off := 0) (o' := 15) rfl Tryz.underlying32 rfl (by kernel_rfl) rfl rfl) rfl ?_
  refine wm_y 7 rfl (by kernel_rfl) (y_load1 rfl Tryz.underlying3 rfl (B1.get (i := 15) rfl)) rfl ?_
  refine wm_y 8 rfl (by kernel_rfl) (y_eql rfl rfl) rfl ?_
  refine wm_one 2 (by kernel_rfl) ?_; refine om_call rfl Tryz.func98 rfl rfl rfl (rNoPack_any _ (HP.ext E) hf.1) rfl ?_
  rintro e w2 ⟨rfl, ex⟩
  refine ⟨_, rfl, .inr ex, ?_⟩
  replace E := E.ext ex
  replace B1 := B1.ext ex
  skip
  refine wm_one 5 (by kernel_rfl) ?_; refine om_call rfl Tryz.func99 rfl rfl rfl (rNoLeaf20_any _ (HL.ext E) hf.2) rfl ?_
  rintro e w3 ⟨rfl, ex⟩
  refine ⟨_, rfl, .inr ex, ?_⟩
  replace E := E.ext ex
  replace B1 := B1.ext ex
  skip
  refine wm_y 9 rfl (by kernel_rfl) (y_assign rfl) rfl ?_
  refine wm_y 10 rfl (by kernel_rfl) (y_assign rfl) rfl ?_
  refine wm_y 11 rfl (by kernel_rfl) (y_assign rfl) rfl ?_
  refine wm_done (by kernel_rfl) ?_
  refine wq_nop ?_
  refine wq_then_norm (hK2 ?_)
  refine wc_seq ?_; intro K3 hK3
  refine wc_region ?_
  refine wl_y (y_fieldAddr (o := 0) (s := 1) (off := 0) (o' := 0) rfl Tryz.underlying32 rfl (by kernel_rfl) rfl rfl) rfl ?_
  refine wl_y (y_load1 rfl Tryz.underlying5 rfl (B1.get (i := 0) rfl)) rfl ?_
  refine wl_y (y_eql rfl rfl) rfl ?_
  refine wl_yask (y_move rfl) rfl (fun k1 => ?_) (fun k1 => ?_)
  · skip
    refine wl_gy 18 rfl rfl (y_fieldAddr (o := 1) (s := 8) (off := 0) (o' := 1) rfl Tryz.underlying32 rfl (by kernel_rfl) rfl rfl) rfl ?_
    refine wl_gy 18 rfl rfl (y_loadx (o := 1) (s := 8) rfl Tryz.underlying27 rfl (by kernel_rfl) B1 rfl) rfl ?_
    refine wl_gcall 18 rfl rfl Tryz.func44 rfl rfl rfl (rPack_any _ (HP.ext E)) rfl ?_
    rintro e w4 ⟨rfl, ex⟩
    refine ⟨_, rfl, ?_⟩
    replace E := E.ext ex
    replace B1 := B1.ext ex
    skip
    refine wl_y (y_pickt rfl rfl) rfl ?_
    refine wl_yask (y_move rfl) rfl (fun a1 => ?_) (fun a1 => ?_)
    · skip
      refine wl_gy 23 rfl rfl (y_move rfl) rfl ?_
      refine wl_y (y_pickt rfl rfl) rfl ?_
      refine wl_yask (y_move rfl) rfl (fun b1 => ?_) (fun b1 => ?_)
      · skip
        refine wl_gy 26 rfl rfl (y_move rfl) rfl ?_
        refine wl_y (y_pickt rfl rfl) rfl ?_
        refine wl_yask (y_move rfl) rfl (fun c1 => ?_) (fun c1 => ?_)
        · skip
          refine wl_gno 29 rfl rfl rfl rfl ?_
          refine wl_gno 29 rfl rfl rfl rfl ?_
          refine wl_gno 29 rfl rfl rfl rfl ?_
          refine wl_gno 29 rfl rfl rfl rfl ?_
          refine wl_gun 33 rfl rfl rfl ?_
          refine wl_gno 29 rfl rfl rfl rfl ?_
          refine wl_gno 29 rfl rfl rfl rfl ?_
          refine wl_gun 36 rfl rfl rfl ?_
          refine wl_gun 36 rfl rfl rfl ?_
          refine wl_gun 36 rfl rfl rfl ?_
          refine wl_gno 29 rfl rfl rfl rfl ?_
          refine wl_gno 29 rfl rfl rfl rfl ?_
          refine wl_gun 41 rfl rfl rfl ?_
          refine wl_gno 29 rfl rfl rfl rfl ?_
          refine wl_y (y_pickt rfl rfl) rfl ?_
          refine wl_y (y_move rfl) rfl ?_
          refine wl_gno 45 rfl rfl rfl rfl ?_
          refine wl_gno 45 rfl rfl rfl rfl ?_
          refine wl_gno 45 rfl rfl rfl rfl ?_
          refine wl_gno 45 rfl rfl rfl rfl ?_
          refine wl_gun 49 rfl rfl rfl ?_
          refine wl_gno 45 rfl rfl rfl rfl ?_
          refine wl_gno 45 rfl rfl rfl rfl ?_
          refine wl_gun 52 rfl rfl rfl ?_
          refine wl_gno 45 rfl rfl rfl rfl ?_
          refine wl_gno 45 rfl rfl rfl rfl ?_
          refine wl_gun 55 rfl rfl rfl ?_
          refine wl_gun 55 rfl rfl rfl ?_
          refine wl_gun 55 rfl rfl rfl ?_
          refine wl_gno 45 rfl rfl rfl rfl ?_
          refine wl_gno 45 rfl rfl rfl rfl ?_
          refine wl_gun 60 rfl rfl rfl ?_
          refine wl_gun 60 rfl rfl rfl ?_
          refine wl_gun 60 rfl rfl rfl ?_
          refine wl_gno 45 rfl rfl rfl rfl ?_
          refine wl_y (y_pickt rfl rfl) rfl ?_
          refine wl_y (y_assign rfl) rfl ?_
          refine wl_nil ?_
          refine wq_then_norm (hK3 ?_)
          refine wc_ret ?_
          refine hret rfl ?_
          exact ⟨ret_yes (.inl ⟨by omega, a1, b1, c1⟩), E⟩
        · skip
          refine wl_gy 29 rfl rfl (y_fieldAddr (o := 0) (s := 1) (off := 0) (o' := 0) rfl Tryz.underlying32 rfl (by kernel_rfl) rfl rfl) rfl ?_
          refine wl_gy 29 rfl rfl (y_load1 rfl Tryz.underlying5 rfl (B1.get (i := 0) rfl)) rfl ?_
          refine wl_gy 29 rfl rfl (y_eql rfl rfl) rfl ?_
          refine wl_gyask 29 rfl rfl (y_move rfl) rfl (fun k2 => ?_) (fun k2 => ?_)
          · skip
            omega
          · skip
            refine wl_gno 33 rfl rfl rfl rfl ?_
            refine wl_gy 29 rfl rfl (y_pickf rfl rfl) rfl ?_
            refine wl_gy 29 rfl rfl (y_move rfl) rfl ?_
            refine wl_gno 36 rfl rfl rfl rfl ?_
            refine wl_gno 36 rfl rfl rfl rfl ?_
            refine wl_gno 36 rfl rfl rfl rfl ?_
            refine wl_gy 29 rfl rfl (y_pickf rfl rfl) rfl ?_
            refine wl_gy 29 rfl rfl (y_move rfl) rfl ?_
            refine wl_gno 41 rfl rfl rfl rfl ?_
            refine wl_gy 29 rfl rfl (y_pickf rfl rfl) rfl ?_
            refine wl_y (y_pickf rfl rfl) rfl ?_
            refine wl_y (y_move rfl) rfl ?_
            refine wl_gy 45 rfl rfl (y_fieldAddr (o := 0) (s := 1) (off := 0) (o' := 0) rfl Tryz.underlying32 rfl (by kernel_rfl) rfl rfl) rfl ?_
            refine wl_gy 45 rfl rfl (y_load1 rfl Tryz.underlying5 rfl (B1.get (i := 0) rfl)) rfl ?_
            refine wl_gy 45 rfl rfl (y_eql rfl rfl) rfl ?_
            refine wl_gyask 45 rfl rfl (y_move rfl) rfl (fun k3 => ?_) (fun k3 => ?_)
            · skip
              omega
            · skip
              refine wl_gno 49 rfl rfl rfl rfl ?_
              refine wl_gy 45 rfl rfl (y_pickf rfl rfl) rfl ?_
              refine wl_gy 45 rfl rfl (y_move rfl) rfl ?_
              refine wl_gno 52 rfl rfl rfl rfl ?_
              refine wl_gy 45 rfl rfl (y_pickf rfl rfl) rfl ?_
              refine wl_gy 45 rfl rfl (y_move rfl) rfl ?_
              refine wl_gno 55 rfl rfl rfl rfl ?_
              refine wl_gno 55 rfl rfl rfl rfl ?_
              refine wl_gno 55 rfl rfl rfl rfl ?_
              refine wl_gy 45 rfl rfl (y_pickf rfl rfl) rfl ?_
              refine wl_gy 45 rfl rfl (y_move rfl) rfl ?_
              refine wl_gno 60 rfl rfl rfl rfl ?_
              refine wl_gno 60 rfl rfl rfl rfl ?_
              refine wl_gno 60 rfl rfl rfl rfl ?_
              refine wl_gy 45 rfl rfl (y_pickf rfl rfl) rfl ?_
              refine wl_y (y_pickf rfl rfl) rfl ?_
              refine wl_y (y_assign rfl) rfl ?_
              refine wl_nil ?_
              refine wq_then_norm (hK3 ?_)
              refine wc_ret ?_
              refine hret rfl ?_
              exact ⟨ret_no fun h => c1 (by rcases h with h | h | h <;> first | exact h.2.2.2 | (exfalso; omega)), E⟩
      · skip
        refine wl_gno 26 rfl rfl rfl rfl ?_
        refine wl_y (y_pickf rfl rfl) rfl ?_
        refine wl_y (y_move rfl) rfl ?_
        refine wl_gy 29 rfl rfl (y_fieldAddr (o := 0) (s := 1) (off := 0) (o' := 0) rfl Tryz.underlying32 rfl (by kernel_rfl) rfl rfl) rfl ?_
        refine wl_gy 29 rfl rfl (y_load1 rfl Tryz.underlying5 rfl (B1.get (i := 0) rfl)) rfl ?_
        refine wl_gy 29 rfl rfl (y_eql rfl rfl) rfl ?_
        refine wl_gyask 29 rfl rfl (y_move rfl) rfl (fun k2 => ?_) (fun k2 => ?_)
        · skip
          omega
        · skip
          refine wl_gno 33 rfl rfl rfl rfl ?_
          refine wl_gy 29 rfl rfl (y_pickf rfl rfl) rfl ?_
          refine wl_gy 29 rfl rfl (y_move rfl) rfl ?_
          refine wl_gno 36 rfl rfl rfl rfl ?_
          refine wl_gno 36 rfl rfl rfl rfl ?_
          refine wl_gno 36 rfl rfl rfl rfl ?_
          refine wl_gy 29 rfl rfl (y_pickf rfl rfl) rfl ?_
          refine wl_gy 29 rfl rfl (y_move rfl) rfl ?_
          refine wl_gno 41 rfl rfl rfl rfl ?_
          refine wl_gy 29 rfl rfl (y_pickf rfl rfl) rfl ?_
          refine wl_y (y_pickf rfl rfl) rfl ?_
          refine wl_y (y_move rfl) rfl ?_
          refine wl_gy 45 rfl rfl (y_fieldAddr (o := 0) (s := 1) (off := 0) (o' := 0) rfl Tryz.underlying32 rfl (by kernel_rfl) rfl rfl) rfl ?_
          refine wl_gy 45 rfl rfl (y_load1 rfl Tryz.underlying5 rfl (B1.get (i := 0) rfl)) rfl ?_
          refine wl_gy 45 rfl rfl (y_eql rfl rfl) rfl ?_
          refine wl_gyask 45 rfl rfl (y_move rfl) rfl (fun k3 => ?_) (fun k3 => ?_)
          · skip
            omega
          · skip
            refine wl_gno 49 rfl rfl rfl rfl ?_
            refine wl_gy 45 rfl rfl (y_pickf rfl rfl) rfl ?_
            refine wl_gy 45 rfl rfl (y_move rfl) rfl ?_
            refine wl_gno 52 rfl rfl rfl rfl ?_
            refine wl_gy 45 rfl rfl (y_pickf rfl rfl) rfl ?_
            refine wl_gy 45 rfl rfl (y_move rfl) rfl ?_
            refine wl_gno 55 rfl rfl rfl rfl ?_
            refine wl_gno 55 rfl rfl rfl rfl ?_
            refine wl_gno 55 rfl rfl rfl rfl ?_
            refine wl_gy 45 rfl rfl (y_pickf rfl rfl) rfl ?_
            refine wl_gy 45 rfl rfl (y_move rfl) rfl ?_
            refine wl_gno 60 rfl rfl rfl rfl ?_
            refine wl_gno 60 rfl rfl rfl rfl ?_
            refine wl_gno 60 rfl rfl rfl rfl ?_
            refine wl_gy 45 rfl rfl (y_pickf rfl rfl) rfl ?_
            refine wl_y (y_pickf rfl rfl) rfl ?_
            refine wl_y (y_assign rfl) rfl ?_
            refine wl_nil ?_
            refine wq_then_norm (hK3 ?_)
            refine wc_ret ?_
            refine hret rfl ?_
            exact ⟨ret_no fun h => b1 (by rcases h with h | h | h <;> first | exact h.2.2.1 | (exfalso; omega)), E⟩
    · skip
      refine wl_gno 23 rfl rfl rfl rfl ?_
      refine wl_y (y_pickf rfl rfl) rfl ?_
      refine wl_y (y_move rfl) rfl ?_
      refine wl_gno 26 rfl rfl rfl rfl ?_
      refine wl_y (y_pickf rfl rfl) rfl ?_
      refine wl_y (y_move rfl) rfl ?_
      refine wl_gy 29 rfl rfl (y_fieldAddr (o := 0) (s := 1) (off := 0) (o' := 0) rfl Tryz.underlying32 rfl (by kernel_rfl) rfl rfl) rfl ?_
      refine wl_gy 29 rfl rfl (y_load1 rfl Tryz.underlying5 rfl (B1.get (i := 0) rfl)) rfl ?_
      refine wl_gy 29 rfl rfl (y_eql rfl rfl) rfl ?_
      refine wl_gyask 29 rfl rfl (y_move rfl) rfl (fun k2 => ?_) (fun k2 => ?_)
      · skip
        omega
      · skip
        refine wl_gno 33 rfl rfl rfl rfl ?_
        refine wl_gy 29 rfl rfl (y_pickf rfl rfl) rfl ?_
        refine wl_gy 29 rfl rfl (y_move rfl) rfl ?_
        refine wl_gno 36 rfl rfl rfl rfl ?_
        refine wl_gno 36 rfl rfl rfl rfl ?_
        refine wl_gno 36 rfl rfl rfl rfl ?_
        refine wl_gy 29 rfl rfl (y_pickf rfl rfl) rfl ?_
        refine wl_gy 29 rfl rfl (y_move rfl) rfl ?_
        refine wl_gno 41 rfl rfl rfl rfl ?_
        refine wl_gy 29 rfl rfl (y_pickf rfl rfl) rfl ?_
        refine wl_y (y_pickf rfl rfl) rfl ?_
        refine wl_y (y_move rfl) rfl ?_
        refine wl_gy 45 rfl rfl (y_fieldAddr (o := 0) (s := 1) (off := 0) (o' := 0) rfl Tryz.underlying32 rfl (by kernel_rfl) rfl rfl) rfl ?_
        refine wl_gy 45 rfl rfl (y_load1 rfl Tryz.underlying5 rfl (B1.get (i := 0) rfl)) rfl ?_
        refine wl_gy 45 rfl rfl (y_eql rfl rfl) rfl ?_
        refine wl_gyask 45 rfl rfl (y_move rfl) rfl (fun k3 => ?_) (fun k3 => ?_)
        · skip
          omega
        · skip
          refine wl_gno 49 rfl rfl rfl rfl ?_
          refine wl_gy 45 rfl rfl (y_pickf rfl rfl) rfl ?_
          refine wl_gy 45 rfl rfl (y_move rfl) rfl ?_
          refine wl_gno 52 rfl rfl rfl rfl ?_
          refine wl_gy 45 rfl rfl (y_pickf rfl rfl) rfl ?_
          refine wl_gy 45 rfl rfl (y_move rfl) rfl ?_
          refine wl_gno 55 rfl rfl rfl rfl ?_
          refine wl_gno 55 rfl rfl rfl rfl ?_
          refine wl_gno 55 rfl rfl rfl rfl ?_
          refine wl_gy 45 rfl rfl (y_pickf rfl rfl) rfl ?_
          refine wl_gy 45 rfl rfl (y_move rfl) rfl ?_
          refine wl_gno 60 rfl rfl rfl rfl ?_
          refine wl_gno 60 rfl rfl rfl rfl ?_
          refine wl_gno 60 rfl rfl rfl rfl ?_
          refine wl_gy 45 rfl rfl (y_pickf rfl rfl) rfl ?_
          refine wl_y (y_pickf rfl rfl) rfl ?_
          refine wl_y (y_assign rfl) rfl ?_
          refine wl_nil ?_
          refine wq_then_norm (hK3 ?_)
          refine wc_ret ?_
          refine hret rfl ?_
          exact ⟨ret_no fun h => a1 (by rcases h with h | h | h <;> first | exact h.2.1 | (exfalso; omega)), E⟩
  · skip
    refine wl_gno 18 rfl rfl rfl rfl ?_
    refine wl_gno 18 rfl rfl rfl rfl ?_
    refine wl_gno 18 rfl rfl rfl rfl ?_
    refine wl_y (y_pickf rfl rfl) rfl ?_
    refine wl_y (y_move rfl) rfl ?_
    refine wl_gno 23 rfl rfl rfl rfl ?_
    refine wl_y (y_pickf rfl rfl) rfl ?_
    refine wl_y (y_move rfl) rfl ?_
    refine wl_gno 26 rfl rfl rfl rfl ?_
    refine wl_y (y_pickf rfl rfl) rfl ?_
    refine wl_y (y_move rfl) rfl ?_
    refine wl_gy 29 rfl rfl (y_fieldAddr (o := 0) (s := 1) (off := 0) (o' := 0) rfl Tryz.underlying32 rfl (by kernel_rfl) rfl rfl) rfl ?_
    refine wl_gy 29 rfl rfl (y_load1 rfl Tryz.underlying5 rfl (B1.get (i := 0) rfl)) rfl ?_
    refine wl_gy 29 rfl rfl (y_eql rfl rfl) rfl ?_
    refine wl_gyask 29 rfl rfl (y_move rfl) rfl (fun k2 => ?_) (fun k2 => ?_)
    · skip
      refine wl_gy 33 rfl rfl (y_move rfl) rfl ?_
      refine wl_gy 29 rfl rfl (y_pickt rfl rfl) rfl ?_
      refine wl_gyask 29 rfl rfl (y_move rfl) rfl (fun a2 => ?_) (fun a2 => ?_)
      · skip
        refine wl_gy 36 rfl rfl (y_fieldAddr (o := 9) (s := 6) (off := 0) (o' := 9) rfl Tryz.underlying32 rfl (by kernel_rfl) rfl rfl) rfl ?_
        refine wl_gy 36 rfl rfl (y_loadx (o := 9) (s := 6) rfl Tryz.underlying25 rfl (by kernel_rfl) B1 rfl) rfl ?_
        refine wl_gcall 36 rfl rfl Tryz.func97 rfl rfl rfl (rLeaf20_any (s := 2) _ (HL.ext E)) rfl ?_
        rintro e w5 ⟨rfl, ex⟩
        refine ⟨_, rfl, ?_⟩
        replace E := E.ext ex
        replace B1 := B1.ext ex
        skip
        refine wl_gy 29 rfl rfl (y_pickt rfl rfl) rfl ?_
        refine wl_gyask 29 rfl rfl (y_move rfl) rfl (fun b2 => ?_) (fun b2 => ?_)
        · skip
          refine wl_gy 41 rfl rfl (y_move rfl) rfl ?_
          refine wl_gy 29 rfl rfl (y_pickt rfl rfl) rfl ?_
          refine wl_y (y_pickf rfl rfl) rfl ?_
          refine wl_yask (y_move rfl) rfl (fun c2 => ?_) (fun c2 => ?_)
          · skip
            refine wl_gno 45 rfl rfl rfl rfl ?_
            refine wl_gno 45 rfl rfl rfl rfl ?_
            refine wl_gno 45 rfl rfl rfl rfl ?_
            refine wl_gno 45 rfl rfl rfl rfl ?_
            refine wl_gun 49 rfl rfl rfl ?_
            refine wl_gno 45 rfl rfl rfl rfl ?_
            refine wl_gno 45 rfl rfl rfl rfl ?_
            refine wl_gun 52 rfl rfl rfl ?_
            refine wl_gno 45 rfl rfl rfl rfl ?_
            refine wl_gno 45 rfl rfl rfl rfl ?_
            refine wl_gun 55 rfl rfl rfl ?_
            refine wl_gun 55 rfl rfl rfl ?_
            refine wl_gun 55 rfl rfl rfl ?_
            refine wl_gno 45 rfl rfl rfl rfl ?_
            refine wl_gno 45 rfl rfl rfl rfl ?_
            refine wl_gun 60 rfl rfl rfl ?_
            refine wl_gun 60 rfl rfl rfl ?_
            refine wl_gun 60 rfl rfl rfl ?_
            refine wl_gno 45 rfl rfl rfl rfl ?_
            refine wl_y (y_pickt rfl rfl) rfl ?_
            refine wl_y (y_assign rfl) rfl ?_
            refine wl_nil ?_
            refine wq_then_norm (hK3 ?_)
            refine wc_ret ?_
            refine hret rfl ?_
            exact ⟨ret_yes (.inr (.inl ⟨by omega, a2, b2, c2⟩)), E⟩
          · skip
            refine wl_gy 45 rfl rfl (y_fieldAddr (o := 0) (s := 1) (off := 0) (o' := 0) rfl Tryz.underlying32 rfl (by kernel_rfl) rfl rfl) rfl ?_
            refine wl_gy 45 rfl rfl (y_load1 rfl Tryz.underlying5 rfl (B1.get (i := 0) rfl)) rfl ?_
            refine wl_gy 45 rfl rfl (y_eql rfl rfl) rfl ?_
            refine wl_gyask 45 rfl rfl (y_move rfl) rfl (fun k3 => ?_) (fun k3 => ?_)
            · skip
              omega
            · skip
              refine wl_gno 49 rfl rfl rfl rfl ?_
              refine wl_gy 45 rfl rfl (y_pickf rfl rfl) rfl ?_
              refine wl_gy 45 rfl rfl (y_move rfl) rfl ?_
              refine wl_gno 52 rfl rfl rfl rfl ?_
              refine wl_gy 45 rfl rfl (y_pickf rfl rfl) rfl ?_
              refine wl_gy 45 rfl rfl (y_move rfl) rfl ?_
              refine wl_gno 55 rfl rfl rfl rfl ?_
              refine wl_gno 55 rfl rfl rfl rfl ?_
              refine wl_gno 55 rfl rfl rfl rfl ?_
              refine wl_gy 45 rfl rfl (y_pickf rfl rfl) rfl ?_
              refine wl_gy 45 rfl rfl (y_move rfl) rfl ?_
              refine wl_gno 60 rfl rfl rfl rfl ?_
              refine wl_gno 60 rfl rfl rfl rfl ?_
              refine wl_gno 60 rfl rfl rfl rfl ?_
              refine wl_gy 45 rfl rfl (y_pickf rfl rfl) rfl ?_
              refine wl_y (y_pickf rfl rfl) rfl ?_
              refine wl_y (y_assign rfl) rfl ?_
              refine wl_nil ?_
              refine wq_then_norm (hK3 ?_)
              refine wc_ret ?_
              refine hret rfl ?_
              exact ⟨ret_no fun h => c2 (by rcases h with h | h | h <;> first | exact h.2.2.2 | (exfalso; omega)), E⟩
        · skip
          refine wl_gno 41 rfl rfl rfl rfl ?_
          refine wl_gy 29 rfl rfl (y_pickf rfl rfl) rfl ?_
          refine wl_y (y_pickf rfl rfl) rfl ?_
          refine wl_y (y_move rfl) rfl ?_
          refine wl_gy 45 rfl rfl (y_fieldAddr (o := 0) (s := 1) (off := 0) (o' := 0) rfl Tryz.underlying32 rfl (by kernel_rfl) rfl rfl) rfl ?_
          refine wl_gy 45 rfl rfl (y_load1 rfl Tryz.underlying5 rfl (B1.get (i := 0) rfl)) rfl ?_
          refine wl_gy 45 rfl rfl (y_eql rfl rfl) rfl ?_
          refine wl_gyask 45 rfl rfl (y_move rfl) rfl (fun k3 => ?_) (fun k3 => ?_)
          · skip
            omega
          · skip
            refine wl_gno 49 rfl rfl rfl rfl ?_
            refine wl_gy 45 rfl rfl (y_pickf rfl rfl) rfl ?_
            refine wl_gy 45 rfl rfl (y_move rfl) rfl ?_
            refine wl_gno 52 rfl rfl rfl rfl ?_
            refine wl_gy 45 rfl rfl (y_pickf rfl rfl) rfl ?_
            refine wl_gy 45 rfl rfl (y_move rfl) rfl ?_
            refine wl_gno 55 rfl rfl rfl rfl ?_
            refine wl_gno 55 rfl rfl rfl rfl ?_
            refine wl_gno 55 rfl rfl rfl rfl ?_
            refine wl_gy 45 rfl rfl (y_pickf rfl rfl) rfl ?_
            refine wl_gy 45 rfl rfl (y_move rfl) rfl ?_
            refine wl_gno 60 rfl rfl rfl rfl ?_
            refine wl_gno 60 rfl rfl rfl rfl ?_
            refine wl_gno 60 rfl rfl rfl rfl ?_
            refine wl_gy 45 rfl rfl (y_pickf rfl rfl) rfl ?_
            refine wl_y (y_pickf rfl rfl) rfl ?_
            refine wl_y (y_assign rfl) rfl ?_
            refine wl_nil ?_
            refine wq_then_norm (hK3 ?_)
            refine wc_ret ?_
            refine hret rfl ?_
            exact ⟨ret_no fun h => b2 (by rcases h with h | h | h <;> first | exact h.2.2.1 | (exfalso; omega)), E⟩
      · skip
        refine wl_gno 36 rfl rfl rfl rfl ?_
        refine wl_gno 36 rfl rfl rfl rfl ?_
        refine wl_gno 36 rfl rfl rfl rfl ?_
        refine wl_gy 29 rfl rfl (y_pickf rfl rfl) rfl ?_
        refine wl_gy 29 rfl rfl (y_move rfl) rfl ?_
        refine wl_gno 41 rfl rfl rfl rfl ?_
        refine wl_gy 29 rfl rfl (y_pickf rfl rfl) rfl ?_
        refine wl_y (y_pickf rfl rfl) rfl ?_
        refine wl_y (y_move rfl) rfl ?_
        refine wl_gy 45 rfl rfl (y_fieldAddr (o := 0) (s := 1) (off := 0) (o' := 0) rfl Tryz.underlying32 rfl (by kernel_rfl) rfl rfl) rfl ?_
        refine wl_gy 45 rfl rfl (y_load1 rfl Tryz.underlying5 rfl (B1.get (i := 0) rfl)) rfl ?_
        refine wl_gy 45 rfl rfl (y_eql rfl rfl) rfl ?_
        refine wl_gyask 45 rfl rfl (y_move rfl) rfl (fun k3 => ?_) (fun k3 => ?_)
        · skip
          omega
        · skip
          refine wl_gno 49 rfl rfl rfl rfl ?_
          refine wl_gy 45 rfl rfl (y_pickf rfl rfl) rfl ?_
          refine wl_gy 45 rfl rfl (y_move rfl) rfl ?_
          refine wl_gno 52 rfl rfl rfl rfl ?_
          refine wl_gy 45 rfl rfl (y_pickf rfl rfl) rfl ?_
          refine wl_gy 45 rfl rfl (y_move rfl) rfl ?_
          refine wl_gno 55 rfl rfl rfl rfl ?_
          refine wl_gno 55 rfl rfl rfl rfl ?_
          refine wl_gno 55 rfl rfl rfl rfl ?_
          refine wl_gy 45 rfl rfl (y_pickf rfl rfl) rfl ?_
          refine wl_gy 45 rfl rfl (y_move rfl) rfl ?_
          refine wl_gno 60 rfl rfl rfl rfl ?_
          refine wl_gno 60 rfl rfl rfl rfl ?_
          refine wl_gno 60 rfl rfl rfl rfl ?_
          refine wl_gy 45 rfl rfl (y_pickf rfl rfl) rfl ?_
          refine wl_y (y_pickf rfl rfl) rfl ?_
          refine wl_y (y_assign rfl) rfl ?_
          refine wl_nil ?_
          refine wq_then_norm (hK3 ?_)
          refine wc_ret ?_
          refine hret rfl ?_
          exact ⟨ret_no fun h => a2 (by rcases h with h | h | h <;> first | exact h.2.1 | (exfalso; omega)), E⟩
    · skip
      refine wl_gno 33 rfl rfl rfl rfl ?_
      refine wl_gy 29 rfl rfl (y_pickf rfl rfl) rfl ?_
      refine wl_gy 29 rfl rfl (y_move rfl) rfl ?_
      refine wl_gno 36 rfl rfl rfl rfl ?_
      refine wl_gno 36 rfl rfl rfl rfl ?_
      refine wl_gno 36 rfl rfl rfl rfl ?_
      refine wl_gy 29 rfl rfl (y_pickf rfl rfl) rfl ?_
      refine wl_gy 29 rfl rfl (y_move rfl) rfl ?_
      refine wl_gno 41 rfl rfl rfl rfl ?_
      refine wl_gy 29 rfl rfl (y_pickf rfl rfl) rfl ?_
      refine wl_y (y_pickf rfl rfl) rfl ?_
      refine wl_y (y_move rfl) rfl ?_
      refine wl_gy 45 rfl rfl (y_fieldAddr (o := 0) (s := 1) (off := 0) (o' := 0) rfl Tryz.underlying32 rfl (by kernel_rfl) rfl rfl) rfl ?_
      refine wl_gy 45 rfl rfl (y_load1 rfl Tryz.underlying5 rfl (B1.get (i := 0) rfl)) rfl ?_
      refine wl_gy 45 rfl rfl (y_eql rfl rfl) rfl ?_
      refine wl_gyask 45 rfl rfl (y_move rfl) rfl (fun k3 => ?_) (fun k3 => ?_)
      · skip
        refine wl_gy 49 rfl rfl (y_move rfl) rfl ?_
        refine wl_gy 45 rfl rfl (y_pickt rfl rfl) rfl ?_
        refine wl_gyask 45 rfl rfl (y_move rfl) rfl (fun a3 => ?_) (fun a3 => ?_)
        · skip
          refine wl_gy 52 rfl rfl (y_move rfl) rfl ?_
          refine wl_gy 45 rfl rfl (y_pickt rfl rfl) rfl ?_
          refine wl_gyask 45 rfl rfl (y_move rfl) rfl (fun b3 => ?_) (fun b3 => ?_)
          · skip
            refine wl_gy 55 rfl rfl (y_fieldAddr (o := 15) (s := 1) (off := 0) (o' := 15) rfl Tryz.underlying32 rfl (by kernel_rfl) rfl rfl) rfl ?_
            refine wl_gy 55 rfl rfl (y_load1 rfl Tryz.underlying3 rfl (B1.get (i := 15) rfl)) rfl ?_
            refine wl_gy 55 rfl rfl (y_geq rfl rfl) rfl ?_
            refine wl_gy 45 rfl rfl (y_pickt rfl rfl) rfl ?_
            refine wl_gyask 45 rfl rfl (y_move rfl) rfl (fun z3 => ?_) (fun z3 => ?_)
            · skip
              refine wl_gy 60 rfl rfl (y_fieldAddr (o := 15) (s := 1) (off := 0) (o' := 15) rfl Tryz.underlying32 rfl (by kernel_rfl) rfl rfl) rfl ?_
              refine wl_gy 60 rfl rfl (y_load1 rfl Tryz.underlying3 rfl (B1.get (i := 15) rfl)) rfl ?_
              refine wl_gy 60 rfl rfl (y_leq rfl rfl) rfl ?_
              refine wl_gy 45 rfl rfl (y_pickt rfl rfl) rfl ?_
              refine wl_y (y_pickf rfl rfl) rfl ?_
              refine wl_y (y_assign rfl) rfl ?_
              refine wl_nil ?_
              refine wq_then_norm (hK3 ?_)
              refine wc_ret ?_
              refine hret rfl ?_
              exact ⟨ret_bool ⟨fun h => .inr (.inr ⟨by omega, a3, b3, by omega, h⟩), fun h => by rcases h with h | h | h <;> omega⟩, E⟩
            · skip
              refine wl_gno 60 rfl rfl rfl rfl ?_
              refine wl_gno 60 rfl rfl rfl rfl ?_
              refine wl_gno 60 rfl rfl rfl rfl ?_
              refine wl_gy 45 rfl rfl (y_pickf rfl rfl) rfl ?_
              refine wl_y (y_pickf rfl rfl) rfl ?_
              refine wl_y (y_assign rfl) rfl ?_
              refine wl_nil ?_
              refine wq_then_norm (hK3 ?_)
              refine wc_ret ?_
              refine hret rfl ?_
              exact ⟨ret_no fun h => by rcases h with h | h | h <;> omega, E⟩
          · skip
            refine wl_gno 55 rfl rfl rfl rfl ?_
            refine wl_gno 55 rfl rfl rfl rfl ?_
            refine wl_gno 55 rfl rfl rfl rfl ?_
            refine wl_gy 45 rfl rfl (y_pickf rfl rfl) rfl ?_
            refine wl_gy 45 rfl rfl (y_move rfl) rfl ?_
            refine wl_gno 60 rfl rfl rfl rfl ?_
            refine wl_gno 60 rfl rfl rfl rfl ?_
            refine wl_gno 60 rfl rfl rfl rfl ?_
            refine wl_gy 45 rfl rfl (y_pickf rfl rfl) rfl ?_
            refine wl_y (y_pickf rfl rfl) rfl ?_
            refine wl_y (y_assign rfl) rfl ?_
            refine wl_nil ?_
            refine wq_then_norm (hK3 ?_)
            refine wc_ret ?_
            refine hret rfl ?_
            exact ⟨ret_no fun h => b3 (by rcases h with h | h | h <;> first | exact h.2.2.1 | (exfalso; omega)), E⟩
        · skip
          refine wl_gno 52 rfl rfl rfl rfl ?_
          refine wl_gy 45 rfl rfl (y_pickf rfl rfl) rfl ?_
          refine wl_gy 45 rfl rfl (y_move rfl) rfl ?_
          refine wl_gno 55 rfl rfl rfl rfl ?_
          refine wl_gno 55 rfl rfl rfl rfl ?_
          refine wl_gno 55 rfl rfl rfl rfl ?_
          refine wl_gy 45 rfl rfl (y_pickf rfl rfl) rfl ?_
          refine wl_gy 45 rfl rfl (y_move rfl) rfl ?_
          refine wl_gno 60 rfl rfl rfl rfl ?_
          refine wl_gno 60 rfl rfl rfl rfl ?_
          refine wl_gno 60 rfl rfl rfl rfl ?_
          refine wl_gy 45 rfl rfl (y_pickf rfl rfl) rfl ?_
          refine wl_y (y_pickf rfl rfl) rfl ?_
          refine wl_y (y_assign rfl) rfl ?_
          refine wl_nil ?_
          refine wq_then_norm (hK3 ?_)
          refine wc_ret ?_
          refine hret rfl ?_
          exact ⟨ret_no fun h => a3 (by rcases h with h | h | h <;> first | exact h.2.1 | (exfalso; omega)), E⟩
      · skip
        refine wl_gno 49 rfl rfl rfl rfl ?_
        refine wl_gy 45 rfl rfl (y_pickf rfl rfl) rfl ?_
        refine wl_gy 45 rfl rfl (y_move rfl) rfl ?_
        refine wl_gno 52 rfl rfl rfl rfl ?_
        refine wl_gy 45 rfl rfl (y_pickf rfl rfl) rfl ?_
        refine wl_gy 45 rfl rfl (y_move rfl) rfl ?_
        refine wl_gno 55 rfl rfl rfl rfl ?_
        refine wl_gno 55 rfl rfl rfl rfl ?_
        refine wl_gno 55 rfl rfl rfl rfl ?_
        refine wl_gy 45 rfl rfl (y_pickf rfl rfl) rfl ?_
        refine wl_gy 45 rfl rfl (y_move rfl) rfl ?_
        refine wl_gno 60 rfl rfl rfl rfl ?_
        refine wl_gno 60 rfl rfl rfl rfl ?_
        refine wl_gno 60 rfl rfl rfl rfl ?_
        refine wl_gy 45 rfl rfl (y_pickf rfl rfl) rfl ?_
        refine wl_y (y_pickf rfl rfl) rfl ?_
        refine wl_y (y_assign rfl) rfl ?_
        refine wl_nil ?_
        refine wq_then_norm (hK3 ?_)
        refine wc_ret ?_
        refine hret rfl ?_
        exact ⟨ret_no fun h => by rcases h with h | h | h <;> omega, E⟩
end
end Go.Proofs.YtpgalbgonmclaaaGreat
