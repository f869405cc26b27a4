/- Infos and welcomes: which are small, which are the same; what the reference says of them. No conditions: contracts of the reference's functions. -/
import Derived.Test.YtjllhimhiekchaaGreatMuB
import Derived.Test.YtjllhimhiekchaaGreatVk
namespace Go.Proofs.YtjllhimhiekchaaGreat
open Go.RowKit
attribute [local irreducible] Y Ef WL WC WK WQ WM OpM WN WF OpN WJ OpJ WG OpG
open Wire Nd M20
section
variable {cs ds : Array Value} {i : Inf} {x : Wel}
theorem sameInf_any {a b : Inf} (w : World) (H : InfAt w cs a) (K : InfAt w ds b) (hf : a.Fit) (hg : b.Fit) :
  Calls Tryz.prog 28 #[.agg cs, .agg ds] w fun e w' => e = .returned (.bool (decide (a = b))) ∧ Ext w w' := by
 have HC := (InfC.ctx H).at
 have KC := (InfC.ctx K).at
 obtain ⟨gr, tr, u, tg, sg, rfl, he, hz, h1, h2, h3, h4, h5⟩ := H
 obtain ⟨gr', tr', u', tg', sg', rfl, he', hz', k1, k2, k3, k4, k5⟩ := K
 obtain ⟨f1, f2, f3, f4, f5⟩ := hf
 obtain ⟨g1, g2, g3, g4, g5⟩ := hg
 have n4 := h4.1; have n5 := h5.1; have m4 := k4.1; have m5 := k5.1
 have E := Ext.refl w
 refine vc_enter1 31 Tryz.func28 rfl rfl rfl rfl ?_
 intro Q hret
 refine wc_seq ?_; intro K1 hK1
 refine wc_region ?_
 refine wl_ef (ef_box rfl rfl) rfl ?_
 rintro _ wB2 ⟨gB2, rfl, B2, hgB2, ex⟩
 have lB2 := B2.lt; have zB2 := ex.size
 replace E := E.ext ex
 refine wl_ef (ef_box rfl rfl) rfl ?_
 rintro _ wB3 ⟨gB3, rfl, B3, hgB3, ex⟩
 have lB3 := B3.lt; have zB3 := ex.size
 replace E := E.ext ex
 replace B2 := B2.ext ex
 refine wl_y (y_assign rfl) rfl ?_
 refine wl_nil ?_
 refine wq_then_norm (hK1 ?_)
 refine wc_seq ?_; intro K2 hK2
 refine wc_region ?_
 refine wl_y (y_fieldAddr (o := 0) (s := 4) (off := 0) (o' := 0) rfl Tryz.underlying42 rfl (by kernel_rfl) rfl rfl) rfl ?_
 refine wl_y (y_loadx (o := 0) (s := 4) rfl Tryz.underlying40 rfl (by kernel_rfl) B2 rfl) rfl ?_
 refine wl_y (y_fieldAddr (o := 0) (s := 4) (off := 0) (o' := 0) rfl Tryz.underlying42 rfl (by kernel_rfl) rfl rfl) rfl ?_
 refine wl_y (y_loadx (o := 0) (s := 4) rfl Tryz.underlying40 rfl (by kernel_rfl) B3 rfl) rfl ?_
 refine wl_call Tryz.func73 rfl rfl rfl (sameCtx20_any _ (HC.ext E) (KC.ext E) ⟨f1, f2, f3⟩ ⟨g1, g2, g3⟩) rfl ?_
 rintro e w2 ⟨rfl, ex⟩
 refine ⟨_, rfl, ?_⟩
 replace E := E.ext ex
 replace B2 := B2.ext ex
 replace B3 := B3.ext ex
 skip
 refine wl_yask (y_move rfl) rfl (fun q0 => ?_) (fun q0 => ?_)
 ·skip
  refine wl_gy 10 rfl rfl (y_fieldAddr (o := 4) (s := 1) (off := 0) (o' := 4) rfl Tryz.underlying42 rfl (by kernel_rfl) rfl rfl) rfl ?_
  refine wl_gy 10 rfl rfl (y_load1 rfl Tryz.underlying23 rfl (B2.get (i := 4) rfl)) rfl ?_
  refine wl_gy 10 rfl rfl (y_fieldAddr (o := 4) (s := 1) (off := 0) (o' := 4) rfl Tryz.underlying42 rfl (by kernel_rfl) rfl rfl) rfl ?_
  refine wl_gy 10 rfl rfl (y_load1 rfl Tryz.underlying23 rfl (B3.get (i := 4) rfl)) rfl ?_
  refine wl_gcall 10 rfl rfl Tryz.func32 rfl rfl rfl (sm_any (Bs.ext h4 E) (Bs.ext k4 E) (by omega) (by omega)) rfl ?_
  rintro e w3 ⟨rfl, ex⟩
  refine ⟨_, rfl, ?_⟩
  replace E := E.ext ex
  replace B2 := B2.ext ex
  replace B3 := B3.ext ex
  skip
  refine wl_y (y_pickt rfl rfl) rfl ?_
  refine wl_yask (y_move rfl) rfl (fun q1 => ?_) (fun q1 => ?_)
  ·skip
   refine wl_gy 17 rfl rfl (y_fieldAddr (o := 5) (s := 1) (off := 0) (o' := 5) rfl Tryz.underlying42 rfl (by kernel_rfl) rfl rfl) rfl ?_
   refine wl_gy 17 rfl rfl (y_load1 rfl Tryz.underlying3 rfl (B2.get (i := 5) rfl)) rfl ?_
   refine wl_gy 17 rfl rfl (y_fieldAddr (o := 5) (s := 1) (off := 0) (o' := 5) rfl Tryz.underlying42 rfl (by kernel_rfl) rfl rfl) rfl ?_
   refine wl_gy 17 rfl rfl (y_load1 rfl Tryz.underlying3 rfl (B3.get (i := 5) rfl)) rfl ?_
   refine wl_gy 17 rfl rfl (y_eql rfl rfl) rfl ?_
   refine wl_y (y_pickt rfl rfl) rfl ?_
   refine wl_yask (y_move rfl) rfl (fun q2 => ?_) (fun q2 => ?_)
   ·skip
    refine wl_gy 24 rfl rfl (y_fieldAddr (o := 6) (s := 1) (off := 0) (o' := 6) rfl Tryz.underlying42 rfl (by kernel_rfl) rfl rfl) rfl ?_
    refine wl_gy 24 rfl rfl (y_load1 rfl Tryz.underlying23 rfl (B2.get (i := 6) rfl)) rfl ?_
    refine wl_gy 24 rfl rfl (y_fieldAddr (o := 6) (s := 1) (off := 0) (o' := 6) rfl Tryz.underlying42 rfl (by kernel_rfl) rfl rfl) rfl ?_
    refine wl_gy 24 rfl rfl (y_load1 rfl Tryz.underlying23 rfl (B3.get (i := 6) rfl)) rfl ?_
    refine wl_gcall 24 rfl rfl Tryz.func32 rfl rfl rfl (sm_any (Bs.ext h5 E) (Bs.ext k5 E) (by omega) (by omega)) rfl ?_
    rintro e w5 ⟨rfl, ex⟩
    refine ⟨_, rfl, ?_⟩
    replace E := E.ext ex
    replace B2 := B2.ext ex
    replace B3 := B3.ext ex
    skip
    refine wl_y (y_pickt rfl rfl) rfl ?_
    refine wl_y (y_assign rfl) rfl ?_
    refine wl_nil ?_
    refine wq_then_norm (hK2 ?_)
    refine wc_ret ?_
    refine hret rfl ?_
    exact ⟨ret_bool ⟨fun h => inf_eq.2 ⟨q0, q1, q2, h⟩, fun h => by rw [h]⟩, E⟩
   ·skip
    refine wl_gno 24 rfl rfl rfl rfl ?_
    refine wl_gno 24 rfl rfl rfl rfl ?_
    refine wl_gno 24 rfl rfl rfl rfl ?_
    refine wl_gno 24 rfl rfl rfl rfl ?_
    refine wl_gno 24 rfl rfl rfl rfl ?_
    refine wl_y (y_pickf rfl rfl) rfl ?_
    refine wl_y (y_assign rfl) rfl ?_
    refine wl_nil ?_
    refine wq_then_norm (hK2 ?_)
    refine wc_ret ?_
    refine hret rfl ?_
    exact ⟨ret_no fun h => q2 (by rw [h]), E⟩
  ·skip
   refine wl_gno 17 rfl rfl rfl rfl ?_
   refine wl_gno 17 rfl rfl rfl rfl ?_
   refine wl_gno 17 rfl rfl rfl rfl ?_
   refine wl_gno 17 rfl rfl rfl rfl ?_
   refine wl_gno 17 rfl rfl rfl rfl ?_
   refine wl_y (y_pickf rfl rfl) rfl ?_
   refine wl_y (y_move rfl) rfl ?_
   refine wl_gno 24 rfl rfl rfl rfl ?_
   refine wl_gno 24 rfl rfl rfl rfl ?_
   refine wl_gno 24 rfl rfl rfl rfl ?_
   refine wl_gno 24 rfl rfl rfl rfl ?_
   refine wl_gno 24 rfl rfl rfl rfl ?_
   refine wl_y (y_pickf rfl rfl) rfl ?_
   refine wl_y (y_assign rfl) rfl ?_
   refine wl_nil ?_
   refine wq_then_norm (hK2 ?_)
   refine wc_ret ?_
   refine hret rfl ?_
   exact ⟨ret_no fun h => q1 (by rw [h]), E⟩
 ·skip
  refine wl_gno 10 rfl rfl rfl rfl ?_
  refine wl_gno 10 rfl rfl rfl rfl ?_
  refine wl_gno 10 rfl rfl rfl rfl ?_
  refine wl_gno 10 rfl rfl rfl rfl ?_
  refine wl_gno 10 rfl rfl rfl rfl ?_
  refine wl_y (y_pickf rfl rfl) rfl ?_
  refine wl_y (y_move rfl) rfl ?_
  refine wl_gno 17 rfl rfl rfl rfl ?_
  refine wl_gno 17 rfl rfl rfl rfl ?_
  refine wl_gno 17 rfl rfl rfl rfl ?_
  refine wl_gno 17 rfl rfl rfl rfl ?_
  refine wl_gno 17 rfl rfl rfl rfl ?_
  refine wl_y (y_pickf rfl rfl) rfl ?_
  refine wl_y (y_move rfl) rfl ?_
  refine wl_gno 24 rfl rfl rfl rfl ?_
  refine wl_gno 24 rfl rfl rfl rfl ?_
  refine wl_gno 24 rfl rfl rfl rfl ?_
  refine wl_gno 24 rfl rfl rfl rfl ?_
  refine wl_gno 24 rfl rfl rfl rfl ?_
  refine wl_y (y_pickf rfl rfl) rfl ?_
  refine wl_y (y_assign rfl) rfl ?_
  refine wl_nil ?_
  refine wq_then_norm (hK2 ?_)
  refine wc_ret ?_
  refine hret rfl ?_
  exact ⟨ret_no fun h => q0 (by rw [h]), E⟩
theorem rInfo_any (w : World) (H : InfAt w cs i) :
  Calls Tryz.prog 20 #[.agg cs] w fun e w' => e = .returned (.bool (decide (okInf i))) ∧ Ext w w' := by
 obtain ⟨gr, tr, u, tg, sg, rfl, he, hz, a, b, c, d, k⟩ := H
 have n1 := a.1; have n2 := b.1; have n3 := c.1; have n4 := d.1; have n5 := k.1
 have E := Ext.refl w
 refine vc_enter1 44 Tryz.func20 rfl rfl rfl rfl ?_
 intro Q hret
 refine wc_seq ?_; intro K1 hK1
 refine wc_region ?_
 refine wl_ef (ef_box rfl rfl) rfl ?_
 rintro _ wB1 ⟨gB1, rfl, B1, hgB1, ex⟩
 have lB1 := B1.lt; have zB1 := ex.size
 replace E := E.ext ex
 refine wl_y (y_assign rfl) rfl ?_
 refine wl_nil ?_
 refine wq_then_norm (hK1 ?_)
 refine wc_seq ?_; intro K2 hK2
 refine wc_region ?_
 refine wl_y (y_fieldAddr (o := 0) (s := 4) (off := 0) (o' := 0) rfl Tryz.underlying42 rfl (by kernel_rfl) rfl rfl) rfl ?_
 refine wl_y (y_fieldAddr (o := 0) (s := 1) (off := 0) (o' := 0) rfl Tryz.underlying40 rfl (by kernel_rfl) rfl rfl) rfl ?_
 refine wl_y (y_load1 rfl Tryz.underlying23 rfl (B1.get (i := 0) rfl)) rfl ?_
 refine wl_y (y_len_slice rfl Tryz.underlying23) rfl ?_
 refine wl_yask (y_leq rfl rfl) rfl (fun q1 => ?_) (fun q1 => ?_)
 ·skip
  refine wl_y (y_move rfl) rfl ?_
  refine wl_gy 8 rfl rfl (y_fieldAddr (o := 0) (s := 4) (off := 0) (o' := 0) rfl Tryz.underlying42 rfl (by kernel_rfl) rfl rfl) rfl ?_
  refine wl_gy 8 rfl rfl (y_fieldAddr (o := 2) (s := 1) (off := 0) (o' := 2) rfl Tryz.underlying40 rfl (by kernel_rfl) rfl rfl) rfl ?_
  refine wl_gy 8 rfl rfl (y_load1 rfl Tryz.underlying23 rfl (B1.get (i := 2) rfl)) rfl ?_
  refine wl_gy 8 rfl rfl (y_len_slice rfl Tryz.underlying23) rfl ?_
  refine wl_gyask 8 rfl rfl (y_eql rfl rfl) rfl (fun q2 => ?_) (fun q2 => ?_)
  ·skip
   refine wl_y (y_pickt rfl rfl) rfl ?_
   refine wl_y (y_move rfl) rfl ?_
   refine wl_gy 15 rfl rfl (y_fieldAddr (o := 0) (s := 4) (off := 0) (o' := 0) rfl Tryz.underlying42 rfl (by kernel_rfl) rfl rfl) rfl ?_
   refine wl_gy 15 rfl rfl (y_fieldAddr (o := 3) (s := 1) (off := 0) (o' := 3) rfl Tryz.underlying40 rfl (by kernel_rfl) rfl rfl) rfl ?_
   refine wl_gy 15 rfl rfl (y_load1 rfl Tryz.underlying23 rfl (B1.get (i := 3) rfl)) rfl ?_
   refine wl_gy 15 rfl rfl (y_len_slice rfl Tryz.underlying23) rfl ?_
   refine wl_gyask 15 rfl rfl (y_eql rfl rfl) rfl (fun q3 => ?_) (fun q3 => ?_)
   ·skip
    refine wl_y (y_pickt rfl rfl) rfl ?_
    refine wl_y (y_move rfl) rfl ?_
    refine wl_gy 22 rfl rfl (y_fieldAddr (o := 4) (s := 1) (off := 0) (o' := 4) rfl Tryz.underlying42 rfl (by kernel_rfl) rfl rfl) rfl ?_
    refine wl_gy 22 rfl rfl (y_load1 rfl Tryz.underlying23 rfl (B1.get (i := 4) rfl)) rfl ?_
    refine wl_gy 22 rfl rfl (y_len_slice rfl Tryz.underlying23) rfl ?_
    refine wl_gyask 22 rfl rfl (y_eql rfl rfl) rfl (fun q4 => ?_) (fun q4 => ?_)
    ·skip
     refine wl_y (y_pickt rfl rfl) rfl ?_
     refine wl_y (y_move rfl) rfl ?_
     refine wl_gy 28 rfl rfl (y_fieldAddr (o := 5) (s := 1) (off := 0) (o' := 5) rfl Tryz.underlying42 rfl (by kernel_rfl) rfl rfl) rfl ?_
     refine wl_gy 28 rfl rfl (y_load1 rfl Tryz.underlying3 rfl (B1.get (i := 5) rfl)) rfl ?_
     refine wl_gyask 28 rfl rfl (y_geq rfl rfl) rfl (fun q5 => ?_) (fun q5 => ?_)
     ·skip
      refine wl_y (y_pickt rfl rfl) rfl ?_
      refine wl_y (y_move rfl) rfl ?_
      refine wl_gy 33 rfl rfl (y_fieldAddr (o := 5) (s := 1) (off := 0) (o' := 5) rfl Tryz.underlying42 rfl (by kernel_rfl) rfl rfl) rfl ?_
      refine wl_gy 33 rfl rfl (y_load1 rfl Tryz.underlying3 rfl (B1.get (i := 5) rfl)) rfl ?_
      refine wl_gyask 33 rfl rfl (y_leq rfl rfl) rfl (fun q6 => ?_) (fun q6 => ?_)
      ·skip
       refine wl_y (y_pickt rfl rfl) rfl ?_
       refine wl_y (y_move rfl) rfl ?_
       refine wl_gy 38 rfl rfl (y_fieldAddr (o := 6) (s := 1) (off := 0) (o' := 6) rfl Tryz.underlying42 rfl (by kernel_rfl) rfl rfl) rfl ?_
       refine wl_gy 38 rfl rfl (y_load1 rfl Tryz.underlying23 rfl (B1.get (i := 6) rfl)) rfl ?_
       refine wl_gy 38 rfl rfl (y_len_slice rfl Tryz.underlying23) rfl ?_
       refine wl_gy 38 rfl rfl (y_eql rfl rfl) rfl ?_
       refine wl_y (y_pickt rfl rfl) rfl ?_
       refine wl_y (y_assign rfl) rfl ?_
       refine wl_nil ?_
       refine wq_then_norm (hK2 ?_)
       refine wc_ret ?_
       refine hret rfl ?_
       exact ⟨ret_bool ⟨fun h => ⟨by omega, by omega, by omega, by omega, ⟨by omega, by omega⟩, by omega⟩, fun h => by have := h.2.2.2.2.2; omega⟩, E⟩
      ·skip
       refine wl_y (y_pickt rfl rfl) rfl ?_
       refine wl_y (y_move rfl) rfl ?_
       refine wl_gno 38 rfl rfl rfl rfl ?_
       refine wl_gno 38 rfl rfl rfl rfl ?_
       refine wl_gno 38 rfl rfl rfl rfl ?_
       refine wl_gno 38 rfl rfl rfl rfl ?_
       refine wl_y (y_pickf rfl rfl) rfl ?_
       refine wl_y (y_assign rfl) rfl ?_
       refine wl_nil ?_
       refine wq_then_norm (hK2 ?_)
       refine wc_ret ?_
       refine hret rfl ?_
       exact ⟨ret_no fun h => by have := h.2.2.2.2.1.2; omega, E⟩
     ·skip
      refine wl_y (y_pickt rfl rfl) rfl ?_
      refine wl_y (y_move rfl) rfl ?_
      refine wl_gno 33 rfl rfl rfl rfl ?_
      refine wl_gno 33 rfl rfl rfl rfl ?_
      refine wl_gno 33 rfl rfl rfl rfl ?_
      refine wl_y (y_pickf rfl rfl) rfl ?_
      refine wl_y (y_move rfl) rfl ?_
      refine wl_gno 38 rfl rfl rfl rfl ?_
      refine wl_gno 38 rfl rfl rfl rfl ?_
      refine wl_gno 38 rfl rfl rfl rfl ?_
      refine wl_gno 38 rfl rfl rfl rfl ?_
      refine wl_y (y_pickf rfl rfl) rfl ?_
      refine wl_y (y_assign rfl) rfl ?_
      refine wl_nil ?_
      refine wq_then_norm (hK2 ?_)
      refine wc_ret ?_
      refine hret rfl ?_
      exact ⟨ret_no fun h => by have := h.2.2.2.2.1.1; omega, E⟩
    ·skip
     refine wl_y (y_pickt rfl rfl) rfl ?_
     refine wl_y (y_move rfl) rfl ?_
     refine wl_gno 28 rfl rfl rfl rfl ?_
     refine wl_gno 28 rfl rfl rfl rfl ?_
     refine wl_gno 28 rfl rfl rfl rfl ?_
     refine wl_y (y_pickf rfl rfl) rfl ?_
     refine wl_y (y_move rfl) rfl ?_
     refine wl_gno 33 rfl rfl rfl rfl ?_
     refine wl_gno 33 rfl rfl rfl rfl ?_
     refine wl_gno 33 rfl rfl rfl rfl ?_
     refine wl_y (y_pickf rfl rfl) rfl ?_
     refine wl_y (y_move rfl) rfl ?_
     refine wl_gno 38 rfl rfl rfl rfl ?_
     refine wl_gno 38 rfl rfl rfl rfl ?_
     refine wl_gno 38 rfl rfl rfl rfl ?_
     refine wl_gno 38 rfl rfl rfl rfl ?_
     refine wl_y (y_pickf rfl rfl) rfl ?_
     refine wl_y (y_assign rfl) rfl ?_
     refine wl_nil ?_
     refine wq_then_norm (hK2 ?_)
     refine wc_ret ?_
     refine hret rfl ?_
     exact ⟨ret_no fun h => by have := h.2.2.2.1; omega, E⟩
   ·skip
    refine wl_y (y_pickt rfl rfl) rfl ?_
    refine wl_y (y_move rfl) rfl ?_
    refine wl_gno 22 rfl rfl rfl rfl ?_
    refine wl_gno 22 rfl rfl rfl rfl ?_
    refine wl_gno 22 rfl rfl rfl rfl ?_
    refine wl_gno 22 rfl rfl rfl rfl ?_
    refine wl_y (y_pickf rfl rfl) rfl ?_
    refine wl_y (y_move rfl) rfl ?_
    refine wl_gno 28 rfl rfl rfl rfl ?_
    refine wl_gno 28 rfl rfl rfl rfl ?_
    refine wl_gno 28 rfl rfl rfl rfl ?_
    refine wl_y (y_pickf rfl rfl) rfl ?_
    refine wl_y (y_move rfl) rfl ?_
    refine wl_gno 33 rfl rfl rfl rfl ?_
    refine wl_gno 33 rfl rfl rfl rfl ?_
    refine wl_gno 33 rfl rfl rfl rfl ?_
    refine wl_y (y_pickf rfl rfl) rfl ?_
    refine wl_y (y_move rfl) rfl ?_
    refine wl_gno 38 rfl rfl rfl rfl ?_
    refine wl_gno 38 rfl rfl rfl rfl ?_
    refine wl_gno 38 rfl rfl rfl rfl ?_
    refine wl_gno 38 rfl rfl rfl rfl ?_
    refine wl_y (y_pickf rfl rfl) rfl ?_
    refine wl_y (y_assign rfl) rfl ?_
    refine wl_nil ?_
    refine wq_then_norm (hK2 ?_)
    refine wc_ret ?_
    refine hret rfl ?_
    exact ⟨ret_no fun h => by have := h.2.2.1; omega, E⟩
  ·skip
   refine wl_y (y_pickt rfl rfl) rfl ?_
   refine wl_y (y_move rfl) rfl ?_
   refine wl_gno 15 rfl rfl rfl rfl ?_
   refine wl_gno 15 rfl rfl rfl rfl ?_
   refine wl_gno 15 rfl rfl rfl rfl ?_
   refine wl_gno 15 rfl rfl rfl rfl ?_
   refine wl_gno 15 rfl rfl rfl rfl ?_
   refine wl_y (y_pickf rfl rfl) rfl ?_
   refine wl_y (y_move rfl) rfl ?_
   refine wl_gno 22 rfl rfl rfl rfl ?_
   refine wl_gno 22 rfl rfl rfl rfl ?_
   refine wl_gno 22 rfl rfl rfl rfl ?_
   refine wl_gno 22 rfl rfl rfl rfl ?_
   refine wl_y (y_pickf rfl rfl) rfl ?_
   refine wl_y (y_move rfl) rfl ?_
   refine wl_gno 28 rfl rfl rfl rfl ?_
   refine wl_gno 28 rfl rfl rfl rfl ?_
   refine wl_gno 28 rfl rfl rfl rfl ?_
   refine wl_y (y_pickf rfl rfl) rfl ?_
   refine wl_y (y_move rfl) rfl ?_
   refine wl_gno 33 rfl rfl rfl rfl ?_
   refine wl_gno 33 rfl rfl rfl rfl ?_
   refine wl_gno 33 rfl rfl rfl rfl ?_
   refine wl_y (y_pickf rfl rfl) rfl ?_
   refine wl_y (y_move rfl) rfl ?_
   refine wl_gno 38 rfl rfl rfl rfl ?_
   refine wl_gno 38 rfl rfl rfl rfl ?_
   refine wl_gno 38 rfl rfl rfl rfl ?_
   refine wl_gno 38 rfl rfl rfl rfl ?_
   refine wl_y (y_pickf rfl rfl) rfl ?_
   refine wl_y (y_assign rfl) rfl ?_
   refine wl_nil ?_
   refine wq_then_norm (hK2 ?_)
   refine wc_ret ?_
   refine hret rfl ?_
   exact ⟨ret_no fun h => by have := h.2.1; omega, E⟩
 ·skip
  refine wl_y (y_move rfl) rfl ?_
  refine wl_gno 8 rfl rfl rfl rfl ?_
  refine wl_gno 8 rfl rfl rfl rfl ?_
  refine wl_gno 8 rfl rfl rfl rfl ?_
  refine wl_gno 8 rfl rfl rfl rfl ?_
  refine wl_gno 8 rfl rfl rfl rfl ?_
  refine wl_y (y_pickf rfl rfl) rfl ?_
  refine wl_y (y_move rfl) rfl ?_
  refine wl_gno 15 rfl rfl rfl rfl ?_
  refine wl_gno 15 rfl rfl rfl rfl ?_
  refine wl_gno 15 rfl rfl rfl rfl ?_
  refine wl_gno 15 rfl rfl rfl rfl ?_
  refine wl_gno 15 rfl rfl rfl rfl ?_
  refine wl_y (y_pickf rfl rfl) rfl ?_
  refine wl_y (y_move rfl) rfl ?_
  refine wl_gno 22 rfl rfl rfl rfl ?_
  refine wl_gno 22 rfl rfl rfl rfl ?_
  refine wl_gno 22 rfl rfl rfl rfl ?_
  refine wl_gno 22 rfl rfl rfl rfl ?_
  refine wl_y (y_pickf rfl rfl) rfl ?_
  refine wl_y (y_move rfl) rfl ?_
  refine wl_gno 28 rfl rfl rfl rfl ?_
  refine wl_gno 28 rfl rfl rfl rfl ?_
  refine wl_gno 28 rfl rfl rfl rfl ?_
  refine wl_y (y_pickf rfl rfl) rfl ?_
  refine wl_y (y_move rfl) rfl ?_
  refine wl_gno 33 rfl rfl rfl rfl ?_
  refine wl_gno 33 rfl rfl rfl rfl ?_
  refine wl_gno 33 rfl rfl rfl rfl ?_
  refine wl_y (y_pickf rfl rfl) rfl ?_
  refine wl_y (y_move rfl) rfl ?_
  refine wl_gno 38 rfl rfl rfl rfl ?_
  refine wl_gno 38 rfl rfl rfl rfl ?_
  refine wl_gno 38 rfl rfl rfl rfl ?_
  refine wl_gno 38 rfl rfl rfl rfl ?_
  refine wl_y (y_pickf rfl rfl) rfl ?_
  refine wl_y (y_assign rfl) rfl ?_
  refine wl_nil ?_
  refine wq_then_norm (hK2 ?_)
  refine wc_ret ?_
  refine hret rfl ?_
  exact ⟨ret_no fun h => by have := h.1; omega, E⟩
theorem rInfText_any (w : World) (H : InfAt w cs i) (hs : i.ctx.Small) (ht : i.tag.length ≤ 1000) :
  Calls Tryz.prog 24 #[.agg cs] w fun e w' => ∃ A' k c', e = .returned (.slice A' k c') ∧ Row w' w.heap.size 5 A' k c' ((infT i).map bv) ∧ k ≤ 2000 ∧ Ext w w' := by
 have HC := (InfC.ctx H).at
 obtain ⟨gr, tr, u, tg, sg, rfl, he, hz, a, b, c, d, k⟩ := H
 have n4 := d.1
 have E := Ext.refl w
 refine vc_enter1 15 Tryz.func24 rfl rfl rfl rfl ?_
 intro Q hret
 refine wc_seq ?_; intro K1 hK1
 refine wc_region ?_
 refine wl_ef (ef_box rfl rfl) rfl ?_
 rintro _ wB1 ⟨gB1, rfl, B1, hgB1, ex⟩
 have lB1 := B1.lt; have zB1 := ex.size
 replace E := E.ext ex
 refine wl_y (y_assign rfl) rfl ?_
 refine wl_nil ?_
 refine wq_then_norm (hK1 ?_)
 refine wc_seq ?_; intro K2 hK2
 refine wc_draw (by kernel_rfl) 13 rfl ?_; intro wd1 ex hd1
 replace E := E.ext ex
 replace B1 := B1.ext ex
 refine wm_y 0 rfl (by kernel_rfl) (y_fieldAddr (o := 0) (s := 4) (off := 0) (o' := 0) rfl Tryz.underlying42 rfl (by kernel_rfl) rfl rfl) rfl ?_
 refine wm_y 1 rfl (by kernel_rfl) (y_loadx (o := 0) (s := 4) rfl Tryz.underlying40 rfl (by kernel_rfl) B1 rfl) rfl ?_
 refine wm_y 4 rfl (by kernel_rfl) (y_fieldAddr (o := 4) (s := 1) (off := 0) (o' := 4) rfl Tryz.underlying42 rfl (by kernel_rfl) rfl rfl) rfl ?_
 refine wm_y 5 rfl (by kernel_rfl) (y_load1 rfl Tryz.underlying23 rfl (B1.get (i := 4) rfl)) rfl ?_
 refine wm_y 8 rfl (by kernel_rfl) (y_fieldAddr (o := 5) (s := 1) (off := 0) (o' := 5) rfl Tryz.underlying42 rfl (by kernel_rfl) rfl rfl) rfl ?_
 refine wm_y 9 rfl (by kernel_rfl) (y_load1 rfl Tryz.underlying3 rfl (B1.get (i := 5) rfl)) rfl ?_
 refine wm_two 2 3 (by kernel_rfl) ?_ ?_
 ·skip
  refine om_call rfl Tryz.func66 rfl rfl rfl (rctxBytes_any _ _ _ (HC.ext E) hs) rfl ?_
  rintro e w2 ⟨A2, k2, c2, rfl, R2, hk2, ex⟩
  refine ⟨_, rfl, .inr ex, ?_⟩
  replace E := E.ext ex
  replace B1 := B1.ext ex
  have H2 := R2.bs
  refine wm_two 3 6 (by kernel_rfl) ?_ ?_
  ·skip
   refine om_ef rfl (ef_lit (z := .int .u8 0) Tryz.underlying23 (by kernel_rfl) rfl rfl rfl rfl rfl) rfl ?_
   rintro _ w3 ⟨g3, rfl, B3, hg3, ex⟩
   refine ⟨.inr ex, ?_⟩
   replace E := E.ext ex
   replace B1 := B1.ext ex
   replace H2 := H2.ext ex
   have H3 := bs_blk' (xs := [(0 : UInt8)]) (B3.congr (by rfl)) rfl
   refine wm_one 6 (by kernel_rfl) ?_; refine om_call rfl Tryz.func67 rfl rfl rfl (vec20_any tg.A tg.n tg.c _ _ (Bs.ext d E) (by omega)) rfl ?_
   rintro e w4 ⟨A4, k4, c4, rfl, R4, hk4, ex⟩
   refine ⟨_, rfl, .inr ex, ?_⟩
   replace E := E.ext ex
   replace B1 := B1.ext ex
   replace H2 := H2.ext ex
   replace H3 := H3.ext ex
   have hl4 := lsz_le tg.n; have H4 := R4.bs
   refine wm_one 7 (by kernel_rfl) ?_; refine om_call rfl Tryz.func65 rfl rfl rfl (three20_any A2 _ A4 k2 c2 1 1 k4 c4 _ _ _ _ H2 (by omega) H3 (by omega) H4 (by omega)) rfl ?_
   rintro e w5 ⟨A5, c5, rfl, R5, ex⟩
   refine ⟨_, rfl, .inr ex, ?_⟩
   replace E := E.ext ex
   replace B1 := B1.ext ex
   replace H2 := H2.ext ex
   replace H3 := H3.ext ex
   replace H4 := H4.ext ex
   have H5 := R5.bs
   refine wm_one 10 (by kernel_rfl) ?_; refine om_call rfl Tryz.func68 rfl rfl rfl (four20_any i.frm _) rfl ?_
   rintro e w6 ⟨A6, c6, rfl, R6, ex⟩
   refine ⟨_, rfl, .inr ex, ?_⟩
   replace E := E.ext ex
   replace B1 := B1.ext ex
   replace H2 := H2.ext ex
   replace H3 := H3.ext ex
   replace H4 := H4.ext ex
   replace H5 := H5.ext ex
   have H6 := R6.bs
   have hz8 := E.size
   refine wm_one 11 (by kernel_rfl) ?_; refine om_call rfl Tryz.func64 rfl rfl rfl (join20_any A5 A6 _ c5 4 c6 _ _ _ H5 (by omega) H6 (by omega)) rfl ?_
   rintro e w7 ⟨A7, c7, rfl, R7, ex⟩
   refine ⟨_, rfl, .inr ex, ?_⟩
   replace E := E.ext ex
   replace B1 := B1.ext ex
   replace H2 := H2.ext ex
   replace H3 := H3.ext ex
   replace H4 := H4.ext ex
   replace H5 := H5.ext ex
   replace H6 := H6.ext ex
   skip
   refine wm_y 12 rfl (by kernel_rfl) (y_assign rfl) rfl ?_
   refine wm_done (by kernel_rfl) ?_
   refine wq_nop ?_
   refine wq_then_norm (hK2 ?_)
   refine wc_ret ?_
   refine hret rfl ?_
   exact ⟨A7, _, c7, rfl, (R7.lower hz8).congr rfl (by unfold infT; simp), by omega, E⟩
  ·skip
   refine om_call rfl Tryz.func67 rfl rfl rfl (vec20_any tg.A tg.n tg.c _ _ (Bs.ext d E) (by omega)) rfl ?_
   rintro e w4 ⟨A4, k4, c4, rfl, R4, hk4, ex⟩
   refine ⟨_, rfl, .inr ex, ?_⟩
   replace E := E.ext ex
   replace B1 := B1.ext ex
   replace H2 := H2.ext ex
   have hl4 := lsz_le tg.n; have H4 := R4.bs
   refine wm_one 3 (by kernel_rfl) ?_; refine om_ef rfl (ef_lit (z := .int .u8 0) Tryz.underlying23 (by kernel_rfl) rfl rfl rfl rfl rfl) rfl ?_
   rintro _ w3 ⟨g3, rfl, B3, hg3, ex⟩
   refine ⟨.inr ex, ?_⟩
   replace E := E.ext ex
   replace B1 := B1.ext ex
   replace H2 := H2.ext ex
   replace H4 := H4.ext ex
   have H3 := bs_blk' (xs := [(0 : UInt8)]) (B3.congr (by rfl)) rfl
   refine wm_one 7 (by kernel_rfl) ?_; refine om_call rfl Tryz.func65 rfl rfl rfl (three20_any A2 _ A4 k2 c2 1 1 k4 c4 _ _ _ _ H2 (by omega) H3 (by omega) H4 (by omega)) rfl ?_
   rintro e w5 ⟨A5, c5, rfl, R5, ex⟩
   refine ⟨_, rfl, .inr ex, ?_⟩
   replace E := E.ext ex
   replace B1 := B1.ext ex
   replace H2 := H2.ext ex
   replace H4 := H4.ext ex
   replace H3 := H3.ext ex
   have H5 := R5.bs
   refine wm_one 10 (by kernel_rfl) ?_; refine om_call rfl Tryz.func68 rfl rfl rfl (four20_any i.frm _) rfl ?_
   rintro e w6 ⟨A6, c6, rfl, R6, ex⟩
   refine ⟨_, rfl, .inr ex, ?_⟩
   replace E := E.ext ex
   replace B1 := B1.ext ex
   replace H2 := H2.ext ex
   replace H4 := H4.ext ex
   replace H3 := H3.ext ex
   replace H5 := H5.ext ex
   have H6 := R6.bs
   have hz8 := E.size
   refine wm_one 11 (by kernel_rfl) ?_; refine om_call rfl Tryz.func64 rfl rfl rfl (join20_any A5 A6 _ c5 4 c6 _ _ _ H5 (by omega) H6 (by omega)) rfl ?_
   rintro e w7 ⟨A7, c7, rfl, R7, ex⟩
   refine ⟨_, rfl, .inr ex, ?_⟩
   replace E := E.ext ex
   replace B1 := B1.ext ex
   replace H2 := H2.ext ex
   replace H4 := H4.ext ex
   replace H3 := H3.ext ex
   replace H5 := H5.ext ex
   replace H6 := H6.ext ex
   skip
   refine wm_y 12 rfl (by kernel_rfl) (y_assign rfl) rfl ?_
   refine wm_done (by kernel_rfl) ?_
   refine wq_nop ?_
   refine wq_then_norm (hK2 ?_)
   refine wc_ret ?_
   refine hret rfl ?_
   exact ⟨A7, _, c7, rfl, (R7.lower hz8).congr rfl (by unfold infT; simp), by omega, E⟩
 ·skip
  refine om_ef rfl (ef_lit (z := .int .u8 0) Tryz.underlying23 (by kernel_rfl) rfl rfl rfl rfl rfl) rfl ?_
  rintro _ w3 ⟨g3, rfl, B3, hg3, ex⟩
  refine ⟨.inr ex, ?_⟩
  replace E := E.ext ex
  replace B1 := B1.ext ex
  have H3 := bs_blk' (xs := [(0 : UInt8)]) (B3.congr (by rfl)) rfl
  refine wm_one 2 (by kernel_rfl) ?_; refine om_call rfl Tryz.func66 rfl rfl rfl (rctxBytes_any _ _ _ (HC.ext E) hs) rfl ?_
  rintro e w2 ⟨A2, k2, c2, rfl, R2, hk2, ex⟩
  refine ⟨_, rfl, .inr ex, ?_⟩
  replace E := E.ext ex
  replace B1 := B1.ext ex
  replace H3 := H3.ext ex
  have H2 := R2.bs
  refine wm_one 6 (by kernel_rfl) ?_; refine om_call rfl Tryz.func67 rfl rfl rfl (vec20_any tg.A tg.n tg.c _ _ (Bs.ext d E) (by omega)) rfl ?_
  rintro e w4 ⟨A4, k4, c4, rfl, R4, hk4, ex⟩
  refine ⟨_, rfl, .inr ex, ?_⟩
  replace E := E.ext ex
  replace B1 := B1.ext ex
  replace H3 := H3.ext ex
  replace H2 := H2.ext ex
  have hl4 := lsz_le tg.n; have H4 := R4.bs
  refine wm_one 7 (by kernel_rfl) ?_; refine om_call rfl Tryz.func65 rfl rfl rfl (three20_any A2 _ A4 k2 c2 1 1 k4 c4 _ _ _ _ H2 (by omega) H3 (by omega) H4 (by omega)) rfl ?_
  rintro e w5 ⟨A5, c5, rfl, R5, ex⟩
  refine ⟨_, rfl, .inr ex, ?_⟩
  replace E := E.ext ex
  replace B1 := B1.ext ex
  replace H3 := H3.ext ex
  replace H2 := H2.ext ex
  replace H4 := H4.ext ex
  have H5 := R5.bs
  refine wm_one 10 (by kernel_rfl) ?_; refine om_call rfl Tryz.func68 rfl rfl rfl (four20_any i.frm _) rfl ?_
  rintro e w6 ⟨A6, c6, rfl, R6, ex⟩
  refine ⟨_, rfl, .inr ex, ?_⟩
  replace E := E.ext ex
  replace B1 := B1.ext ex
  replace H3 := H3.ext ex
  replace H2 := H2.ext ex
  replace H4 := H4.ext ex
  replace H5 := H5.ext ex
  have H6 := R6.bs
  have hz8 := E.size
  refine wm_one 11 (by kernel_rfl) ?_; refine om_call rfl Tryz.func64 rfl rfl rfl (join20_any A5 A6 _ c5 4 c6 _ _ _ H5 (by omega) H6 (by omega)) rfl ?_
  rintro e w7 ⟨A7, c7, rfl, R7, ex⟩
  refine ⟨_, rfl, .inr ex, ?_⟩
  replace E := E.ext ex
  replace B1 := B1.ext ex
  replace H3 := H3.ext ex
  replace H2 := H2.ext ex
  replace H4 := H4.ext ex
  replace H5 := H5.ext ex
  replace H6 := H6.ext ex
  skip
  refine wm_y 12 rfl (by kernel_rfl) (y_assign rfl) rfl ?_
  refine wm_done (by kernel_rfl) ?_
  refine wq_nop ?_
  refine wq_then_norm (hK2 ?_)
  refine wc_ret ?_
  refine hret rfl ?_
  exact ⟨A7, _, c7, rfl, (R7.lower hz8).congr rfl (by unfold infT; simp), by omega, E⟩
end
end Go.Proofs.YtjllhimhiekchaaGreat
