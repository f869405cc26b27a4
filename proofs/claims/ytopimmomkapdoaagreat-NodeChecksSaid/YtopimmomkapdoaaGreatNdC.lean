/- Whether leaves and nodes are the same, and right, as the reference says it. -/
import Derived.Test.YtopimmomkapdoaaGreatNdB
namespace Go.Proofs.YtopimmomkapdoaaGreat
open Go.RowKit
attribute [local irreducible] Y Ef WL WC WK WQ WM OpM WN WF OpN
theorem rrightLeaf_any {cs : Array Value} {l : Leaf} (w : World) (H : LeafAt w cs l) :
    Calls Tryz.prog 9 #[.agg cs] w fun e w' => e = .returned (.bool (decide (okLeaf l))) ∧ Ext w w' := by
  obtain ⟨h0, h1, h2, h4, h5, rfl, hs, b0, b1, b2, b4, b5⟩ := H
  have l0 := b0.1; have l1 := b1.1; have l2 := b2.1; have l4 := b4.1; have l5 := b5.1
  have E := Ext.refl w
  refine vc_enter1 60 Tryz.func9 rfl rfl rfl rfl ?_
  intro Q hret
  refine wc_seq ?_; intro K1 hK1
  refine wc_region ?_
  refine wl_ef (ef_box rfl rfl) rfl ?_
  rintro _ wB1 ⟨gB1, rfl, B1, hgB1, ex⟩
  have lB1 := B1.lt; have zB1 := ex.size
  replace E := E.ext ex
  refine wl_y (y_assign rfl) rfl ?_
  refine wl_nil ?_
  refine wq_then_norm (hK1 ?_)
  refine wc_seq ?_; intro K2 hK2
  refine wc_region ?_
  refine wl_y (y_fieldAddr (o := 4) (s := 1) (off := 0) (o' := 4) rfl Tryz.underlying24 rfl (by kernel_rfl) rfl rfl) rfl ?_
  refine wl_y (y_load1 rfl Tryz.underlying22 rfl (B1.get (i := 4) rfl)) rfl ?_
  refine wl_y (y_len_slice rfl Tryz.underlying22) rfl ?_
  refine wl_yask (y_eql rfl rfl) rfl (fun q0 => ?_) (fun q0 => ?_)
  · skip
    refine wl_y (y_move rfl) rfl ?_
    refine wl_gno 8 rfl rfl rfl rfl ?_
    refine wl_gno 8 rfl rfl rfl rfl ?_
    refine wl_gno 8 rfl rfl rfl rfl ?_
    refine wl_gno 8 rfl rfl rfl rfl ?_
    refine wl_gun 12 rfl rfl rfl ?_
    refine wl_gun 12 rfl rfl rfl ?_
    refine wl_gun 12 rfl rfl rfl ?_
    refine wl_gun 12 rfl rfl rfl ?_
    refine wl_gno 8 rfl rfl rfl rfl ?_
    refine wl_y (y_pickt rfl rfl) rfl ?_
    refine wl_y (y_assign rfl) rfl ?_
    refine wl_nil ?_
    refine wq_then_norm (hK2 ?_)
    refine wc_seq ?_; intro K3 hK3
    refine wc_region ?_
    refine wl_y (y_fieldAddr (o := 0) (s := 1) (off := 0) (o' := 0) rfl Tryz.underlying24 rfl (by kernel_rfl) rfl rfl) rfl ?_
    refine wl_y (y_load1 rfl Tryz.underlying22 rfl (B1.get (i := 0) rfl)) rfl ?_
    refine wl_y (y_len_slice rfl Tryz.underlying22) rfl ?_
    refine wl_yask (y_eql rfl rfl) rfl (fun u0 => ?_) (fun u0 => ?_)
    · skip
      refine wl_y (y_move rfl) rfl ?_
      refine wl_gy 23 rfl rfl (y_fieldAddr (o := 1) (s := 1) (off := 0) (o' := 1) rfl Tryz.underlying24 rfl (by kernel_rfl) rfl rfl) rfl ?_
      refine wl_gy 23 rfl rfl (y_load1 rfl Tryz.underlying22 rfl (B1.get (i := 1) rfl)) rfl ?_
      refine wl_gy 23 rfl rfl (y_len_slice rfl Tryz.underlying22) rfl ?_
      refine wl_gyask 23 rfl rfl (y_eql rfl rfl) rfl (fun u1 => ?_) (fun u1 => ?_)
      · skip
        refine wl_y (y_pickt rfl rfl) rfl ?_
        refine wl_y (y_move rfl) rfl ?_
        refine wl_gy 29 rfl rfl (y_fieldAddr (o := 2) (s := 1) (off := 0) (o' := 2) rfl Tryz.underlying24 rfl (by kernel_rfl) rfl rfl) rfl ?_
        refine wl_gy 29 rfl rfl (y_load1 rfl Tryz.underlying22 rfl (B1.get (i := 2) rfl)) rfl ?_
        refine wl_gy 29 rfl rfl (y_len_slice rfl Tryz.underlying22) rfl ?_
        refine wl_gyask 29 rfl rfl (y_gtr rfl rfl) rfl (fun u2 => ?_) (fun u2 => ?_)
        · skip
          refine wl_y (y_pickt rfl rfl) rfl ?_
          refine wl_y (y_move rfl) rfl ?_
          refine wl_gy 35 rfl rfl (y_fieldAddr (o := 2) (s := 1) (off := 0) (o' := 2) rfl Tryz.underlying24 rfl (by kernel_rfl) rfl rfl) rfl ?_
          refine wl_gy 35 rfl rfl (y_load1 rfl Tryz.underlying22 rfl (B1.get (i := 2) rfl)) rfl ?_
          refine wl_gy 35 rfl rfl (y_len_slice rfl Tryz.underlying22) rfl ?_
          refine wl_gyask 35 rfl rfl (y_leq rfl rfl) rfl (fun u3 => ?_) (fun u3 => ?_)
          · skip
            refine wl_y (y_pickt rfl rfl) rfl ?_
            refine wl_y (y_move rfl) rfl ?_
            refine wl_gy 41 rfl rfl (y_fieldAddr (o := 3) (s := 1) (off := 0) (o' := 3) rfl Tryz.underlying24 rfl (by kernel_rfl) rfl rfl) rfl ?_
            refine wl_gy 41 rfl rfl (y_load1 rfl Tryz.underlying5 rfl (B1.get (i := 3) rfl)) rfl ?_
            refine wl_gyask 41 rfl rfl (y_gtr rfl rfl) rfl (fun u4 => ?_) (fun u4 => ?_)
            · skip
              refine wl_y (y_pickt rfl rfl) rfl ?_
              refine wl_y (y_move rfl) rfl ?_
              refine wl_gy 46 rfl rfl (y_fieldAddr (o := 3) (s := 1) (off := 0) (o' := 3) rfl Tryz.underlying24 rfl (by kernel_rfl) rfl rfl) rfl ?_
              refine wl_gy 46 rfl rfl (y_load1 rfl Tryz.underlying5 rfl (B1.get (i := 3) rfl)) rfl ?_
              refine wl_gyask 46 rfl rfl (y_lss rfl rfl) rfl (fun u5 => ?_) (fun u5 => ?_)
              · skip
                refine wl_y (y_pickt rfl rfl) rfl ?_
                refine wl_y (y_move rfl) rfl ?_
                refine wl_gy 51 rfl rfl (y_move rfl) rfl ?_
                refine wl_y (y_pickt rfl rfl) rfl ?_
                refine wl_y (y_move rfl) rfl ?_
                refine wl_gy 54 rfl rfl (y_fieldAddr (o := 5) (s := 1) (off := 0) (o' := 5) rfl Tryz.underlying24 rfl (by kernel_rfl) rfl rfl) rfl ?_
                refine wl_gy 54 rfl rfl (y_load1 rfl Tryz.underlying22 rfl (B1.get (i := 5) rfl)) rfl ?_
                refine wl_gy 54 rfl rfl (y_len_slice rfl Tryz.underlying22) rfl ?_
                refine wl_gyask 54 rfl rfl (y_eql rfl rfl) rfl (fun u6 => ?_) (fun u6 => ?_)
                · skip
                  refine wl_y (y_pickt rfl rfl) rfl ?_
                  refine wl_y (y_assign rfl) rfl ?_
                  refine wl_nil ?_
                  refine wq_then_norm (hK3 ?_)
                  refine wc_ret ?_
                  refine hret rfl ?_
                  first | exact ⟨ret_yes (by unfold okLeaf; omega), E⟩ | exact ⟨ret_no fun h => by unfold okLeaf at h; omega, E⟩
                · skip
                  refine wl_y (y_pickt rfl rfl) rfl ?_
                  refine wl_y (y_assign rfl) rfl ?_
                  refine wl_nil ?_
                  refine wq_then_norm (hK3 ?_)
                  refine wc_ret ?_
                  refine hret rfl ?_
                  first | exact ⟨ret_yes (by unfold okLeaf; omega), E⟩ | exact ⟨ret_no fun h => by unfold okLeaf at h; omega, E⟩
              · skip
                refine wl_y (y_pickt rfl rfl) rfl ?_
                refine wl_y (y_move rfl) rfl ?_
                refine wl_gno 51 rfl rfl rfl rfl ?_
                refine wl_y (y_pickf rfl rfl) rfl ?_
                refine wl_y (y_move rfl) rfl ?_
                refine wl_gno 54 rfl rfl rfl rfl ?_
                refine wl_gno 54 rfl rfl rfl rfl ?_
                refine wl_gno 54 rfl rfl rfl rfl ?_
                refine wl_gno 54 rfl rfl rfl rfl ?_
                refine wl_y (y_pickf rfl rfl) rfl ?_
                refine wl_y (y_assign rfl) rfl ?_
                refine wl_nil ?_
                refine wq_then_norm (hK3 ?_)
                refine wc_ret ?_
                refine hret rfl ?_
                first | exact ⟨ret_yes (by unfold okLeaf; omega), E⟩ | exact ⟨ret_no fun h => by unfold okLeaf at h; omega, E⟩
            · skip
              refine wl_y (y_pickt rfl rfl) rfl ?_
              refine wl_y (y_move rfl) rfl ?_
              refine wl_gno 46 rfl rfl rfl rfl ?_
              refine wl_gno 46 rfl rfl rfl rfl ?_
              refine wl_gno 46 rfl rfl rfl rfl ?_
              refine wl_y (y_pickf rfl rfl) rfl ?_
              refine wl_y (y_move rfl) rfl ?_
              refine wl_gno 51 rfl rfl rfl rfl ?_
              refine wl_y (y_pickf rfl rfl) rfl ?_
              refine wl_y (y_move rfl) rfl ?_
              refine wl_gno 54 rfl rfl rfl rfl ?_
              refine wl_gno 54 rfl rfl rfl rfl ?_
              refine wl_gno 54 rfl rfl rfl rfl ?_
              refine wl_gno 54 rfl rfl rfl rfl ?_
              refine wl_y (y_pickf rfl rfl) rfl ?_
              refine wl_y (y_assign rfl) rfl ?_
              refine wl_nil ?_
              refine wq_then_norm (hK3 ?_)
              refine wc_ret ?_
              refine hret rfl ?_
              first | exact ⟨ret_yes (by unfold okLeaf; omega), E⟩ | exact ⟨ret_no fun h => by unfold okLeaf at h; omega, E⟩
          · skip
            refine wl_y (y_pickt rfl rfl) rfl ?_
            refine wl_y (y_move rfl) rfl ?_
            refine wl_gno 41 rfl rfl rfl rfl ?_
            refine wl_gno 41 rfl rfl rfl rfl ?_
            refine wl_gno 41 rfl rfl rfl rfl ?_
            refine wl_y (y_pickf rfl rfl) rfl ?_
            refine wl_y (y_move rfl) rfl ?_
            refine wl_gno 46 rfl rfl rfl rfl ?_
            refine wl_gno 46 rfl rfl rfl rfl ?_
            refine wl_gno 46 rfl rfl rfl rfl ?_
            refine wl_y (y_pickf rfl rfl) rfl ?_
            refine wl_y (y_move rfl) rfl ?_
            refine wl_gno 51 rfl rfl rfl rfl ?_
            refine wl_y (y_pickf rfl rfl) rfl ?_
            refine wl_y (y_move rfl) rfl ?_
            refine wl_gno 54 rfl rfl rfl rfl ?_
            refine wl_gno 54 rfl rfl rfl rfl ?_
            refine wl_gno 54 rfl rfl rfl rfl ?_
            refine wl_gno 54 rfl rfl rfl rfl ?_
            refine wl_y (y_pickf rfl rfl) rfl ?_
            refine wl_y (y_assign rfl) rfl ?_
            refine wl_nil ?_
            refine wq_then_norm (hK3 ?_)
            refine wc_ret ?_
            refine hret rfl ?_
            first | exact ⟨ret_yes (by unfold okLeaf; omega), E⟩ | exact ⟨ret_no fun h => by unfold okLeaf at h; omega, E⟩
        · skip
          refine wl_y (y_pickt rfl rfl) rfl ?_
          refine wl_y (y_move rfl) rfl ?_
          refine wl_gno 35 rfl rfl rfl rfl ?_
          refine wl_gno 35 rfl rfl rfl rfl ?_
          refine wl_gno 35 rfl rfl rfl rfl ?_
          refine wl_gno 35 rfl rfl rfl rfl ?_
          refine wl_y (y_pickf rfl rfl) rfl ?_
          refine wl_y (y_move rfl) rfl ?_
          refine wl_gno 41 rfl rfl rfl rfl ?_
          refine wl_gno 41 rfl rfl rfl rfl ?_
          refine wl_gno 41 rfl rfl rfl rfl ?_
          refine wl_y (y_pickf rfl rfl) rfl ?_
          refine wl_y (y_move rfl) rfl ?_
          refine wl_gno 46 rfl rfl rfl rfl ?_
          refine wl_gno 46 rfl rfl rfl rfl ?_
          refine wl_gno 46 rfl rfl rfl rfl ?_
          refine wl_y (y_pickf rfl rfl) rfl ?_
          refine wl_y (y_move rfl) rfl ?_
          refine wl_gno 51 rfl rfl rfl rfl ?_
          refine wl_y (y_pickf rfl rfl) rfl ?_
          refine wl_y (y_move rfl) rfl ?_
          refine wl_gno 54 rfl rfl rfl rfl ?_
          refine wl_gno 54 rfl rfl rfl rfl ?_
          refine wl_gno 54 rfl rfl rfl rfl ?_
          refine wl_gno 54 rfl rfl rfl rfl ?_
          refine wl_y (y_pickf rfl rfl) rfl ?_
          refine wl_y (y_assign rfl) rfl ?_
          refine wl_nil ?_
          refine wq_then_norm (hK3 ?_)
          refine wc_ret ?_
          refine hret rfl ?_
          first | exact ⟨ret_yes (by unfold okLeaf; omega), E⟩ | exact ⟨ret_no fun h => by unfold okLeaf at h; omega, E⟩
      · skip
        refine wl_y (y_pickt rfl rfl) rfl ?_
        refine wl_y (y_move rfl) rfl ?_
        refine wl_gno 29 rfl rfl rfl rfl ?_
        refine wl_gno 29 rfl rfl rfl rfl ?_
        refine wl_gno 29 rfl rfl rfl rfl ?_
        refine wl_gno 29 rfl rfl rfl rfl ?_
        refine wl_y (y_pickf rfl rfl) rfl ?_
        refine wl_y (y_move rfl) rfl ?_
        refine wl_gno 35 rfl rfl rfl rfl ?_
        refine wl_gno 35 rfl rfl rfl rfl ?_
        refine wl_gno 35 rfl rfl rfl rfl ?_
        refine wl_gno 35 rfl rfl rfl rfl ?_
        refine wl_y (y_pickf rfl rfl) rfl ?_
        refine wl_y (y_move rfl) rfl ?_
        refine wl_gno 41 rfl rfl rfl rfl ?_
        refine wl_gno 41 rfl rfl rfl rfl ?_
        refine wl_gno 41 rfl rfl rfl rfl ?_
        refine wl_y (y_pickf rfl rfl) rfl ?_
        refine wl_y (y_move rfl) rfl ?_
        refine wl_gno 46 rfl rfl rfl rfl ?_
        refine wl_gno 46 rfl rfl rfl rfl ?_
        refine wl_gno 46 rfl rfl rfl rfl ?_
        refine wl_y (y_pickf rfl rfl) rfl ?_
        refine wl_y (y_move rfl) rfl ?_
        refine wl_gno 51 rfl rfl rfl rfl ?_
        refine wl_y (y_pickf rfl rfl) rfl ?_
        refine wl_y (y_move rfl) rfl ?_
        refine wl_gno 54 rfl rfl rfl rfl ?_
        refine wl_gno 54 rfl rfl rfl rfl ?_
        refine wl_gno 54 rfl rfl rfl rfl ?_
        refine wl_gno 54 rfl rfl rfl rfl ?_
        refine wl_y (y_pickf rfl rfl) rfl ?_
        refine wl_y (y_assign rfl) rfl ?_
        refine wl_nil ?_
        refine wq_then_norm (hK3 ?_)
        refine wc_ret ?_
        refine hret rfl ?_
        first | exact ⟨ret_yes (by unfold okLeaf; omega), E⟩ | exact ⟨ret_no fun h => by unfold okLeaf at h; omega, E⟩
    · skip
      refine wl_y (y_move rfl) rfl ?_
      refine wl_gno 23 rfl rfl rfl rfl ?_
      refine wl_gno 23 rfl rfl rfl rfl ?_
      refine wl_gno 23 rfl rfl rfl rfl ?_
      refine wl_gno 23 rfl rfl rfl rfl ?_
      refine wl_y (y_pickf rfl rfl) rfl ?_
      refine wl_y (y_move rfl) rfl ?_
      refine wl_gno 29 rfl rfl rfl rfl ?_
      refine wl_gno 29 rfl rfl rfl rfl ?_
      refine wl_gno 29 rfl rfl rfl rfl ?_
      refine wl_gno 29 rfl rfl rfl rfl ?_
      refine wl_y (y_pickf rfl rfl) rfl ?_
      refine wl_y (y_move rfl) rfl ?_
      refine wl_gno 35 rfl rfl rfl rfl ?_
      refine wl_gno 35 rfl rfl rfl rfl ?_
      refine wl_gno 35 rfl rfl rfl rfl ?_
      refine wl_gno 35 rfl rfl rfl rfl ?_
      refine wl_y (y_pickf rfl rfl) rfl ?_
      refine wl_y (y_move rfl) rfl ?_
      refine wl_gno 41 rfl rfl rfl rfl ?_
      refine wl_gno 41 rfl rfl rfl rfl ?_
      refine wl_gno 41 rfl rfl rfl rfl ?_
      refine wl_y (y_pickf rfl rfl) rfl ?_
      refine wl_y (y_move rfl) rfl ?_
      refine wl_gno 46 rfl rfl rfl rfl ?_
      refine wl_gno 46 rfl rfl rfl rfl ?_
      refine wl_gno 46 rfl rfl rfl rfl ?_
      refine wl_y (y_pickf rfl rfl) rfl ?_
      refine wl_y (y_move rfl) rfl ?_
      refine wl_gno 51 rfl rfl rfl rfl ?_
      refine wl_y (y_pickf rfl rfl) rfl ?_
      refine wl_y (y_move rfl) rfl ?_
      refine wl_gno 54 rfl rfl rfl rfl ?_
      refine wl_gno 54 rfl rfl rfl rfl ?_
      refine wl_gno 54 rfl rfl rfl rfl ?_
      refine wl_gno 54 rfl rfl rfl rfl ?_
      refine wl_y (y_pickf rfl rfl) rfl ?_
      refine wl_y (y_assign rfl) rfl ?_
      refine wl_nil ?_
      refine wq_then_norm (hK3 ?_)
      refine wc_ret ?_
      refine hret rfl ?_
      first | exact ⟨ret_yes (by unfold okLeaf; omega), E⟩ | exact ⟨ret_no fun h => by unfold okLeaf at h; omega, E⟩
  · skip
    refine wl_y (y_move rfl) rfl ?_
    refine wl_gy 8 rfl rfl (y_fieldAddr (o := 3) (s := 1) (off := 0) (o' := 3) rfl Tryz.underlying24 rfl (by kernel_rfl) rfl rfl) rfl ?_
    refine wl_gy 8 rfl rfl (y_load1 rfl Tryz.underlying5 rfl (B1.get (i := 3) rfl)) rfl ?_
    refine wl_gyask 8 rfl rfl (y_eql rfl rfl) rfl (fun q1 => ?_) (fun q1 => ?_)
    · skip
      refine wl_gy 8 rfl rfl (y_move rfl) rfl ?_
      refine wl_gy 12 rfl rfl (y_fieldAddr (o := 4) (s := 1) (off := 0) (o' := 4) rfl Tryz.underlying24 rfl (by kernel_rfl) rfl rfl) rfl ?_
      refine wl_gy 12 rfl rfl (y_load1 rfl Tryz.underlying22 rfl (B1.get (i := 4) rfl)) rfl ?_
      refine wl_gy 12 rfl rfl (y_len_slice rfl Tryz.underlying22) rfl ?_
      refine wl_gyask 12 rfl rfl (y_eql rfl rfl) rfl (fun q2 => ?_) (fun q2 => ?_)
      · skip
        refine wl_gy 8 rfl rfl (y_pickt rfl rfl) rfl ?_
        refine wl_y (y_pickf rfl rfl) rfl ?_
        refine wl_y (y_assign rfl) rfl ?_
        refine wl_nil ?_
        refine wq_then_norm (hK2 ?_)
        refine wc_seq ?_; intro K4 hK4
        refine wc_region ?_
        refine wl_y (y_fieldAddr (o := 0) (s := 1) (off := 0) (o' := 0) rfl Tryz.underlying24 rfl (by kernel_rfl) rfl rfl) rfl ?_
        refine wl_y (y_load1 rfl Tryz.underlying22 rfl (B1.get (i := 0) rfl)) rfl ?_
        refine wl_y (y_len_slice rfl Tryz.underlying22) rfl ?_
        refine wl_yask (y_eql rfl rfl) rfl (fun u0 => ?_) (fun u0 => ?_)
        · skip
          refine wl_y (y_move rfl) rfl ?_
          refine wl_gy 23 rfl rfl (y_fieldAddr (o := 1) (s := 1) (off := 0) (o' := 1) rfl Tryz.underlying24 rfl (by kernel_rfl) rfl rfl) rfl ?_
          refine wl_gy 23 rfl rfl (y_load1 rfl Tryz.underlying22 rfl (B1.get (i := 1) rfl)) rfl ?_
          refine wl_gy 23 rfl rfl (y_len_slice rfl Tryz.underlying22) rfl ?_
          refine wl_gyask 23 rfl rfl (y_eql rfl rfl) rfl (fun u1 => ?_) (fun u1 => ?_)
          · skip
            refine wl_y (y_pickt rfl rfl) rfl ?_
            refine wl_y (y_move rfl) rfl ?_
            refine wl_gy 29 rfl rfl (y_fieldAddr (o := 2) (s := 1) (off := 0) (o' := 2) rfl Tryz.underlying24 rfl (by kernel_rfl) rfl rfl) rfl ?_
            refine wl_gy 29 rfl rfl (y_load1 rfl Tryz.underlying22 rfl (B1.get (i := 2) rfl)) rfl ?_
            refine wl_gy 29 rfl rfl (y_len_slice rfl Tryz.underlying22) rfl ?_
            refine wl_gyask 29 rfl rfl (y_gtr rfl rfl) rfl (fun u2 => ?_) (fun u2 => ?_)
            · skip
              refine wl_y (y_pickt rfl rfl) rfl ?_
              refine wl_y (y_move rfl) rfl ?_
              refine wl_gy 35 rfl rfl (y_fieldAddr (o := 2) (s := 1) (off := 0) (o' := 2) rfl Tryz.underlying24 rfl (by kernel_rfl) rfl rfl) rfl ?_
              refine wl_gy 35 rfl rfl (y_load1 rfl Tryz.underlying22 rfl (B1.get (i := 2) rfl)) rfl ?_
              refine wl_gy 35 rfl rfl (y_len_slice rfl Tryz.underlying22) rfl ?_
              refine wl_gyask 35 rfl rfl (y_leq rfl rfl) rfl (fun u3 => ?_) (fun u3 => ?_)
              · skip
                refine wl_y (y_pickt rfl rfl) rfl ?_
                refine wl_y (y_move rfl) rfl ?_
                refine wl_gy 41 rfl rfl (y_fieldAddr (o := 3) (s := 1) (off := 0) (o' := 3) rfl Tryz.underlying24 rfl (by kernel_rfl) rfl rfl) rfl ?_
                refine wl_gy 41 rfl rfl (y_load1 rfl Tryz.underlying5 rfl (B1.get (i := 3) rfl)) rfl ?_
                refine wl_gyask 41 rfl rfl (y_gtr rfl rfl) rfl (fun u4 => ?_) (fun u4 => ?_)
                · skip
                  refine wl_y (y_pickt rfl rfl) rfl ?_
                  refine wl_y (y_move rfl) rfl ?_
                  refine wl_gy 46 rfl rfl (y_fieldAddr (o := 3) (s := 1) (off := 0) (o' := 3) rfl Tryz.underlying24 rfl (by kernel_rfl) rfl rfl) rfl ?_
                  refine wl_gy 46 rfl rfl (y_load1 rfl Tryz.underlying5 rfl (B1.get (i := 3) rfl)) rfl ?_
                  refine wl_gyask 46 rfl rfl (y_lss rfl rfl) rfl (fun u5 => ?_) (fun u5 => ?_)
                  · skip
                    refine wl_y (y_pickt rfl rfl) rfl ?_
                    refine wl_y (y_move rfl) rfl ?_
                    refine wl_gy 51 rfl rfl (y_move rfl) rfl ?_
                    refine wl_y (y_pickt rfl rfl) rfl ?_
                    refine wl_y (y_move rfl) rfl ?_
                    refine wl_gy 54 rfl rfl (y_fieldAddr (o := 5) (s := 1) (off := 0) (o' := 5) rfl Tryz.underlying24 rfl (by kernel_rfl) rfl rfl) rfl ?_
                    refine wl_gy 54 rfl rfl (y_load1 rfl Tryz.underlying22 rfl (B1.get (i := 5) rfl)) rfl ?_
                    refine wl_gy 54 rfl rfl (y_len_slice rfl Tryz.underlying22) rfl ?_
                    refine wl_gyask 54 rfl rfl (y_eql rfl rfl) rfl (fun u6 => ?_) (fun u6 => ?_)
                    · skip
                      refine wl_y (y_pickt rfl rfl) rfl ?_
                      refine wl_y (y_assign rfl) rfl ?_
                      refine wl_nil ?_
                      refine wq_then_norm (hK4 ?_)
                      refine wc_ret ?_
                      refine hret rfl ?_
                      first | exact ⟨ret_yes (by unfold okLeaf; omega), E⟩ | exact ⟨ret_no fun h => by unfold okLeaf at h; omega, E⟩
                    · skip
                      refine wl_y (y_pickt rfl rfl) rfl ?_
                      refine wl_y (y_assign rfl) rfl ?_
                      refine wl_nil ?_
                      refine wq_then_norm (hK4 ?_)
                      refine wc_ret ?_
                      refine hret rfl ?_
                      first | exact ⟨ret_yes (by unfold okLeaf; omega), E⟩ | exact ⟨ret_no fun h => by unfold okLeaf at h; omega, E⟩
                  · skip
                    refine wl_y (y_pickt rfl rfl) rfl ?_
                    refine wl_y (y_move rfl) rfl ?_
                    refine wl_gno 51 rfl rfl rfl rfl ?_
                    refine wl_y (y_pickf rfl rfl) rfl ?_
                    refine wl_y (y_move rfl) rfl ?_
                    refine wl_gno 54 rfl rfl rfl rfl ?_
                    refine wl_gno 54 rfl rfl rfl rfl ?_
                    refine wl_gno 54 rfl rfl rfl rfl ?_
                    refine wl_gno 54 rfl rfl rfl rfl ?_
                    refine wl_y (y_pickf rfl rfl) rfl ?_
                    refine wl_y (y_assign rfl) rfl ?_
                    refine wl_nil ?_
                    refine wq_then_norm (hK4 ?_)
                    refine wc_ret ?_
                    refine hret rfl ?_
                    first | exact ⟨ret_yes (by unfold okLeaf; omega), E⟩ | exact ⟨ret_no fun h => by unfold okLeaf at h; omega, E⟩
                · skip
                  refine wl_y (y_pickt rfl rfl) rfl ?_
                  refine wl_y (y_move rfl) rfl ?_
                  refine wl_gno 46 rfl rfl rfl rfl ?_
                  refine wl_gno 46 rfl rfl rfl rfl ?_
                  refine wl_gno 46 rfl rfl rfl rfl ?_
                  refine wl_y (y_pickf rfl rfl) rfl ?_
                  refine wl_y (y_move rfl) rfl ?_
                  refine wl_gno 51 rfl rfl rfl rfl ?_
                  refine wl_y (y_pickf rfl rfl) rfl ?_
                  refine wl_y (y_move rfl) rfl ?_
                  refine wl_gno 54 rfl rfl rfl rfl ?_
                  refine wl_gno 54 rfl rfl rfl rfl ?_
                  refine wl_gno 54 rfl rfl rfl rfl ?_
                  refine wl_gno 54 rfl rfl rfl rfl ?_
                  refine wl_y (y_pickf rfl rfl) rfl ?_
                  refine wl_y (y_assign rfl) rfl ?_
                  refine wl_nil ?_
                  refine wq_then_norm (hK4 ?_)
                  refine wc_ret ?_
                  refine hret rfl ?_
                  first | exact ⟨ret_yes (by unfold okLeaf; omega), E⟩ | exact ⟨ret_no fun h => by unfold okLeaf at h; omega, E⟩
              · skip
                refine wl_y (y_pickt rfl rfl) rfl ?_
                refine wl_y (y_move rfl) rfl ?_
                refine wl_gno 41 rfl rfl rfl rfl ?_
                refine wl_gno 41 rfl rfl rfl rfl ?_
                refine wl_gno 41 rfl rfl rfl rfl ?_
                refine wl_y (y_pickf rfl rfl) rfl ?_
                refine wl_y (y_move rfl) rfl ?_
                refine wl_gno 46 rfl rfl rfl rfl ?_
                refine wl_gno 46 rfl rfl rfl rfl ?_
                refine wl_gno 46 rfl rfl rfl rfl ?_
                refine wl_y (y_pickf rfl rfl) rfl ?_
                refine wl_y (y_move rfl) rfl ?_
                refine wl_gno 51 rfl rfl rfl rfl ?_
                refine wl_y (y_pickf rfl rfl) rfl ?_
                refine wl_y (y_move rfl) rfl ?_
                refine wl_gno 54 rfl rfl rfl rfl ?_
                refine wl_gno 54 rfl rfl rfl rfl ?_
                refine wl_gno 54 rfl rfl rfl rfl ?_
                refine wl_gno 54 rfl rfl rfl rfl ?_
                refine wl_y (y_pickf rfl rfl) rfl ?_
                refine wl_y (y_assign rfl) rfl ?_
                refine wl_nil ?_
                refine wq_then_norm (hK4 ?_)
                refine wc_ret ?_
                refine hret rfl ?_
                first | exact ⟨ret_yes (by unfold okLeaf; omega), E⟩ | exact ⟨ret_no fun h => by unfold okLeaf at h; omega, E⟩
            · skip
              refine wl_y (y_pickt rfl rfl) rfl ?_
              refine wl_y (y_move rfl) rfl ?_
              refine wl_gno 35 rfl rfl rfl rfl ?_
              refine wl_gno 35 rfl rfl rfl rfl ?_
              refine wl_gno 35 rfl rfl rfl rfl ?_
              refine wl_gno 35 rfl rfl rfl rfl ?_
              refine wl_y (y_pickf rfl rfl) rfl ?_
              refine wl_y (y_move rfl) rfl ?_
              refine wl_gno 41 rfl rfl rfl rfl ?_
              refine wl_gno 41 rfl rfl rfl rfl ?_
              refine wl_gno 41 rfl rfl rfl rfl ?_
              refine wl_y (y_pickf rfl rfl) rfl ?_
              refine wl_y (y_move rfl) rfl ?_
              refine wl_gno 46 rfl rfl rfl rfl ?_
              refine wl_gno 46 rfl rfl rfl rfl ?_
              refine wl_gno 46 rfl rfl rfl rfl ?_
              refine wl_y (y_pickf rfl rfl) rfl ?_
              refine wl_y (y_move rfl) rfl ?_
              refine wl_gno 51 rfl rfl rfl rfl ?_
              refine wl_y (y_pickf rfl rfl) rfl ?_
              refine wl_y (y_move rfl) rfl ?_
              refine wl_gno 54 rfl rfl rfl rfl ?_
              refine wl_gno 54 rfl rfl rfl rfl ?_
              refine wl_gno 54 rfl rfl rfl rfl ?_
              refine wl_gno 54 rfl rfl rfl rfl ?_
              refine wl_y (y_pickf rfl rfl) rfl ?_
              refine wl_y (y_assign rfl) rfl ?_
              refine wl_nil ?_
              refine wq_then_norm (hK4 ?_)
              refine wc_ret ?_
              refine hret rfl ?_
              first | exact ⟨ret_yes (by unfold okLeaf; omega), E⟩ | exact ⟨ret_no fun h => by unfold okLeaf at h; omega, E⟩
          · skip
            refine wl_y (y_pickt rfl rfl) rfl ?_
            refine wl_y (y_move rfl) rfl ?_
            refine wl_gno 29 rfl rfl rfl rfl ?_
            refine wl_gno 29 rfl rfl rfl rfl ?_
            refine wl_gno 29 rfl rfl rfl rfl ?_
            refine wl_gno 29 rfl rfl rfl rfl ?_
            refine wl_y (y_pickf rfl rfl) rfl ?_
            refine wl_y (y_move rfl) rfl ?_
            refine wl_gno 35 rfl rfl rfl rfl ?_
            refine wl_gno 35 rfl rfl rfl rfl ?_
            refine wl_gno 35 rfl rfl rfl rfl ?_
            refine wl_gno 35 rfl rfl rfl rfl ?_
            refine wl_y (y_pickf rfl rfl) rfl ?_
            refine wl_y (y_move rfl) rfl ?_
            refine wl_gno 41 rfl rfl rfl rfl ?_
            refine wl_gno 41 rfl rfl rfl rfl ?_
            refine wl_gno 41 rfl rfl rfl rfl ?_
            refine wl_y (y_pickf rfl rfl) rfl ?_
            refine wl_y (y_move rfl) rfl ?_
            refine wl_gno 46 rfl rfl rfl rfl ?_
            refine wl_gno 46 rfl rfl rfl rfl ?_
            refine wl_gno 46 rfl rfl rfl rfl ?_
            refine wl_y (y_pickf rfl rfl) rfl ?_
            refine wl_y (y_move rfl) rfl ?_
            refine wl_gno 51 rfl rfl rfl rfl ?_
            refine wl_y (y_pickf rfl rfl) rfl ?_
            refine wl_y (y_move rfl) rfl ?_
            refine wl_gno 54 rfl rfl rfl rfl ?_
            refine wl_gno 54 rfl rfl rfl rfl ?_
            refine wl_gno 54 rfl rfl rfl rfl ?_
            refine wl_gno 54 rfl rfl rfl rfl ?_
            refine wl_y (y_pickf rfl rfl) rfl ?_
            refine wl_y (y_assign rfl) rfl ?_
            refine wl_nil ?_
            refine wq_then_norm (hK4 ?_)
            refine wc_ret ?_
            refine hret rfl ?_
            first | exact ⟨ret_yes (by unfold okLeaf; omega), E⟩ | exact ⟨ret_no fun h => by unfold okLeaf at h; omega, E⟩
        · skip
          refine wl_y (y_move rfl) rfl ?_
          refine wl_gno 23 rfl rfl rfl rfl ?_
          refine wl_gno 23 rfl rfl rfl rfl ?_
          refine wl_gno 23 rfl rfl rfl rfl ?_
          refine wl_gno 23 rfl rfl rfl rfl ?_
          refine wl_y (y_pickf rfl rfl) rfl ?_
          refine wl_y (y_move rfl) rfl ?_
          refine wl_gno 29 rfl rfl rfl rfl ?_
          refine wl_gno 29 rfl rfl rfl rfl ?_
          refine wl_gno 29 rfl rfl rfl rfl ?_
          refine wl_gno 29 rfl rfl rfl rfl ?_
          refine wl_y (y_pickf rfl rfl) rfl ?_
          refine wl_y (y_move rfl) rfl ?_
          refine wl_gno 35 rfl rfl rfl rfl ?_
          refine wl_gno 35 rfl rfl rfl rfl ?_
          refine wl_gno 35 rfl rfl rfl rfl ?_
          refine wl_gno 35 rfl rfl rfl rfl ?_
          refine wl_y (y_pickf rfl rfl) rfl ?_
          refine wl_y (y_move rfl) rfl ?_
          refine wl_gno 41 rfl rfl rfl rfl ?_
          refine wl_gno 41 rfl rfl rfl rfl ?_
          refine wl_gno 41 rfl rfl rfl rfl ?_
          refine wl_y (y_pickf rfl rfl) rfl ?_
          refine wl_y (y_move rfl) rfl ?_
          refine wl_gno 46 rfl rfl rfl rfl ?_
          refine wl_gno 46 rfl rfl rfl rfl ?_
          refine wl_gno 46 rfl rfl rfl rfl ?_
          refine wl_y (y_pickf rfl rfl) rfl ?_
          refine wl_y (y_move rfl) rfl ?_
          refine wl_gno 51 rfl rfl rfl rfl ?_
          refine wl_y (y_pickf rfl rfl) rfl ?_
          refine wl_y (y_move rfl) rfl ?_
          refine wl_gno 54 rfl rfl rfl rfl ?_
          refine wl_gno 54 rfl rfl rfl rfl ?_
          refine wl_gno 54 rfl rfl rfl rfl ?_
          refine wl_gno 54 rfl rfl rfl rfl ?_
          refine wl_y (y_pickf rfl rfl) rfl ?_
          refine wl_y (y_assign rfl) rfl ?_
          refine wl_nil ?_
          refine wq_then_norm (hK4 ?_)
          refine wc_ret ?_
          refine hret rfl ?_
          first | exact ⟨ret_yes (by unfold okLeaf; omega), E⟩ | exact ⟨ret_no fun h => by unfold okLeaf at h; omega, E⟩
      · skip
        refine wl_gy 8 rfl rfl (y_pickt rfl rfl) rfl ?_
        refine wl_y (y_pickf rfl rfl) rfl ?_
        refine wl_y (y_assign rfl) rfl ?_
        refine wl_nil ?_
        refine wq_then_norm (hK2 ?_)
        refine wc_seq ?_; intro K5 hK5
        refine wc_region ?_
        refine wl_y (y_fieldAddr (o := 0) (s := 1) (off := 0) (o' := 0) rfl Tryz.underlying24 rfl (by kernel_rfl) rfl rfl) rfl ?_
        refine wl_y (y_load1 rfl Tryz.underlying22 rfl (B1.get (i := 0) rfl)) rfl ?_
        refine wl_y (y_len_slice rfl Tryz.underlying22) rfl ?_
        refine wl_yask (y_eql rfl rfl) rfl (fun u0 => ?_) (fun u0 => ?_)
        · skip
          refine wl_y (y_move rfl) rfl ?_
          refine wl_gy 23 rfl rfl (y_fieldAddr (o := 1) (s := 1) (off := 0) (o' := 1) rfl Tryz.underlying24 rfl (by kernel_rfl) rfl rfl) rfl ?_
          refine wl_gy 23 rfl rfl (y_load1 rfl Tryz.underlying22 rfl (B1.get (i := 1) rfl)) rfl ?_
          refine wl_gy 23 rfl rfl (y_len_slice rfl Tryz.underlying22) rfl ?_
          refine wl_gyask 23 rfl rfl (y_eql rfl rfl) rfl (fun u1 => ?_) (fun u1 => ?_)
          · skip
            refine wl_y (y_pickt rfl rfl) rfl ?_
            refine wl_y (y_move rfl) rfl ?_
            refine wl_gy 29 rfl rfl (y_fieldAddr (o := 2) (s := 1) (off := 0) (o' := 2) rfl Tryz.underlying24 rfl (by kernel_rfl) rfl rfl) rfl ?_
            refine wl_gy 29 rfl rfl (y_load1 rfl Tryz.underlying22 rfl (B1.get (i := 2) rfl)) rfl ?_
            refine wl_gy 29 rfl rfl (y_len_slice rfl Tryz.underlying22) rfl ?_
            refine wl_gyask 29 rfl rfl (y_gtr rfl rfl) rfl (fun u2 => ?_) (fun u2 => ?_)
            · skip
              refine wl_y (y_pickt rfl rfl) rfl ?_
              refine wl_y (y_move rfl) rfl ?_
              refine wl_gy 35 rfl rfl (y_fieldAddr (o := 2) (s := 1) (off := 0) (o' := 2) rfl Tryz.underlying24 rfl (by kernel_rfl) rfl rfl) rfl ?_
              refine wl_gy 35 rfl rfl (y_load1 rfl Tryz.underlying22 rfl (B1.get (i := 2) rfl)) rfl ?_
              refine wl_gy 35 rfl rfl (y_len_slice rfl Tryz.underlying22) rfl ?_
              refine wl_gyask 35 rfl rfl (y_leq rfl rfl) rfl (fun u3 => ?_) (fun u3 => ?_)
              · skip
                refine wl_y (y_pickt rfl rfl) rfl ?_
                refine wl_y (y_move rfl) rfl ?_
                refine wl_gy 41 rfl rfl (y_fieldAddr (o := 3) (s := 1) (off := 0) (o' := 3) rfl Tryz.underlying24 rfl (by kernel_rfl) rfl rfl) rfl ?_
                refine wl_gy 41 rfl rfl (y_load1 rfl Tryz.underlying5 rfl (B1.get (i := 3) rfl)) rfl ?_
                refine wl_gyask 41 rfl rfl (y_gtr rfl rfl) rfl (fun u4 => ?_) (fun u4 => ?_)
                · skip
                  refine wl_y (y_pickt rfl rfl) rfl ?_
                  refine wl_y (y_move rfl) rfl ?_
                  refine wl_gy 46 rfl rfl (y_fieldAddr (o := 3) (s := 1) (off := 0) (o' := 3) rfl Tryz.underlying24 rfl (by kernel_rfl) rfl rfl) rfl ?_
                  refine wl_gy 46 rfl rfl (y_load1 rfl Tryz.underlying5 rfl (B1.get (i := 3) rfl)) rfl ?_
                  refine wl_gyask 46 rfl rfl (y_lss rfl rfl) rfl (fun u5 => ?_) (fun u5 => ?_)
                  · skip
                    refine wl_y (y_pickt rfl rfl) rfl ?_
                    refine wl_y (y_move rfl) rfl ?_
                    refine wl_gy 51 rfl rfl (y_move rfl) rfl ?_
                    refine wl_y (y_pickt rfl rfl) rfl ?_
                    refine wl_y (y_move rfl) rfl ?_
                    refine wl_gno 54 rfl rfl rfl rfl ?_
                    refine wl_gno 54 rfl rfl rfl rfl ?_
                    refine wl_gno 54 rfl rfl rfl rfl ?_
                    refine wl_gno 54 rfl rfl rfl rfl ?_
                    refine wl_y (y_pickf rfl rfl) rfl ?_
                    refine wl_y (y_assign rfl) rfl ?_
                    refine wl_nil ?_
                    refine wq_then_norm (hK5 ?_)
                    refine wc_ret ?_
                    refine hret rfl ?_
                    first | exact ⟨ret_yes (by unfold okLeaf; omega), E⟩ | exact ⟨ret_no fun h => by unfold okLeaf at h; omega, E⟩
                  · skip
                    refine wl_y (y_pickt rfl rfl) rfl ?_
                    refine wl_y (y_move rfl) rfl ?_
                    refine wl_gno 51 rfl rfl rfl rfl ?_
                    refine wl_y (y_pickf rfl rfl) rfl ?_
                    refine wl_y (y_move rfl) rfl ?_
                    refine wl_gno 54 rfl rfl rfl rfl ?_
                    refine wl_gno 54 rfl rfl rfl rfl ?_
                    refine wl_gno 54 rfl rfl rfl rfl ?_
                    refine wl_gno 54 rfl rfl rfl rfl ?_
                    refine wl_y (y_pickf rfl rfl) rfl ?_
                    refine wl_y (y_assign rfl) rfl ?_
                    refine wl_nil ?_
                    refine wq_then_norm (hK5 ?_)
                    refine wc_ret ?_
                    refine hret rfl ?_
                    first | exact ⟨ret_yes (by unfold okLeaf; omega), E⟩ | exact ⟨ret_no fun h => by unfold okLeaf at h; omega, E⟩
                · skip
                  refine wl_y (y_pickt rfl rfl) rfl ?_
                  refine wl_y (y_move rfl) rfl ?_
                  refine wl_gno 46 rfl rfl rfl rfl ?_
                  refine wl_gno 46 rfl rfl rfl rfl ?_
                  refine wl_gno 46 rfl rfl rfl rfl ?_
                  refine wl_y (y_pickf rfl rfl) rfl ?_
                  refine wl_y (y_move rfl) rfl ?_
                  refine wl_gno 51 rfl rfl rfl rfl ?_
                  refine wl_y (y_pickf rfl rfl) rfl ?_
                  refine wl_y (y_move rfl) rfl ?_
                  refine wl_gno 54 rfl rfl rfl rfl ?_
                  refine wl_gno 54 rfl rfl rfl rfl ?_
                  refine wl_gno 54 rfl rfl rfl rfl ?_
                  refine wl_gno 54 rfl rfl rfl rfl ?_
                  refine wl_y (y_pickf rfl rfl) rfl ?_
                  refine wl_y (y_assign rfl) rfl ?_
                  refine wl_nil ?_
                  refine wq_then_norm (hK5 ?_)
                  refine wc_ret ?_
                  refine hret rfl ?_
                  first | exact ⟨ret_yes (by unfold okLeaf; omega), E⟩ | exact ⟨ret_no fun h => by unfold okLeaf at h; omega, E⟩
              · skip
                refine wl_y (y_pickt rfl rfl) rfl ?_
                refine wl_y (y_move rfl) rfl ?_
                refine wl_gno 41 rfl rfl rfl rfl ?_
                refine wl_gno 41 rfl rfl rfl rfl ?_
                refine wl_gno 41 rfl rfl rfl rfl ?_
                refine wl_y (y_pickf rfl rfl) rfl ?_
                refine wl_y (y_move rfl) rfl ?_
                refine wl_gno 46 rfl rfl rfl rfl ?_
                refine wl_gno 46 rfl rfl rfl rfl ?_
                refine wl_gno 46 rfl rfl rfl rfl ?_
                refine wl_y (y_pickf rfl rfl) rfl ?_
                refine wl_y (y_move rfl) rfl ?_
                refine wl_gno 51 rfl rfl rfl rfl ?_
                refine wl_y (y_pickf rfl rfl) rfl ?_
                refine wl_y (y_move rfl) rfl ?_
                refine wl_gno 54 rfl rfl rfl rfl ?_
                refine wl_gno 54 rfl rfl rfl rfl ?_
                refine wl_gno 54 rfl rfl rfl rfl ?_
                refine wl_gno 54 rfl rfl rfl rfl ?_
                refine wl_y (y_pickf rfl rfl) rfl ?_
                refine wl_y (y_assign rfl) rfl ?_
                refine wl_nil ?_
                refine wq_then_norm (hK5 ?_)
                refine wc_ret ?_
                refine hret rfl ?_
                first | exact ⟨ret_yes (by unfold okLeaf; omega), E⟩ | exact ⟨ret_no fun h => by unfold okLeaf at h; omega, E⟩
            · skip
              refine wl_y (y_pickt rfl rfl) rfl ?_
              refine wl_y (y_move rfl) rfl ?_
              refine wl_gno 35 rfl rfl rfl rfl ?_
              refine wl_gno 35 rfl rfl rfl rfl ?_
              refine wl_gno 35 rfl rfl rfl rfl ?_
              refine wl_gno 35 rfl rfl rfl rfl ?_
              refine wl_y (y_pickf rfl rfl) rfl ?_
              refine wl_y (y_move rfl) rfl ?_
              refine wl_gno 41 rfl rfl rfl rfl ?_
              refine wl_gno 41 rfl rfl rfl rfl ?_
              refine wl_gno 41 rfl rfl rfl rfl ?_
              refine wl_y (y_pickf rfl rfl) rfl ?_
              refine wl_y (y_move rfl) rfl ?_
              refine wl_gno 46 rfl rfl rfl rfl ?_
              refine wl_gno 46 rfl rfl rfl rfl ?_
              refine wl_gno 46 rfl rfl rfl rfl ?_
              refine wl_y (y_pickf rfl rfl) rfl ?_
              refine wl_y (y_move rfl) rfl ?_
              refine wl_gno 51 rfl rfl rfl rfl ?_
              refine wl_y (y_pickf rfl rfl) rfl ?_
              refine wl_y (y_move rfl) rfl ?_
              refine wl_gno 54 rfl rfl rfl rfl ?_
              refine wl_gno 54 rfl rfl rfl rfl ?_
              refine wl_gno 54 rfl rfl rfl rfl ?_
              refine wl_gno 54 rfl rfl rfl rfl ?_
              refine wl_y (y_pickf rfl rfl) rfl ?_
              refine wl_y (y_assign rfl) rfl ?_
              refine wl_nil ?_
              refine wq_then_norm (hK5 ?_)
              refine wc_ret ?_
              refine hret rfl ?_
              first | exact ⟨ret_yes (by unfold okLeaf; omega), E⟩ | exact ⟨ret_no fun h => by unfold okLeaf at h; omega, E⟩
          · skip
            refine wl_y (y_pickt rfl rfl) rfl ?_
            refine wl_y (y_move rfl) rfl ?_
            refine wl_gno 29 rfl rfl rfl rfl ?_
            refine wl_gno 29 rfl rfl rfl rfl ?_
            refine wl_gno 29 rfl rfl rfl rfl ?_
            refine wl_gno 29 rfl rfl rfl rfl ?_
            refine wl_y (y_pickf rfl rfl) rfl ?_
            refine wl_y (y_move rfl) rfl ?_
            refine wl_gno 35 rfl rfl rfl rfl ?_
            refine wl_gno 35 rfl rfl rfl rfl ?_
            refine wl_gno 35 rfl rfl rfl rfl ?_
            refine wl_gno 35 rfl rfl rfl rfl ?_
            refine wl_y (y_pickf rfl rfl) rfl ?_
            refine wl_y (y_move rfl) rfl ?_
            refine wl_gno 41 rfl rfl rfl rfl ?_
            refine wl_gno 41 rfl rfl rfl rfl ?_
            refine wl_gno 41 rfl rfl rfl rfl ?_
            refine wl_y (y_pickf rfl rfl) rfl ?_
            refine wl_y (y_move rfl) rfl ?_
            refine wl_gno 46 rfl rfl rfl rfl ?_
            refine wl_gno 46 rfl rfl rfl rfl ?_
            refine wl_gno 46 rfl rfl rfl rfl ?_
            refine wl_y (y_pickf rfl rfl) rfl ?_
            refine wl_y (y_move rfl) rfl ?_
            refine wl_gno 51 rfl rfl rfl rfl ?_
            refine wl_y (y_pickf rfl rfl) rfl ?_
            refine wl_y (y_move rfl) rfl ?_
            refine wl_gno 54 rfl rfl rfl rfl ?_
            refine wl_gno 54 rfl rfl rfl rfl ?_
            refine wl_gno 54 rfl rfl rfl rfl ?_
            refine wl_gno 54 rfl rfl rfl rfl ?_
            refine wl_y (y_pickf rfl rfl) rfl ?_
            refine wl_y (y_assign rfl) rfl ?_
            refine wl_nil ?_
            refine wq_then_norm (hK5 ?_)
            refine wc_ret ?_
            refine hret rfl ?_
            first | exact ⟨ret_yes (by unfold okLeaf; omega), E⟩ | exact ⟨ret_no fun h => by unfold okLeaf at h; omega, E⟩
        · skip
          refine wl_y (y_move rfl) rfl ?_
          refine wl_gno 23 rfl rfl rfl rfl ?_
          refine wl_gno 23 rfl rfl rfl rfl ?_
          refine wl_gno 23 rfl rfl rfl rfl ?_
          refine wl_gno 23 rfl rfl rfl rfl ?_
          refine wl_y (y_pickf rfl rfl) rfl ?_
          refine wl_y (y_move rfl) rfl ?_
          refine wl_gno 29 rfl rfl rfl rfl ?_
          refine wl_gno 29 rfl rfl rfl rfl ?_
          refine wl_gno 29 rfl rfl rfl rfl ?_
          refine wl_gno 29 rfl rfl rfl rfl ?_
          refine wl_y (y_pickf rfl rfl) rfl ?_
          refine wl_y (y_move rfl) rfl ?_
          refine wl_gno 35 rfl rfl rfl rfl ?_
          refine wl_gno 35 rfl rfl rfl rfl ?_
          refine wl_gno 35 rfl rfl rfl rfl ?_
          refine wl_gno 35 rfl rfl rfl rfl ?_
          refine wl_y (y_pickf rfl rfl) rfl ?_
          refine wl_y (y_move rfl) rfl ?_
          refine wl_gno 41 rfl rfl rfl rfl ?_
          refine wl_gno 41 rfl rfl rfl rfl ?_
          refine wl_gno 41 rfl rfl rfl rfl ?_
          refine wl_y (y_pickf rfl rfl) rfl ?_
          refine wl_y (y_move rfl) rfl ?_
          refine wl_gno 46 rfl rfl rfl rfl ?_
          refine wl_gno 46 rfl rfl rfl rfl ?_
          refine wl_gno 46 rfl rfl rfl rfl ?_
          refine wl_y (y_pickf rfl rfl) rfl ?_
          refine wl_y (y_move rfl) rfl ?_
          refine wl_gno 51 rfl rfl rfl rfl ?_
          refine wl_y (y_pickf rfl rfl) rfl ?_
          refine wl_y (y_move rfl) rfl ?_
          refine wl_gno 54 rfl rfl rfl rfl ?_
          refine wl_gno 54 rfl rfl rfl rfl ?_
          refine wl_gno 54 rfl rfl rfl rfl ?_
          refine wl_gno 54 rfl rfl rfl rfl ?_
          refine wl_y (y_pickf rfl rfl) rfl ?_
          refine wl_y (y_assign rfl) rfl ?_
          refine wl_nil ?_
          refine wq_then_norm (hK5 ?_)
          refine wc_ret ?_
          refine hret rfl ?_
          first | exact ⟨ret_yes (by unfold okLeaf; omega), E⟩ | exact ⟨ret_no fun h => by unfold okLeaf at h; omega, E⟩
    · skip
      refine wl_gy 8 rfl rfl (y_move rfl) rfl ?_
      refine wl_gno 12 rfl rfl rfl rfl ?_
      refine wl_gno 12 rfl rfl rfl rfl ?_
      refine wl_gno 12 rfl rfl rfl rfl ?_
      refine wl_gno 12 rfl rfl rfl rfl ?_
      refine wl_gy 8 rfl rfl (y_pickf rfl rfl) rfl ?_
      refine wl_y (y_pickf rfl rfl) rfl ?_
      refine wl_y (y_assign rfl) rfl ?_
      refine wl_nil ?_
      refine wq_then_norm (hK2 ?_)
      refine wc_seq ?_; intro K6 hK6
      refine wc_region ?_
      refine wl_y (y_fieldAddr (o := 0) (s := 1) (off := 0) (o' := 0) rfl Tryz.underlying24 rfl (by kernel_rfl) rfl rfl) rfl ?_
      refine wl_y (y_load1 rfl Tryz.underlying22 rfl (B1.get (i := 0) rfl)) rfl ?_
      refine wl_y (y_len_slice rfl Tryz.underlying22) rfl ?_
      refine wl_yask (y_eql rfl rfl) rfl (fun u0 => ?_) (fun u0 => ?_)
      · skip
        refine wl_y (y_move rfl) rfl ?_
        refine wl_gy 23 rfl rfl (y_fieldAddr (o := 1) (s := 1) (off := 0) (o' := 1) rfl Tryz.underlying24 rfl (by kernel_rfl) rfl rfl) rfl ?_
        refine wl_gy 23 rfl rfl (y_load1 rfl Tryz.underlying22 rfl (B1.get (i := 1) rfl)) rfl ?_
        refine wl_gy 23 rfl rfl (y_len_slice rfl Tryz.underlying22) rfl ?_
        refine wl_gyask 23 rfl rfl (y_eql rfl rfl) rfl (fun u1 => ?_) (fun u1 => ?_)
        · skip
          refine wl_y (y_pickt rfl rfl) rfl ?_
          refine wl_y (y_move rfl) rfl ?_
          refine wl_gy 29 rfl rfl (y_fieldAddr (o := 2) (s := 1) (off := 0) (o' := 2) rfl Tryz.underlying24 rfl (by kernel_rfl) rfl rfl) rfl ?_
          refine wl_gy 29 rfl rfl (y_load1 rfl Tryz.underlying22 rfl (B1.get (i := 2) rfl)) rfl ?_
          refine wl_gy 29 rfl rfl (y_len_slice rfl Tryz.underlying22) rfl ?_
          refine wl_gyask 29 rfl rfl (y_gtr rfl rfl) rfl (fun u2 => ?_) (fun u2 => ?_)
          · skip
            refine wl_y (y_pickt rfl rfl) rfl ?_
            refine wl_y (y_move rfl) rfl ?_
            refine wl_gy 35 rfl rfl (y_fieldAddr (o := 2) (s := 1) (off := 0) (o' := 2) rfl Tryz.underlying24 rfl (by kernel_rfl) rfl rfl) rfl ?_
            refine wl_gy 35 rfl rfl (y_load1 rfl Tryz.underlying22 rfl (B1.get (i := 2) rfl)) rfl ?_
            refine wl_gy 35 rfl rfl (y_len_slice rfl Tryz.underlying22) rfl ?_
            refine wl_gyask 35 rfl rfl (y_leq rfl rfl) rfl (fun u3 => ?_) (fun u3 => ?_)
            · skip
              refine wl_y (y_pickt rfl rfl) rfl ?_
              refine wl_y (y_move rfl) rfl ?_
              refine wl_gy 41 rfl rfl (y_fieldAddr (o := 3) (s := 1) (off := 0) (o' := 3) rfl Tryz.underlying24 rfl (by kernel_rfl) rfl rfl) rfl ?_
              refine wl_gy 41 rfl rfl (y_load1 rfl Tryz.underlying5 rfl (B1.get (i := 3) rfl)) rfl ?_
              refine wl_gyask 41 rfl rfl (y_gtr rfl rfl) rfl (fun u4 => ?_) (fun u4 => ?_)
              · skip
                refine wl_y (y_pickt rfl rfl) rfl ?_
                refine wl_y (y_move rfl) rfl ?_
                refine wl_gy 46 rfl rfl (y_fieldAddr (o := 3) (s := 1) (off := 0) (o' := 3) rfl Tryz.underlying24 rfl (by kernel_rfl) rfl rfl) rfl ?_
                refine wl_gy 46 rfl rfl (y_load1 rfl Tryz.underlying5 rfl (B1.get (i := 3) rfl)) rfl ?_
                refine wl_gyask 46 rfl rfl (y_lss rfl rfl) rfl (fun u5 => ?_) (fun u5 => ?_)
                · skip
                  refine wl_y (y_pickt rfl rfl) rfl ?_
                  refine wl_y (y_move rfl) rfl ?_
                  refine wl_gy 51 rfl rfl (y_move rfl) rfl ?_
                  refine wl_y (y_pickt rfl rfl) rfl ?_
                  refine wl_y (y_move rfl) rfl ?_
                  refine wl_gno 54 rfl rfl rfl rfl ?_
                  refine wl_gno 54 rfl rfl rfl rfl ?_
                  refine wl_gno 54 rfl rfl rfl rfl ?_
                  refine wl_gno 54 rfl rfl rfl rfl ?_
                  refine wl_y (y_pickf rfl rfl) rfl ?_
                  refine wl_y (y_assign rfl) rfl ?_
                  refine wl_nil ?_
                  refine wq_then_norm (hK6 ?_)
                  refine wc_ret ?_
                  refine hret rfl ?_
                  first | exact ⟨ret_yes (by unfold okLeaf; omega), E⟩ | exact ⟨ret_no fun h => by unfold okLeaf at h; omega, E⟩
                · skip
                  refine wl_y (y_pickt rfl rfl) rfl ?_
                  refine wl_y (y_move rfl) rfl ?_
                  refine wl_gno 51 rfl rfl rfl rfl ?_
                  refine wl_y (y_pickf rfl rfl) rfl ?_
                  refine wl_y (y_move rfl) rfl ?_
                  refine wl_gno 54 rfl rfl rfl rfl ?_
                  refine wl_gno 54 rfl rfl rfl rfl ?_
                  refine wl_gno 54 rfl rfl rfl rfl ?_
                  refine wl_gno 54 rfl rfl rfl rfl ?_
                  refine wl_y (y_pickf rfl rfl) rfl ?_
                  refine wl_y (y_assign rfl) rfl ?_
                  refine wl_nil ?_
                  refine wq_then_norm (hK6 ?_)
                  refine wc_ret ?_
                  refine hret rfl ?_
                  first | exact ⟨ret_yes (by unfold okLeaf; omega), E⟩ | exact ⟨ret_no fun h => by unfold okLeaf at h; omega, E⟩
              · skip
                refine wl_y (y_pickt rfl rfl) rfl ?_
                refine wl_y (y_move rfl) rfl ?_
                refine wl_gno 46 rfl rfl rfl rfl ?_
                refine wl_gno 46 rfl rfl rfl rfl ?_
                refine wl_gno 46 rfl rfl rfl rfl ?_
                refine wl_y (y_pickf rfl rfl) rfl ?_
                refine wl_y (y_move rfl) rfl ?_
                refine wl_gno 51 rfl rfl rfl rfl ?_
                refine wl_y (y_pickf rfl rfl) rfl ?_
                refine wl_y (y_move rfl) rfl ?_
                refine wl_gno 54 rfl rfl rfl rfl ?_
                refine wl_gno 54 rfl rfl rfl rfl ?_
                refine wl_gno 54 rfl rfl rfl rfl ?_
                refine wl_gno 54 rfl rfl rfl rfl ?_
                refine wl_y (y_pickf rfl rfl) rfl ?_
                refine wl_y (y_assign rfl) rfl ?_
                refine wl_nil ?_
                refine wq_then_norm (hK6 ?_)
                refine wc_ret ?_
                refine hret rfl ?_
                first | exact ⟨ret_yes (by unfold okLeaf; omega), E⟩ | exact ⟨ret_no fun h => by unfold okLeaf at h; omega, E⟩
            · skip
              refine wl_y (y_pickt rfl rfl) rfl ?_
              refine wl_y (y_move rfl) rfl ?_
              refine wl_gno 41 rfl rfl rfl rfl ?_
              refine wl_gno 41 rfl rfl rfl rfl ?_
              refine wl_gno 41 rfl rfl rfl rfl ?_
              refine wl_y (y_pickf rfl rfl) rfl ?_
              refine wl_y (y_move rfl) rfl ?_
              refine wl_gno 46 rfl rfl rfl rfl ?_
              refine wl_gno 46 rfl rfl rfl rfl ?_
              refine wl_gno 46 rfl rfl rfl rfl ?_
              refine wl_y (y_pickf rfl rfl) rfl ?_
              refine wl_y (y_move rfl) rfl ?_
              refine wl_gno 51 rfl rfl rfl rfl ?_
              refine wl_y (y_pickf rfl rfl) rfl ?_
              refine wl_y (y_move rfl) rfl ?_
              refine wl_gno 54 rfl rfl rfl rfl ?_
              refine wl_gno 54 rfl rfl rfl rfl ?_
              refine wl_gno 54 rfl rfl rfl rfl ?_
              refine wl_gno 54 rfl rfl rfl rfl ?_
              refine wl_y (y_pickf rfl rfl) rfl ?_
              refine wl_y (y_assign rfl) rfl ?_
              refine wl_nil ?_
              refine wq_then_norm (hK6 ?_)
              refine wc_ret ?_
              refine hret rfl ?_
              first | exact ⟨ret_yes (by unfold okLeaf; omega), E⟩ | exact ⟨ret_no fun h => by unfold okLeaf at h; omega, E⟩
          · skip
            refine wl_y (y_pickt rfl rfl) rfl ?_
            refine wl_y (y_move rfl) rfl ?_
            refine wl_gno 35 rfl rfl rfl rfl ?_
            refine wl_gno 35 rfl rfl rfl rfl ?_
            refine wl_gno 35 rfl rfl rfl rfl ?_
            refine wl_gno 35 rfl rfl rfl rfl ?_
            refine wl_y (y_pickf rfl rfl) rfl ?_
            refine wl_y (y_move rfl) rfl ?_
            refine wl_gno 41 rfl rfl rfl rfl ?_
            refine wl_gno 41 rfl rfl rfl rfl ?_
            refine wl_gno 41 rfl rfl rfl rfl ?_
            refine wl_y (y_pickf rfl rfl) rfl ?_
            refine wl_y (y_move rfl) rfl ?_
            refine wl_gno 46 rfl rfl rfl rfl ?_
            refine wl_gno 46 rfl rfl rfl rfl ?_
            refine wl_gno 46 rfl rfl rfl rfl ?_
            refine wl_y (y_pickf rfl rfl) rfl ?_
            refine wl_y (y_move rfl) rfl ?_
            refine wl_gno 51 rfl rfl rfl rfl ?_
            refine wl_y (y_pickf rfl rfl) rfl ?_
            refine wl_y (y_move rfl) rfl ?_
            refine wl_gno 54 rfl rfl rfl rfl ?_
            refine wl_gno 54 rfl rfl rfl rfl ?_
            refine wl_gno 54 rfl rfl rfl rfl ?_
            refine wl_gno 54 rfl rfl rfl rfl ?_
            refine wl_y (y_pickf rfl rfl) rfl ?_
            refine wl_y (y_assign rfl) rfl ?_
            refine wl_nil ?_
            refine wq_then_norm (hK6 ?_)
            refine wc_ret ?_
            refine hret rfl ?_
            first | exact ⟨ret_yes (by unfold okLeaf; omega), E⟩ | exact ⟨ret_no fun h => by unfold okLeaf at h; omega, E⟩
        · skip
          refine wl_y (y_pickt rfl rfl) rfl ?_
          refine wl_y (y_move rfl) rfl ?_
          refine wl_gno 29 rfl rfl rfl rfl ?_
          refine wl_gno 29 rfl rfl rfl rfl ?_
          refine wl_gno 29 rfl rfl rfl rfl ?_
          refine wl_gno 29 rfl rfl rfl rfl ?_
          refine wl_y (y_pickf rfl rfl) rfl ?_
          refine wl_y (y_move rfl) rfl ?_
          refine wl_gno 35 rfl rfl rfl rfl ?_
          refine wl_gno 35 rfl rfl rfl rfl ?_
          refine wl_gno 35 rfl rfl rfl rfl ?_
          refine wl_gno 35 rfl rfl rfl rfl ?_
          refine wl_y (y_pickf rfl rfl) rfl ?_
          refine wl_y (y_move rfl) rfl ?_
          refine wl_gno 41 rfl rfl rfl rfl ?_
          refine wl_gno 41 rfl rfl rfl rfl ?_
          refine wl_gno 41 rfl rfl rfl rfl ?_
          refine wl_y (y_pickf rfl rfl) rfl ?_
          refine wl_y (y_move rfl) rfl ?_
          refine wl_gno 46 rfl rfl rfl rfl ?_
          refine wl_gno 46 rfl rfl rfl rfl ?_
          refine wl_gno 46 rfl rfl rfl rfl ?_
          refine wl_y (y_pickf rfl rfl) rfl ?_
          refine wl_y (y_move rfl) rfl ?_
          refine wl_gno 51 rfl rfl rfl rfl ?_
          refine wl_y (y_pickf rfl rfl) rfl ?_
          refine wl_y (y_move rfl) rfl ?_
          refine wl_gno 54 rfl rfl rfl rfl ?_
          refine wl_gno 54 rfl rfl rfl rfl ?_
          refine wl_gno 54 rfl rfl rfl rfl ?_
          refine wl_gno 54 rfl rfl rfl rfl ?_
          refine wl_y (y_pickf rfl rfl) rfl ?_
          refine wl_y (y_assign rfl) rfl ?_
          refine wl_nil ?_
          refine wq_then_norm (hK6 ?_)
          refine wc_ret ?_
          refine hret rfl ?_
          first | exact ⟨ret_yes (by unfold okLeaf; omega), E⟩ | exact ⟨ret_no fun h => by unfold okLeaf at h; omega, E⟩
      · skip
        refine wl_y (y_move rfl) rfl ?_
        refine wl_gno 23 rfl rfl rfl rfl ?_
        refine wl_gno 23 rfl rfl rfl rfl ?_
        refine wl_gno 23 rfl rfl rfl rfl ?_
        refine wl_gno 23 rfl rfl rfl rfl ?_
        refine wl_y (y_pickf rfl rfl) rfl ?_
        refine wl_y (y_move rfl) rfl ?_
        refine wl_gno 29 rfl rfl rfl rfl ?_
        refine wl_gno 29 rfl rfl rfl rfl ?_
        refine wl_gno 29 rfl rfl rfl rfl ?_
        refine wl_gno 29 rfl rfl rfl rfl ?_
        refine wl_y (y_pickf rfl rfl) rfl ?_
        refine wl_y (y_move rfl) rfl ?_
        refine wl_gno 35 rfl rfl rfl rfl ?_
        refine wl_gno 35 rfl rfl rfl rfl ?_
        refine wl_gno 35 rfl rfl rfl rfl ?_
        refine wl_gno 35 rfl rfl rfl rfl ?_
        refine wl_y (y_pickf rfl rfl) rfl ?_
        refine wl_y (y_move rfl) rfl ?_
        refine wl_gno 41 rfl rfl rfl rfl ?_
        refine wl_gno 41 rfl rfl rfl rfl ?_
        refine wl_gno 41 rfl rfl rfl rfl ?_
        refine wl_y (y_pickf rfl rfl) rfl ?_
        refine wl_y (y_move rfl) rfl ?_
        refine wl_gno 46 rfl rfl rfl rfl ?_
        refine wl_gno 46 rfl rfl rfl rfl ?_
        refine wl_gno 46 rfl rfl rfl rfl ?_
        refine wl_y (y_pickf rfl rfl) rfl ?_
        refine wl_y (y_move rfl) rfl ?_
        refine wl_gno 51 rfl rfl rfl rfl ?_
        refine wl_y (y_pickf rfl rfl) rfl ?_
        refine wl_y (y_move rfl) rfl ?_
        refine wl_gno 54 rfl rfl rfl rfl ?_
        refine wl_gno 54 rfl rfl rfl rfl ?_
        refine wl_gno 54 rfl rfl rfl rfl ?_
        refine wl_gno 54 rfl rfl rfl rfl ?_
        refine wl_y (y_pickf rfl rfl) rfl ?_
        refine wl_y (y_assign rfl) rfl ?_
        refine wl_nil ?_
        refine wq_then_norm (hK6 ?_)
        refine wc_ret ?_
        refine hret rfl ?_
        first | exact ⟨ret_yes (by unfold okLeaf; omega), E⟩ | exact ⟨ret_no fun h => by unfold okLeaf at h; omega, E⟩
end Go.Proofs.YtopimmomkapdoaaGreat
