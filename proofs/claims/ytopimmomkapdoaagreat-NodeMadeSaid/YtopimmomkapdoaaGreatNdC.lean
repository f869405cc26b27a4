/- Whether leaves and nodes are the same, and right, as the reference says it. -/
import Derived.Test.YtopimmomkapdoaaGreatNdB
namespace Go.Proofs.YtopimmomkapdoaaGreat
open Go.RowKit
attribute [local irreducible] Y Ef WL WC WK WQ WM OpM WN WF OpN
theorem leaf_eq {a b : Leaf} : a = b ↔ a.box = b.box ∧ a.sign = b.sign ∧ a.ident = b.ident ∧ a.src = b.src ∧ a.parent = b.parent ∧ a.sig = b.sig := by
  constructor
  · rintro rfl; simp
  · cases a; cases b; simp_all
theorem rsameLeaf_any {cs ds : Array Value} {a b : Leaf} (w : World) (H : LeafAt w cs a) (K : LeafAt w ds b) (hf : a.Fit) (hg : b.Fit) :
    Calls Tryz.prog 13 #[.agg cs, .agg ds] w fun e w' => e = .returned (.bool (decide (a = b))) ∧ Ext w w' := by
  obtain ⟨h0, h1, h2, h4, h5, rfl, hs, b0, b1, b2, b4, b5⟩ := H
  obtain ⟨i0, i1, i2, i4, i5, rfl, hs', d0, d1, d2, d4, d5⟩ := K
  have l0 := b0.1; have l1 := b1.1; have l2 := b2.1; have l4 := b4.1; have l5 := b5.1
  have m0 := d0.1; have m1 := d1.1; have m2 := d2.1; have m4 := d4.1; have m5 := d5.1
  obtain ⟨f0, f1, f2, f4, f5⟩ := hf
  obtain ⟨g0, g1, g2, g4, g5⟩ := hg
  have E := Ext.refl w
  refine vc_enter1 45 Tryz.func13 rfl rfl rfl rfl ?_
  intro Q hret
  refine wc_seq ?_; intro K1 hK1
  refine wc_region ?_
  refine wl_ef (ef_box rfl rfl) rfl ?_
  rintro _ wB2 ⟨gB2, rfl, B2, hgB2, ex⟩
  have lB2 := B2.lt; have zB2 := ex.size
  replace E := E.ext ex
  refine wl_ef (ef_box rfl rfl) rfl ?_
  rintro _ wB3 ⟨gB3, rfl, B3, hgB3, ex⟩
  have lB3 := B3.lt; have zB3 := ex.size
  replace E := E.ext ex
  replace B2 := B2.ext ex
  refine wl_y (y_assign rfl) rfl ?_
  refine wl_nil ?_
  refine wq_then_norm (hK1 ?_)
  refine wc_seq ?_; intro K2 hK2
  refine wc_region ?_
  refine wl_y (y_fieldAddr (o := 0) (s := 1) (off := 0) (o' := 0) rfl Tryz.underlying24 rfl (by kernel_rfl) rfl rfl) rfl ?_
  refine wl_y (y_load1 rfl Tryz.underlying22 rfl (B2.get (i := 0) rfl)) rfl ?_
  refine wl_y (y_fieldAddr (o := 0) (s := 1) (off := 0) (o' := 0) rfl Tryz.underlying24 rfl (by kernel_rfl) rfl rfl) rfl ?_
  refine wl_y (y_load1 rfl Tryz.underlying22 rfl (B3.get (i := 0) rfl)) rfl ?_
  refine wl_call Tryz.func16 rfl rfl rfl (sm_any (Bs.ext b0 E) (Bs.ext d0 E) (by omega) (by omega)) rfl ?_
  rintro e w2 ⟨rfl, ex⟩
  refine ⟨_, rfl, ?_⟩
  replace E := E.ext ex
  replace B2 := B2.ext ex
  replace B3 := B3.ext ex
  skip
  refine wl_yask (y_move rfl) rfl (fun q0 => ?_) (fun q0 => ?_)
  · skip
    refine wl_gy 10 rfl rfl (y_fieldAddr (o := 1) (s := 1) (off := 0) (o' := 1) rfl Tryz.underlying24 rfl (by kernel_rfl) rfl rfl) rfl ?_
    refine wl_gy 10 rfl rfl (y_load1 rfl Tryz.underlying22 rfl (B2.get (i := 1) rfl)) rfl ?_
    refine wl_gy 10 rfl rfl (y_fieldAddr (o := 1) (s := 1) (off := 0) (o' := 1) rfl Tryz.underlying24 rfl (by kernel_rfl) rfl rfl) rfl ?_
    refine wl_gy 10 rfl rfl (y_load1 rfl Tryz.underlying22 rfl (B3.get (i := 1) rfl)) rfl ?_
    refine wl_gcall 10 rfl rfl Tryz.func16 rfl rfl rfl (sm_any (Bs.ext b1 E) (Bs.ext d1 E) (by omega) (by omega)) rfl ?_
    rintro e w3 ⟨rfl, ex⟩
    refine ⟨_, rfl, ?_⟩
    replace E := E.ext ex
    replace B2 := B2.ext ex
    replace B3 := B3.ext ex
    skip
    refine wl_y (y_pickt rfl rfl) rfl ?_
    refine wl_yask (y_move rfl) rfl (fun q1 => ?_) (fun q1 => ?_)
    · skip
      refine wl_gy 17 rfl rfl (y_fieldAddr (o := 2) (s := 1) (off := 0) (o' := 2) rfl Tryz.underlying24 rfl (by kernel_rfl) rfl rfl) rfl ?_
      refine wl_gy 17 rfl rfl (y_load1 rfl Tryz.underlying22 rfl (B2.get (i := 2) rfl)) rfl ?_
      refine wl_gy 17 rfl rfl (y_fieldAddr (o := 2) (s := 1) (off := 0) (o' := 2) rfl Tryz.underlying24 rfl (by kernel_rfl) rfl rfl) rfl ?_
      refine wl_gy 17 rfl rfl (y_load1 rfl Tryz.underlying22 rfl (B3.get (i := 2) rfl)) rfl ?_
      refine wl_gcall 17 rfl rfl Tryz.func16 rfl rfl rfl (sm_any (Bs.ext b2 E) (Bs.ext d2 E) (by omega) (by omega)) rfl ?_
      rintro e w4 ⟨rfl, ex⟩
      refine ⟨_, rfl, ?_⟩
      replace E := E.ext ex
      replace B2 := B2.ext ex
      replace B3 := B3.ext ex
      skip
      refine wl_y (y_pickt rfl rfl) rfl ?_
      refine wl_yask (y_move rfl) rfl (fun q2 => ?_) (fun q2 => ?_)
      · skip
        refine wl_gy 24 rfl rfl (y_fieldAddr (o := 3) (s := 1) (off := 0) (o' := 3) rfl Tryz.underlying24 rfl (by kernel_rfl) rfl rfl) rfl ?_
        refine wl_gy 24 rfl rfl (y_load1 rfl Tryz.underlying5 rfl (B2.get (i := 3) rfl)) rfl ?_
        refine wl_gy 24 rfl rfl (y_fieldAddr (o := 3) (s := 1) (off := 0) (o' := 3) rfl Tryz.underlying24 rfl (by kernel_rfl) rfl rfl) rfl ?_
        refine wl_gy 24 rfl rfl (y_load1 rfl Tryz.underlying5 rfl (B3.get (i := 3) rfl)) rfl ?_
        refine wl_gyask 24 rfl rfl (y_eql rfl rfl) rfl (fun q3 => ?_) (fun q3 => ?_)
        · skip
          refine wl_y (y_pickt rfl rfl) rfl ?_
          refine wl_y (y_move rfl) rfl ?_
          refine wl_gy 31 rfl rfl (y_fieldAddr (o := 4) (s := 1) (off := 0) (o' := 4) rfl Tryz.underlying24 rfl (by kernel_rfl) rfl rfl) rfl ?_
          refine wl_gy 31 rfl rfl (y_load1 rfl Tryz.underlying22 rfl (B2.get (i := 4) rfl)) rfl ?_
          refine wl_gy 31 rfl rfl (y_fieldAddr (o := 4) (s := 1) (off := 0) (o' := 4) rfl Tryz.underlying24 rfl (by kernel_rfl) rfl rfl) rfl ?_
          refine wl_gy 31 rfl rfl (y_load1 rfl Tryz.underlying22 rfl (B3.get (i := 4) rfl)) rfl ?_
          refine wl_gcall 31 rfl rfl Tryz.func16 rfl rfl rfl (sm_any (Bs.ext b4 E) (Bs.ext d4 E) (by omega) (by omega)) rfl ?_
          rintro e w5 ⟨rfl, ex⟩
          refine ⟨_, rfl, ?_⟩
          replace E := E.ext ex
          replace B2 := B2.ext ex
          replace B3 := B3.ext ex
          skip
          refine wl_y (y_pickt rfl rfl) rfl ?_
          refine wl_yask (y_move rfl) rfl (fun q4 => ?_) (fun q4 => ?_)
          · skip
            refine wl_gy 38 rfl rfl (y_fieldAddr (o := 5) (s := 1) (off := 0) (o' := 5) rfl Tryz.underlying24 rfl (by kernel_rfl) rfl rfl) rfl ?_
            refine wl_gy 38 rfl rfl (y_load1 rfl Tryz.underlying22 rfl (B2.get (i := 5) rfl)) rfl ?_
            refine wl_gy 38 rfl rfl (y_fieldAddr (o := 5) (s := 1) (off := 0) (o' := 5) rfl Tryz.underlying24 rfl (by kernel_rfl) rfl rfl) rfl ?_
            refine wl_gy 38 rfl rfl (y_load1 rfl Tryz.underlying22 rfl (B3.get (i := 5) rfl)) rfl ?_
            refine wl_gcall 38 rfl rfl Tryz.func16 rfl rfl rfl (sm_any (Bs.ext b5 E) (Bs.ext d5 E) (by omega) (by omega)) rfl ?_
            rintro e w6 ⟨rfl, ex⟩
            refine ⟨_, rfl, ?_⟩
            replace E := E.ext ex
            replace B2 := B2.ext ex
            replace B3 := B3.ext ex
            skip
            refine wl_y (y_pickt rfl rfl) rfl ?_
            refine wl_y (y_assign rfl) rfl ?_
            refine wl_nil ?_
            refine wq_then_norm (hK2 ?_)
            refine wc_ret ?_
            refine hret rfl ?_
            exact ⟨ret_bool ⟨fun h => leaf_eq.2 ⟨q0, q1, q2, by omega, q4, h⟩, fun h => by rw [h]⟩, E⟩
          · skip
            refine wl_gno 38 rfl rfl rfl rfl ?_
            refine wl_gno 38 rfl rfl rfl rfl ?_
            refine wl_gno 38 rfl rfl rfl rfl ?_
            refine wl_gno 38 rfl rfl rfl rfl ?_
            refine wl_gno 38 rfl rfl rfl rfl ?_
            refine wl_y (y_pickf rfl rfl) rfl ?_
            refine wl_y (y_assign rfl) rfl ?_
            refine wl_nil ?_
            refine wq_then_norm (hK2 ?_)
            refine wc_ret ?_
            refine hret rfl ?_
            exact ⟨ret_no fun h => q4 (by rw [h]), E⟩
        · skip
          refine wl_y (y_pickt rfl rfl) rfl ?_
          refine wl_y (y_move rfl) rfl ?_
          refine wl_gno 31 rfl rfl rfl rfl ?_
          refine wl_gno 31 rfl rfl rfl rfl ?_
          refine wl_gno 31 rfl rfl rfl rfl ?_
          refine wl_gno 31 rfl rfl rfl rfl ?_
          refine wl_gno 31 rfl rfl rfl rfl ?_
          refine wl_y (y_pickf rfl rfl) rfl ?_
          refine wl_y (y_move rfl) rfl ?_
          refine wl_gno 38 rfl rfl rfl rfl ?_
          refine wl_gno 38 rfl rfl rfl rfl ?_
          refine wl_gno 38 rfl rfl rfl rfl ?_
          refine wl_gno 38 rfl rfl rfl rfl ?_
          refine wl_gno 38 rfl rfl rfl rfl ?_
          refine wl_y (y_pickf rfl rfl) rfl ?_
          refine wl_y (y_assign rfl) rfl ?_
          refine wl_nil ?_
          refine wq_then_norm (hK2 ?_)
          refine wc_ret ?_
          refine hret rfl ?_
          exact ⟨ret_no fun h => q3 (by rw [h]), E⟩
      · skip
        refine wl_gno 24 rfl rfl rfl rfl ?_
        refine wl_gno 24 rfl rfl rfl rfl ?_
        refine wl_gno 24 rfl rfl rfl rfl ?_
        refine wl_gno 24 rfl rfl rfl rfl ?_
        refine wl_gno 24 rfl rfl rfl rfl ?_
        refine wl_y (y_pickf rfl rfl) rfl ?_
        refine wl_y (y_move rfl) rfl ?_
        refine wl_gno 31 rfl rfl rfl rfl ?_
        refine wl_gno 31 rfl rfl rfl rfl ?_
        refine wl_gno 31 rfl rfl rfl rfl ?_
        refine wl_gno 31 rfl rfl rfl rfl ?_
        refine wl_gno 31 rfl rfl rfl rfl ?_
        refine wl_y (y_pickf rfl rfl) rfl ?_
        refine wl_y (y_move rfl) rfl ?_
        refine wl_gno 38 rfl rfl rfl rfl ?_
        refine wl_gno 38 rfl rfl rfl rfl ?_
        refine wl_gno 38 rfl rfl rfl rfl ?_
        refine wl_gno 38 rfl rfl rfl rfl ?_
        refine wl_gno 38 rfl rfl rfl rfl ?_
        refine wl_y (y_pickf rfl rfl) rfl ?_
        refine wl_y (y_assign rfl) rfl ?_
        refine wl_nil ?_
        refine wq_then_norm (hK2 ?_)
        refine wc_ret ?_
        refine hret rfl ?_
        exact ⟨ret_no fun h => q2 (by rw [h]), E⟩
    · skip
      refine wl_gno 17 rfl rfl rfl rfl ?_
      refine wl_gno 17 rfl rfl rfl rfl ?_
      refine wl_gno 17 rfl rfl rfl rfl ?_
      refine wl_gno 17 rfl rfl rfl rfl ?_
      refine wl_gno 17 rfl rfl rfl rfl ?_
      refine wl_y (y_pickf rfl rfl) rfl ?_
      refine wl_y (y_move rfl) rfl ?_
      refine wl_gno 24 rfl rfl rfl rfl ?_
      refine wl_gno 24 rfl rfl rfl rfl ?_
      refine wl_gno 24 rfl rfl rfl rfl ?_
      refine wl_gno 24 rfl rfl rfl rfl ?_
      refine wl_gno 24 rfl rfl rfl rfl ?_
      refine wl_y (y_pickf rfl rfl) rfl ?_
      refine wl_y (y_move rfl) rfl ?_
      refine wl_gno 31 rfl rfl rfl rfl ?_
      refine wl_gno 31 rfl rfl rfl rfl ?_
      refine wl_gno 31 rfl rfl rfl rfl ?_
      refine wl_gno 31 rfl rfl rfl rfl ?_
      refine wl_gno 31 rfl rfl rfl rfl ?_
      refine wl_y (y_pickf rfl rfl) rfl ?_
      refine wl_y (y_move rfl) rfl ?_
      refine wl_gno 38 rfl rfl rfl rfl ?_
      refine wl_gno 38 rfl rfl rfl rfl ?_
      refine wl_gno 38 rfl rfl rfl rfl ?_
      refine wl_gno 38 rfl rfl rfl rfl ?_
      refine wl_gno 38 rfl rfl rfl rfl ?_
      refine wl_y (y_pickf rfl rfl) rfl ?_
      refine wl_y (y_assign rfl) rfl ?_
      refine wl_nil ?_
      refine wq_then_norm (hK2 ?_)
      refine wc_ret ?_
      refine hret rfl ?_
      exact ⟨ret_no fun h => q1 (by rw [h]), E⟩
  · skip
    refine wl_gno 10 rfl rfl rfl rfl ?_
    refine wl_gno 10 rfl rfl rfl rfl ?_
    refine wl_gno 10 rfl rfl rfl rfl ?_
    refine wl_gno 10 rfl rfl rfl rfl ?_
    refine wl_gno 10 rfl rfl rfl rfl ?_
    refine wl_y (y_pickf rfl rfl) rfl ?_
    refine wl_y (y_move rfl) rfl ?_
    refine wl_gno 17 rfl rfl rfl rfl ?_
    refine wl_gno 17 rfl rfl rfl rfl ?_
    refine wl_gno 17 rfl rfl rfl rfl ?_
    refine wl_gno 17 rfl rfl rfl rfl ?_
    refine wl_gno 17 rfl rfl rfl rfl ?_
    refine wl_y (y_pickf rfl rfl) rfl ?_
    refine wl_y (y_move rfl) rfl ?_
    refine wl_gno 24 rfl rfl rfl rfl ?_
    refine wl_gno 24 rfl rfl rfl rfl ?_
    refine wl_gno 24 rfl rfl rfl rfl ?_
    refine wl_gno 24 rfl rfl rfl rfl ?_
    refine wl_gno 24 rfl rfl rfl rfl ?_
    refine wl_y (y_pickf rfl rfl) rfl ?_
    refine wl_y (y_move rfl) rfl ?_
    refine wl_gno 31 rfl rfl rfl rfl ?_
    refine wl_gno 31 rfl rfl rfl rfl ?_
    refine wl_gno 31 rfl rfl rfl rfl ?_
    refine wl_gno 31 rfl rfl rfl rfl ?_
    refine wl_gno 31 rfl rfl rfl rfl ?_
    refine wl_y (y_pickf rfl rfl) rfl ?_
    refine wl_y (y_move rfl) rfl ?_
    refine wl_gno 38 rfl rfl rfl rfl ?_
    refine wl_gno 38 rfl rfl rfl rfl ?_
    refine wl_gno 38 rfl rfl rfl rfl ?_
    refine wl_gno 38 rfl rfl rfl rfl ?_
    refine wl_gno 38 rfl rfl rfl rfl ?_
    refine wl_y (y_pickf rfl rfl) rfl ?_
    refine wl_y (y_assign rfl) rfl ?_
    refine wl_nil ?_
    refine wq_then_norm (hK2 ?_)
    refine wc_ret ?_
    refine hret rfl ?_
    exact ⟨ret_no fun h => q0 (by rw [h]), E⟩
theorem rrightLeaf_any {cs : Array Value} {l : Leaf} (w : World) (H : LeafAt w cs l) :
    Calls Tryz.prog 9 #[.agg cs] w fun e w' => e = .returned (.bool (decide (okLeaf l))) ∧ Ext w w' := by
  obtain ⟨h0, h1, h2, h4, h5, rfl, hs, b0, b1, b2, b4, b5⟩ := H
  have l0 := b0.1; have l1 := b1.1; have l2 := b2.1; have l4 := b4.1; have l5 := b5.1
  have E := Ext.refl w
  refine vc_enter1 60 Tryz.func9 rfl rfl rfl rfl ?_
  intro Q hret
  refine wc_seq ?_; intro K1 hK1
  refine wc_region ?_
  refine wl_ef (ef_box rfl rfl) rfl ?_
  rintro _ wB1 ⟨gB1, rfl, B1, hgB1, ex⟩
  have lB1 := B1.lt; have zB1 := ex.size
  replace E := E.ext ex
  refine wl_y (y_assign rfl) rfl ?_
  refine wl_nil ?_
  refine wq_then_norm (hK1 ?_)
  refine wc_seq ?_; intro K2 hK2
  refine wc_region ?_
  refine wl_y (y_fieldAddr (o := 4) (s := 1) (off := 0) (o' := 4) rfl Tryz.underlying24 rfl (by kernel_rfl) rfl rfl) rfl ?_
  refine wl_y (y_load1 rfl Tryz.underlying22 rfl (B1.get (i := 4) rfl)) rfl ?_
  refine wl_y (y_len_slice rfl Tryz.underlying22) rfl ?_
  refine wl_yask (y_eql rfl rfl) rfl (fun q0 => ?_) (fun q0 => ?_)
  · skip
    refine wl_y (y_move rfl) rfl ?_
    refine wl_gno 8 rfl rfl rfl rfl ?_
    refine wl_gno 8 rfl rfl rfl rfl ?_
    refine wl_gno 8 rfl rfl rfl rfl ?_
    refine wl_gno 8 rfl rfl rfl rfl ?_
    refine wl_gun 12 rfl rfl rfl ?_
    refine wl_gun 12 rfl rfl rfl ?_
    refine wl_gun 12 rfl rfl rfl ?_
    refine wl_gun 12 rfl rfl rfl ?_
    refine wl_gno 8 rfl rfl rfl rfl ?_
    refine wl_y (y_pickt rfl rfl) rfl ?_
    refine wl_y (y_assign rfl) rfl ?_
    refine wl_nil ?_
    refine wq_then_norm (hK2 ?_)
    refine wc_seq ?_; intro K3 hK3
    refine wc_region ?_
    refine wl_y (y_fieldAddr (o := 0) (s := 1) (off := 0) (o' := 0) rfl Tryz.underlying24 rfl (by kernel_rfl) rfl rfl) rfl ?_
    refine wl_y (y_load1 rfl Tryz.underlying22 rfl (B1.get (i := 0) rfl)) rfl ?_
    refine wl_y (y_len_slice rfl Tryz.underlying22) rfl ?_
    refine wl_yask (y_eql rfl rfl) rfl (fun u0 => ?_) (fun u0 => ?_)
    · skip
      refine wl_y (y_move rfl) rfl ?_
      refine wl_gy 23 rfl rfl (y_fieldAddr (o := 1) (s := 1) (off := 0) (o' := 1) rfl Tryz.underlying24 rfl (by kernel_rfl) rfl rfl) rfl ?_
      refine wl_gy 23 rfl rfl (y_load1 rfl Tryz.underlying22 rfl (B1.get (i := 1) rfl)) rfl ?_
      refine wl_gy 23 rfl rfl (y_len_slice rfl Tryz.underlying22) rfl ?_
      refine wl_gyask 23 rfl rfl (y_eql rfl rfl) rfl (fun u1 => ?_) (fun u1 => ?_)
      · skip
        refine wl_y (y_pickt rfl rfl) rfl ?_
        refine wl_y (y_move rfl) rfl ?_
        refine wl_gy 29 rfl rfl (y_fieldAddr (o := 2) (s := 1) (off := 0) (o' := 2) rfl Tryz.underlying24 rfl (by kernel_rfl) rfl rfl) rfl ?_
        refine wl_gy 29 rfl rfl (y_load1 rfl Tryz.underlying22 rfl (B1.get (i := 2) rfl)) rfl ?_
        refine wl_gy 29 rfl rfl (y_len_slice rfl Tryz.underlying22) rfl ?_
        refine wl_gyask 29 rfl rfl (y_gtr rfl rfl) rfl (fun u2 => ?_) (fun u2 => ?_)
        · skip
          refine wl_y (y_pickt rfl rfl) rfl ?_
          refine wl_y (y_move rfl) rfl ?_
          refine wl_gy 35 rfl rfl (y_fieldAddr (o := 2) (s := 1) (off := 0) (o' := 2) rfl Tryz.underlying24 rfl (by kernel_rfl) rfl rfl) rfl ?_
          refine wl_gy 35 rfl rfl (y_load1 rfl Tryz.underlying22 rfl (B1.get (i := 2) rfl)) rfl ?_
          refine wl_gy 35 rfl rfl (y_len_slice rfl Tryz.underlying22) rfl ?_
          refine wl_gyask 35 rfl rfl (y_leq rfl rfl) rfl (fun u3 => ?_) (fun u3 => ?_)
          · skip
            refine wl_y (y_pickt rfl rfl) rfl ?_
            refine wl_y (y_move rfl) rfl ?_
            refine wl_gy 41 rfl rfl (y_fieldAddr (o := 3) (s := 1) (off := 0) (o' := 3) rfl Tryz.underlying24 rfl (by kernel_rfl) rfl rfl) rfl ?_
            refine wl_gy 41 rfl rfl (y_load1 rfl Tryz.underlying5 rfl (B1.get (i := 3) rfl)) rfl ?_
            refine wl_gyask 41 rfl rfl (y_gtr rfl rfl) rfl (fun u4 => ?_) (fun u4 => ?_)
            · skip
              refine wl_y (y_pickt rfl rfl) rfl ?_
              refine wl_y (y_move rfl) rfl ?_
              refine wl_gy 46 rfl rfl (y_fieldAddr (o := 3) (s := 1) (off := 0) (o' := 3) rfl Tryz.underlying24 rfl (by kernel_rfl) rfl rfl) rfl ?_
              refine wl_gy 46 rfl rfl (y_load1 rfl Tryz.underlying5 rfl (B1.get (i := 3) rfl)) rfl ?_
              refine wl_gyask 46 rfl rfl (y_lss rfl rfl) rfl (fun u5 => ?_) (fun u5 => ?_)
              · skip
                refine wl_y (y_pickt rfl rfl) rfl ?_
                refine wl_y (y_move rfl) rfl ?_
                refine wl_gy 51 rfl rfl (y_move rfl) rfl ?_
                refine wl_y (y_pickt rfl rfl) rfl ?_
                refine wl_y (y_move rfl) rfl ?_
                refine wl_gy 54 rfl rfl (y_fieldAddr (o := 5) (s := 1) (off := 0) (o' := 5) rfl Tryz.underlying24 rfl (by kernel_rfl) rfl rfl) rfl ?_
                refine wl_gy 54 rfl rfl (y_load1 rfl Tryz.underlying22 rfl (B1.get (i := 5) rfl)) rfl ?_
                refine wl_gy 54 rfl rfl (y_len_slice rfl Tryz.underlying22) rfl ?_
                refine wl_gyask 54 rfl rfl (y_eql rfl rfl) rfl (fun u6 => ?_) (fun u6 => ?_)
                · skip
                  refine wl_y (y_pickt rfl rfl) rfl ?_
                  refine wl_y (y_assign rfl) rfl ?_
                  refine wl_nil ?_
                  refine wq_then_norm (hK3 ?_)
                  refine wc_ret ?_
                  refine hret rfl ?_
                  first | exact ⟨ret_yes (by unfold okLeaf; omega), E⟩ | exact ⟨ret_no fun h => by unfold okLeaf at h; omega, E⟩
                · skip
                  refine wl_y (y_pickt rfl rfl) rfl ?_
                  refine wl_y (y_assign rfl) rfl ?_
                  refine wl_nil ?_
                  refine wq_then_norm (hK3 ?_)
                  refine wc_ret ?_
                  refine hret rfl ?_
                  first | exact ⟨ret_yes (by unfold okLeaf; omega), E⟩ | exact ⟨ret_no fun h => by unfold okLeaf at h; omega, E⟩
              · skip
                refine wl_y (y_pickt rfl rfl) rfl ?_
                refine wl_y (y_move rfl) rfl ?_
                refine wl_gno 51 rfl rfl rfl rfl ?_
                refine wl_y (y_pickf rfl rfl) rfl ?_
                refine wl_y (y_move rfl) rfl ?_
                refine wl_gno 54 rfl rfl rfl rfl ?_
                refine wl_gno 54 rfl rfl rfl rfl ?_
                refine wl_gno 54 rfl rfl rfl rfl ?_
                refine wl_gno 54 rfl rfl rfl rfl ?_
                refine wl_y (y_pickf rfl rfl) rfl ?_
                refine wl_y (y_assign rfl) rfl ?_
                refine wl_nil ?_
                refine wq_then_norm (hK3 ?_)
                refine wc_ret ?_
                refine hret rfl ?_
                first | exact ⟨ret_yes (by unfold okLeaf; omega), E⟩ | exact ⟨ret_no fun h => by unfold okLeaf at h; omega, E⟩
            · skip
              refine wl_y (y_pickt rfl rfl) rfl ?_
              refine wl_y (y_move rfl) rfl ?_
              refine wl_gno 46 rfl rfl rfl rfl ?_
              refine wl_gno 46 rfl rfl rfl rfl ?_
              refine wl_gno 46 rfl rfl rfl rfl ?_
              refine wl_y (y_pickf rfl rfl) rfl ?_
              refine wl_y (y_move rfl) rfl ?_
              refine wl_gno 51 rfl rfl rfl rfl ?_
              refine wl_y (y_pickf rfl rfl) rfl ?_
              refine wl_y (y_move rfl) rfl ?_
              refine wl_gno 54 rfl rfl rfl rfl ?_
              refine wl_gno 54 rfl rfl rfl rfl ?_
              refine wl_gno 54 rfl rfl rfl rfl ?_
              refine wl_gno 54 rfl rfl rfl rfl ?_
              refine wl_y (y_pickf rfl rfl) rfl ?_
              refine wl_y (y_assign rfl) rfl ?_
              refine wl_nil ?_
              refine wq_then_norm (hK3 ?_)
              refine wc_ret ?_
              refine hret rfl ?_
              first | exact ⟨ret_yes (by unfold okLeaf; omega), E⟩ | exact ⟨ret_no fun h => by unfold okLeaf at h; omega, E⟩
          · skip
            refine wl_y (y_pickt rfl rfl) rfl ?_
            refine wl_y (y_move rfl) rfl ?_
            refine wl_gno 41 rfl rfl rfl rfl ?_
            refine wl_gno 41 rfl rfl rfl rfl ?_
            refine wl_gno 41 rfl rfl rfl rfl ?_
            refine wl_y (y_pickf rfl rfl) rfl ?_
            refine wl_y (y_move rfl) rfl ?_
            refine wl_gno 46 rfl rfl rfl rfl ?_
            refine wl_gno 46 rfl rfl rfl rfl ?_
            refine wl_gno 46 rfl rfl rfl rfl ?_
            refine wl_y (y_pickf rfl rfl) rfl ?_
            refine wl_y (y_move rfl) rfl ?_
            refine wl_gno 51 rfl rfl rfl rfl ?_
            refine wl_y (y_pickf rfl rfl) rfl ?_
            refine wl_y (y_move rfl) rfl ?_
            refine wl_gno 54 rfl rfl rfl rfl ?_
            refine wl_gno 54 rfl rfl rfl rfl ?_
            refine wl_gno 54 rfl rfl rfl rfl ?_
            refine wl_gno 54 rfl rfl rfl rfl ?_
            refine wl_y (y_pickf rfl rfl) rfl ?_
            refine wl_y (y_assign rfl) rfl ?_
            refine wl_nil ?_
            refine wq_then_norm (hK3 ?_)
            refine wc_ret ?_
            refine hret rfl ?_
            first | exact ⟨ret_yes (by unfold okLeaf; omega), E⟩ | exact ⟨ret_no fun h => by unfold okLeaf at h; omega, E⟩
        · skip
          refine wl_y (y_pickt rfl rfl) rfl ?_
          refine wl_y (y_move rfl) rfl ?_
          refine wl_gno 35 rfl rfl rfl rfl ?_
          refine wl_gno 35 rfl rfl rfl rfl ?_
          refine wl_gno 35 rfl rfl rfl rfl ?_
          refine wl_gno 35 rfl rfl rfl rfl ?_
          refine wl_y (y_pickf rfl rfl) rfl ?_
          refine wl_y (y_move rfl) rfl ?_
          refine wl_gno 41 rfl rfl rfl rfl ?_
          refine wl_gno 41 rfl rfl rfl rfl ?_
          refine wl_gno 41 rfl rfl rfl rfl ?_
          refine wl_y (y_pickf rfl rfl) rfl ?_
          refine wl_y (y_move rfl) rfl ?_
          refine wl_gno 46 rfl rfl rfl rfl ?_
          refine wl_gno 46 rfl rfl rfl rfl ?_
          refine wl_gno 46 rfl rfl rfl rfl ?_
          refine wl_y (y_pickf rfl rfl) rfl ?_
          refine wl_y (y_move rfl) rfl ?_
          refine wl_gno 51 rfl rfl rfl rfl ?_
          refine wl_y (y_pickf rfl rfl) rfl ?_
          refine wl_y (y_move rfl) rfl ?_
          refine wl_gno 54 rfl rfl rfl rfl ?_
          refine wl_gno 54 rfl rfl rfl rfl ?_
          refine wl_gno 54 rfl rfl rfl rfl ?_
          refine wl_gno 54 rfl rfl rfl rfl ?_
          refine wl_y (y_pickf rfl rfl) rfl ?_
          refine wl_y (y_assign rfl) rfl ?_
          refine wl_nil ?_
          refine wq_then_norm (hK3 ?_)
          refine wc_ret ?_
          refine hret rfl ?_
          first | exact ⟨ret_yes (by unfold okLeaf; omega), E⟩ | exact ⟨ret_no fun h => by unfold okLeaf at h; omega, E⟩
      · skip
        refine wl_y (y_pickt rfl rfl) rfl ?_
        refine wl_y (y_move rfl) rfl ?_
        refine wl_gno 29 rfl rfl rfl rfl ?_
        refine wl_gno 29 rfl rfl rfl rfl ?_
        refine wl_gno 29 rfl rfl rfl rfl ?_
        refine wl_gno 29 rfl rfl rfl rfl ?_
        refine wl_y (y_pickf rfl rfl) rfl ?_
        refine wl_y (y_move rfl) rfl ?_
        refine wl_gno 35 rfl rfl rfl rfl ?_
        refine wl_gno 35 rfl rfl rfl rfl ?_
        refine wl_gno 35 rfl rfl rfl rfl ?_
        refine wl_gno 35 rfl rfl rfl rfl ?_
        refine wl_y (y_pickf rfl rfl) rfl ?_
        refine wl_y (y_move rfl) rfl ?_
        refine wl_gno 41 rfl rfl rfl rfl ?_
        refine wl_gno 41 rfl rfl rfl rfl ?_
        refine wl_gno 41 rfl rfl rfl rfl ?_
        refine wl_y (y_pickf rfl rfl) rfl ?_
        refine wl_y (y_move rfl) rfl ?_
        refine wl_gno 46 rfl rfl rfl rfl ?_
        refine wl_gno 46 rfl rfl rfl rfl ?_
        refine wl_gno 46 rfl rfl rfl rfl ?_
        refine wl_y (y_pickf rfl rfl) rfl ?_
        refine wl_y (y_move rfl) rfl ?_
        refine wl_gno 51 rfl rfl rfl rfl ?_
        refine wl_y (y_pickf rfl rfl) rfl ?_
        refine wl_y (y_move rfl) rfl ?_
        refine wl_gno 54 rfl rfl rfl rfl ?_
        refine wl_gno 54 rfl rfl rfl rfl ?_
        refine wl_gno 54 rfl rfl rfl rfl ?_
        refine wl_gno 54 rfl rfl rfl rfl ?_
        refine wl_y (y_pickf rfl rfl) rfl ?_
        refine wl_y (y_assign rfl) rfl ?_
        refine wl_nil ?_
        refine wq_then_norm (hK3 ?_)
        refine wc_ret ?_
        refine hret rfl ?_
        first | exact ⟨ret_yes (by unfold okLeaf; omega), E⟩ | exact ⟨ret_no fun h => by unfold okLeaf at h; omega, E⟩
    · skip
      refine wl_y (y_move rfl) rfl ?_
      refine wl_gno 23 rfl rfl rfl rfl ?_
      refine wl_gno 23 rfl rfl rfl rfl ?_
      refine wl_gno 23 rfl rfl rfl rfl ?_
      refine wl_gno 23 rfl rfl rfl rfl ?_
      refine wl_y (y_pickf rfl rfl) rfl ?_
      refine wl_y (y_move rfl) rfl ?_
      refine wl_gno 29 rfl rfl rfl rfl ?_
      refine wl_gno 29 rfl rfl rfl rfl ?_
      refine wl_gno 29 rfl rfl rfl rfl ?_
      refine wl_gno 29 rfl rfl rfl rfl ?_
      refine wl_y (y_pickf rfl rfl) rfl ?_
      refine wl_y (y_move rfl) rfl ?_
      refine wl_gno 35 rfl rfl rfl rfl ?_
      refine wl_gno 35 rfl rfl rfl rfl ?_
      refine wl_gno 35 rfl rfl rfl rfl ?_
      refine wl_gno 35 rfl rfl rfl rfl ?_
      refine wl_y (y_pickf rfl rfl) rfl ?_
      refine wl_y (y_move rfl) rfl ?_
      refine wl_gno 41 rfl rfl rfl rfl ?_
      refine wl_gno 41 rfl rfl rfl rfl ?_
      refine wl_gno 41 rfl rfl rfl rfl ?_
      refine wl_y (y_pickf rfl rfl) rfl ?_
      refine wl_y (y_move rfl) rfl ?_
      refine wl_gno 46 rfl rfl rfl rfl ?_
      refine wl_gno 46 rfl rfl rfl rfl ?_
      refine wl_gno 46 rfl rfl rfl rfl ?_
      refine wl_y (y_pickf rfl rfl) rfl ?_
      refine wl_y (y_move rfl) rfl ?_
      refine wl_gno 51 rfl rfl rfl rfl ?_
      refine wl_y (y_pickf rfl rfl) rfl ?_
      refine wl_y (y_move rfl) rfl ?_
      refine wl_gno 54 rfl rfl rfl rfl ?_
      refine wl_gno 54 rfl rfl rfl rfl ?_
      refine wl_gno 54 rfl rfl rfl rfl ?_
      refine wl_gno 54 rfl rfl rfl rfl ?_
      refine wl_y (y_pickf rfl rfl) rfl ?_
      refine wl_y (y_assign rfl) rfl ?_
      refine wl_nil ?_
      refine wq_then_norm (hK3 ?_)
      refine wc_ret ?_
      refine hret rfl ?_
      first | exact ⟨ret_yes (by unfold okLeaf; omega), E⟩ | exact ⟨ret_no fun h => by unfold okLeaf at h; omega, E⟩
  · skip
    refine wl_y (y_move rfl) rfl ?_
    refine wl_gy 8 rfl rfl (y_fieldAddr (o := 3) (s := 1) (off := 0) (o' := 3) rfl Tryz.underlying24 rfl (by kernel_rfl) rfl rfl) rfl ?_
    refine wl_gy 8 rfl rfl (y_load1 rfl Tryz.underlying5 rfl (B1.get (i := 3) rfl)) rfl ?_
    refine wl_gyask 8 rfl rfl (y_eql rfl rfl) rfl (fun q1 => ?_) (fun q1 => ?_)
    · skip
      refine wl_gy 8 rfl rfl (y_move rfl) rfl ?_
      refine wl_gy 12 rfl rfl (y_fieldAddr (o := 4) (s := 1) (off := 0) (o' := 4) rfl Tryz.underlying24 rfl (by kernel_rfl) rfl rfl) rfl ?_
      refine wl_gy 12 rfl rfl (y_load1 rfl Tryz.underlying22 rfl (B1.get (i := 4) rfl)) rfl ?_
      refine wl_gy 12 rfl rfl (y_len_slice rfl Tryz.underlying22) rfl ?_
      refine wl_gyask 12 rfl rfl (y_eql rfl rfl) rfl (fun q2 => ?_) (fun q2 => ?_)
      · skip
        refine wl_gy 8 rfl rfl (y_pickt rfl rfl) rfl ?_
        refine wl_y (y_pickf rfl rfl) rfl ?_
        refine wl_y (y_assign rfl) rfl ?_
        refine wl_nil ?_
        refine wq_then_norm (hK2 ?_)
        refine wc_seq ?_; intro K4 hK4
        refine wc_region ?_
        refine wl_y (y_fieldAddr (o := 0) (s := 1) (off := 0) (o' := 0) rfl Tryz.underlying24 rfl (by kernel_rfl) rfl rfl) rfl ?_
        refine wl_y (y_load1 rfl Tryz.underlying22 rfl (B1.get (i := 0) rfl)) rfl ?_
        refine wl_y (y_len_slice rfl Tryz.underlying22) rfl ?_
        refine wl_yask (y_eql rfl rfl) rfl (fun u0 => ?_) (fun u0 => ?_)
        · skip
          refine wl_y (y_move rfl) rfl ?_
          refine wl_gy 23 rfl rfl (y_fieldAddr (o := 1) (s := 1) (off := 0) (o' := 1) rfl Tryz.underlying24 rfl (by kernel_rfl) rfl rfl) rfl ?_
          refine wl_gy 23 rfl rfl (y_load1 rfl Tryz.underlying22 rfl (B1.get (i := 1) rfl)) rfl ?_
          refine wl_gy 23 rfl rfl (y_len_slice rfl Tryz.underlying22) rfl ?_
          refine wl_gyask 23 rfl rfl (y_eql rfl rfl) rfl (fun u1 => ?_) (fun u1 => ?_)
          · skip
            refine wl_y (y_pickt rfl rfl) rfl ?_
            refine wl_y (y_move rfl) rfl ?_
            refine wl_gy 29 rfl rfl (y_fieldAddr (o := 2) (s := 1) (off := 0) (o' := 2) rfl Tryz.underlying24 rfl (by kernel_rfl) rfl rfl) rfl ?_
            refine wl_gy 29 rfl rfl (y_load1 rfl Tryz.underlying22 rfl (B1.get (i := 2) rfl)) rfl ?_
            refine wl_gy 29 rfl rfl (y_len_slice rfl Tryz.underlying22) rfl ?_
            refine wl_gyask 29 rfl rfl (y_gtr rfl rfl) rfl (fun u2 => ?_) (fun u2 => ?_)
            · skip
              refine wl_y (y_pickt rfl rfl) rfl ?_
              refine wl_y (y_move rfl) rfl ?_
              refine wl_gy 35 rfl rfl (y_fieldAddr (o := 2) (s := 1) (off := 0) (o' := 2) rfl Tryz.underlying24 rfl (by kernel_rfl) rfl rfl) rfl ?_
              refine wl_gy 35 rfl rfl (y_load1 rfl Tryz.underlying22 rfl (B1.get (i := 2) rfl)) rfl ?_
              refine wl_gy 35 rfl rfl (y_len_slice rfl Tryz.underlying22) rfl ?_
              refine wl_gyask 35 rfl rfl (y_leq rfl rfl) rfl (fun u3 => ?_) (fun u3 => ?_)
              · skip
                refine wl_y (y_pickt rfl rfl) rfl ?_
                refine wl_y (y_move rfl) rfl ?_
                refine wl_gy 41 rfl rfl (y_fieldAddr (o := 3) (s := 1) (off := 0) (o' := 3) rfl Tryz.underlying24 rfl (by kernel_rfl) rfl rfl) rfl ?_
                refine wl_gy 41 rfl rfl (y_load1 rfl Tryz.underlying5 rfl (B1.get (i := 3) rfl)) rfl ?_
                refine wl_gyask 41 rfl rfl (y_gtr rfl rfl) rfl (fun u4 => ?_) (fun u4 => ?_)
                · skip
                  refine wl_y (y_pickt rfl rfl) rfl ?_
                  refine wl_y (y_move rfl) rfl ?_
                  refine wl_gy 46 rfl rfl (y_fieldAddr (o := 3) (s := 1) (off := 0) (o' := 3) rfl Tryz.underlying24 rfl (by kernel_rfl) rfl rfl) rfl ?_
                  refine wl_gy 46 rfl rfl (y_load1 rfl Tryz.underlying5 rfl (B1.get (i := 3) rfl)) rfl ?_
                  refine wl_gyask 46 rfl rfl (y_lss rfl rfl) rfl (fun u5 => ?_) (fun u5 => ?_)
                  · skip
                    refine wl_y (y_pickt rfl rfl) rfl ?_
                    refine wl_y (y_move rfl) rfl ?_
                    refine wl_gy 51 rfl rfl (y_move rfl) rfl ?_
                    refine wl_y (y_pickt rfl rfl) rfl ?_
                    refine wl_y (y_move rfl) rfl ?_
                    refine wl_gy 54 rfl rfl (y_fieldAddr (o := 5) (s := 1) (off := 0) (o' := 5) rfl Tryz.underlying24 rfl (by kernel_rfl) rfl rfl) rfl ?_
                    refine wl_gy 54 rfl rfl (y_load1 rfl Tryz.underlying22 rfl (B1.get (i := 5) rfl)) rfl ?_
                    refine wl_gy 54 rfl rfl (y_len_slice rfl Tryz.underlying22) rfl ?_
                    refine wl_gyask 54 rfl rfl (y_eql rfl rfl) rfl (fun u6 => ?_) (fun u6 => ?_)
                    · skip
                      refine wl_y (y_pickt rfl rfl) rfl ?_
                      refine wl_y (y_assign rfl) rfl ?_
                      refine wl_nil ?_
                      refine wq_then_norm (hK4 ?_)
                      refine wc_ret ?_
                      refine hret rfl ?_
                      first | exact ⟨ret_yes (by unfold okLeaf; omega), E⟩ | exact ⟨ret_no fun h => by unfold okLeaf at h; omega, E⟩
                    · skip
                      refine wl_y (y_pickt rfl rfl) rfl ?_
                      refine wl_y (y_assign rfl) rfl ?_
                      refine wl_nil ?_
                      refine wq_then_norm (hK4 ?_)
                      refine wc_ret ?_
                      refine hret rfl ?_
                      first | exact ⟨ret_yes (by unfold okLeaf; omega), E⟩ | exact ⟨ret_no fun h => by unfold okLeaf at h; omega, E⟩
                  · skip
                    refine wl_y (y_pickt rfl rfl) rfl ?_
                    refine wl_y (y_move rfl) rfl ?_
                    refine wl_gno 51 rfl rfl rfl rfl ?_
                    refine wl_y (y_pickf rfl rfl) rfl ?_
                    refine wl_y (y_move rfl) rfl ?_
                    refine wl_gno 54 rfl rfl rfl rfl ?_
                    refine wl_gno 54 rfl rfl rfl rfl ?_
                    refine wl_gno 54 rfl rfl rfl rfl ?_
                    refine wl_gno 54 rfl rfl rfl rfl ?_
                    refine wl_y (y_pickf rfl rfl) rfl ?_
                    refine wl_y (y_assign rfl) rfl ?_
                    refine wl_nil ?_
                    refine wq_then_norm (hK4 ?_)
                    refine wc_ret ?_
                    refine hret rfl ?_
                    first | exact ⟨ret_yes (by unfold okLeaf; omega), E⟩ | exact ⟨ret_no fun h => by unfold okLeaf at h; omega, E⟩
                · skip
                  refine wl_y (y_pickt rfl rfl) rfl ?_
                  refine wl_y (y_move rfl) rfl ?_
                  refine wl_gno 46 rfl rfl rfl rfl ?_
                  refine wl_gno 46 rfl rfl rfl rfl ?_
                  refine wl_gno 46 rfl rfl rfl rfl ?_
                  refine wl_y (y_pickf rfl rfl) rfl ?_
                  refine wl_y (y_move rfl) rfl ?_
                  refine wl_gno 51 rfl rfl rfl rfl ?_
                  refine wl_y (y_pickf rfl rfl) rfl ?_
                  refine wl_y (y_move rfl) rfl ?_
                  refine wl_gno 54 rfl rfl rfl rfl ?_
                  refine wl_gno 54 rfl rfl rfl rfl ?_
                  refine wl_gno 54 rfl rfl rfl rfl ?_
                  refine wl_gno 54 rfl rfl rfl rfl ?_
                  refine wl_y (y_pickf rfl rfl) rfl ?_
                  refine wl_y (y_assign rfl) rfl ?_
                  refine wl_nil ?_
                  refine wq_then_norm (hK4 ?_)
                  refine wc_ret ?_
                  refine hret rfl ?_
                  first | exact ⟨ret_yes (by unfold okLeaf; omega), E⟩ | exact ⟨ret_no fun h => by unfold okLeaf at h; omega, E⟩
              · skip
                refine wl_y (y_pickt rfl rfl) rfl ?_
                refine wl_y (y_move rfl) rfl ?_
                refine wl_gno 41 rfl rfl rfl rfl ?_
                refine wl_gno 41 rfl rfl rfl rfl ?_
                refine wl_gno 41 rfl rfl rfl rfl ?_
                refine wl_y (y_pickf rfl rfl) rfl ?_
                refine wl_y (y_move rfl) rfl ?_
                refine wl_gno 46 rfl rfl rfl rfl ?_
                refine wl_gno 46 rfl rfl rfl rfl ?_
                refine wl_gno 46 rfl rfl rfl rfl ?_
                refine wl_y (y_pickf rfl rfl) rfl ?_
                refine wl_y (y_move rfl) rfl ?_
                refine wl_gno 51 rfl rfl rfl rfl ?_
                refine wl_y (y_pickf rfl rfl) rfl ?_
                refine wl_y (y_move rfl) rfl ?_
                refine wl_gno 54 rfl rfl rfl rfl ?_
                refine wl_gno 54 rfl rfl rfl rfl ?_
                refine wl_gno 54 rfl rfl rfl rfl ?_
                refine wl_gno 54 rfl rfl rfl rfl ?_
                refine wl_y (y_pickf rfl rfl) rfl ?_
                refine wl_y (y_assign rfl) rfl ?_
                refine wl_nil ?_
                refine wq_then_norm (hK4 ?_)
                refine wc_ret ?_
                refine hret rfl ?_
                first | exact ⟨ret_yes (by unfold okLeaf; omega), E⟩ | exact ⟨ret_no fun h => by unfold okLeaf at h; omega, E⟩
            · skip
              refine wl_y (y_pickt rfl rfl) rfl ?_
              refine wl_y (y_move rfl) rfl ?_
              refine wl_gno 35 rfl rfl rfl rfl ?_
              refine wl_gno 35 rfl rfl rfl rfl ?_
              refine wl_gno 35 rfl rfl rfl rfl ?_
              refine wl_gno 35 rfl rfl rfl rfl ?_
              refine wl_y (y_pickf rfl rfl) rfl ?_
              refine wl_y (y_move rfl) rfl ?_
              refine wl_gno 41 rfl rfl rfl rfl ?_
              refine wl_gno 41 rfl rfl rfl rfl ?_
              refine wl_gno 41 rfl rfl rfl rfl ?_
              refine wl_y (y_pickf rfl rfl) rfl ?_
              refine wl_y (y_move rfl) rfl ?_
              refine wl_gno 46 rfl rfl rfl rfl ?_
              refine wl_gno 46 rfl rfl rfl rfl ?_
              refine wl_gno 46 rfl rfl rfl rfl ?_
              refine wl_y (y_pickf rfl rfl) rfl ?_
              refine wl_y (y_move rfl) rfl ?_
              refine wl_gno 51 rfl rfl rfl rfl ?_
              refine wl_y (y_pickf rfl rfl) rfl ?_
              refine wl_y (y_move rfl) rfl ?_
              refine wl_gno 54 rfl rfl rfl rfl ?_
              refine wl_gno 54 rfl rfl rfl rfl ?_
              refine wl_gno 54 rfl rfl rfl rfl ?_
              refine wl_gno 54 rfl rfl rfl rfl ?_
              refine wl_y (y_pickf rfl rfl) rfl ?_
              refine wl_y (y_assign rfl) rfl ?_
              refine wl_nil ?_
              refine wq_then_norm (hK4 ?_)
              refine wc_ret ?_
              refine hret rfl ?_
              first | exact ⟨ret_yes (by unfold okLeaf; omega), E⟩ | exact ⟨ret_no fun h => by unfold okLeaf at h; omega, E⟩
          · skip
            refine wl_y (y_pickt rfl rfl) rfl ?_
            refine wl_y (y_move rfl) rfl ?_
            refine wl_gno 29 rfl rfl rfl rfl ?_
            refine wl_gno 29 rfl rfl rfl rfl ?_
            refine wl_gno 29 rfl rfl rfl rfl ?_
            refine wl_gno 29 rfl rfl rfl rfl ?_
            refine wl_y (y_pickf rfl rfl) rfl ?_
            refine wl_y (y_move rfl) rfl ?_
            refine wl_gno 35 rfl rfl rfl rfl ?_
            refine wl_gno 35 rfl rfl rfl rfl ?_
            refine wl_gno 35 rfl rfl rfl rfl ?_
            refine wl_gno 35 rfl rfl rfl rfl ?_
            refine wl_y (y_pickf rfl rfl) rfl ?_
            refine wl_y (y_move rfl) rfl ?_
            refine wl_gno 41 rfl rfl rfl rfl ?_
            refine wl_gno 41 rfl rfl rfl rfl ?_
            refine wl_gno 41 rfl rfl rfl rfl ?_
            refine wl_y (y_pickf rfl rfl) rfl ?_
            refine wl_y (y_move rfl) rfl ?_
            refine wl_gno 46 rfl rfl rfl rfl ?_
            refine wl_gno 46 rfl rfl rfl rfl ?_
            refine wl_gno 46 rfl rfl rfl rfl ?_
            refine wl_y (y_pickf rfl rfl) rfl ?_
            refine wl_y (y_move rfl) rfl ?_
            refine wl_gno 51 rfl rfl rfl rfl ?_
            refine wl_y (y_pickf rfl rfl) rfl ?_
            refine wl_y (y_move rfl) rfl ?_
            refine wl_gno 54 rfl rfl rfl rfl ?_
            refine wl_gno 54 rfl rfl rfl rfl ?_
            refine wl_gno 54 rfl rfl rfl rfl ?_
            refine wl_gno 54 rfl rfl rfl rfl ?_
            refine wl_y (y_pickf rfl rfl) rfl ?_
            refine wl_y (y_assign rfl) rfl ?_
            refine wl_nil ?_
            refine wq_then_norm (hK4 ?_)
            refine wc_ret ?_
            refine hret rfl ?_
            first | exact ⟨ret_yes (by unfold okLeaf; omega), E⟩ | exact ⟨ret_no fun h => by unfold okLeaf at h; omega, E⟩
        · skip
          refine wl_y (y_move rfl) rfl ?_
          refine wl_gno 23 rfl rfl rfl rfl ?_
          refine wl_gno 23 rfl rfl rfl rfl ?_
          refine wl_gno 23 rfl rfl rfl rfl ?_
          refine wl_gno 23 rfl rfl rfl rfl ?_
          refine wl_y (y_pickf rfl rfl) rfl ?_
          refine wl_y (y_move rfl) rfl ?_
          refine wl_gno 29 rfl rfl rfl rfl ?_
          refine wl_gno 29 rfl rfl rfl rfl ?_
          refine wl_gno 29 rfl rfl rfl rfl ?_
          refine wl_gno 29 rfl rfl rfl rfl ?_
          refine wl_y (y_pickf rfl rfl) rfl ?_
          refine wl_y (y_move rfl) rfl ?_
          refine wl_gno 35 rfl rfl rfl rfl ?_
          refine wl_gno 35 rfl rfl rfl rfl ?_
          refine wl_gno 35 rfl rfl rfl rfl ?_
          refine wl_gno 35 rfl rfl rfl rfl ?_
          refine wl_y (y_pickf rfl rfl) rfl ?_
          refine wl_y (y_move rfl) rfl ?_
          refine wl_gno 41 rfl rfl rfl rfl ?_
          refine wl_gno 41 rfl rfl rfl rfl ?_
          refine wl_gno 41 rfl rfl rfl rfl ?_
          refine wl_y (y_pickf rfl rfl) rfl ?_
          refine wl_y (y_move rfl) rfl ?_
          refine wl_gno 46 rfl rfl rfl rfl ?_
          refine wl_gno 46 rfl rfl rfl rfl ?_
          refine wl_gno 46 rfl rfl rfl rfl ?_
          refine wl_y (y_pickf rfl rfl) rfl ?_
          refine wl_y (y_move rfl) rfl ?_
          refine wl_gno 51 rfl rfl rfl rfl ?_
          refine wl_y (y_pickf rfl rfl) rfl ?_
          refine wl_y (y_move rfl) rfl ?_
          refine wl_gno 54 rfl rfl rfl rfl ?_
          refine wl_gno 54 rfl rfl rfl rfl ?_
          refine wl_gno 54 rfl rfl rfl rfl ?_
          refine wl_gno 54 rfl rfl rfl rfl ?_
          refine wl_y (y_pickf rfl rfl) rfl ?_
          refine wl_y (y_assign rfl) rfl ?_
          refine wl_nil ?_
          refine wq_then_norm (hK4 ?_)
          refine wc_ret ?_
          refine hret rfl ?_
          first | exact ⟨ret_yes (by unfold okLeaf; omega), E⟩ | exact ⟨ret_no fun h => by unfold okLeaf at h; omega, E⟩
      · skip
        refine wl_gy 8 rfl rfl (y_pickt rfl rfl) rfl ?_
        refine wl_y (y_pickf rfl rfl) rfl ?_
        refine wl_y (y_assign rfl) rfl ?_
        refine wl_nil ?_
        refine wq_then_norm (hK2 ?_)
        refine wc_seq ?_; intro K5 hK5
        refine wc_region ?_
        refine wl_y (y_fieldAddr (o := 0) (s := 1) (off := 0) (o' := 0) rfl Tryz.underlying24 rfl (by kernel_rfl) rfl rfl) rfl ?_
        refine wl_y (y_load1 rfl Tryz.underlying22 rfl (B1.get (i := 0) rfl)) rfl ?_
        refine wl_y (y_len_slice rfl Tryz.underlying22) rfl ?_
        refine wl_yask (y_eql rfl rfl) rfl (fun u0 => ?_) (fun u0 => ?_)
        · skip
          refine wl_y (y_move rfl) rfl ?_
          refine wl_gy 23 rfl rfl (y_fieldAddr (o := 1) (s := 1) (off := 0) (o' := 1) rfl Tryz.underlying24 rfl (by kernel_rfl) rfl rfl) rfl ?_
          refine wl_gy 23 rfl rfl (y_load1 rfl Tryz.underlying22 rfl (B1.get (i := 1) rfl)) rfl ?_
          refine wl_gy 23 rfl rfl (y_len_slice rfl Tryz.underlying22) rfl ?_
          refine wl_gyask 23 rfl rfl (y_eql rfl rfl) rfl (fun u1 => ?_) (fun u1 => ?_)
          · skip
            refine wl_y (y_pickt rfl rfl) rfl ?_
            refine wl_y (y_move rfl) rfl ?_
            refine wl_gy 29 rfl rfl (y_fieldAddr (o := 2) (s := 1) (off := 0) (o' := 2) rfl Tryz.underlying24 rfl (by kernel_rfl) rfl rfl) rfl ?_
            refine wl_gy 29 rfl rfl (y_load1 rfl Tryz.underlying22 rfl (B1.get (i := 2) rfl)) rfl ?_
            refine wl_gy 29 rfl rfl (y_len_slice rfl Tryz.underlying22) rfl ?_
            refine wl_gyask 29 rfl rfl (y_gtr rfl rfl) rfl (fun u2 => ?_) (fun u2 => ?_)
            · skip
              refine wl_y (y_pickt rfl rfl) rfl ?_
              refine wl_y (y_move rfl) rfl ?_
              refine wl_gy 35 rfl rfl (y_fieldAddr (o := 2) (s := 1) (off := 0) (o' := 2) rfl Tryz.underlying24 rfl (by kernel_rfl) rfl rfl) rfl ?_
              refine wl_gy 35 rfl rfl (y_load1 rfl Tryz.underlying22 rfl (B1.get (i := 2) rfl)) rfl ?_
              refine wl_gy 35 rfl rfl (y_len_slice rfl Tryz.underlying22) rfl ?_
              refine wl_gyask 35 rfl rfl (y_leq rfl rfl) rfl (fun u3 => ?_) (fun u3 => ?_)
              · skip
                refine wl_y (y_pickt rfl rfl) rfl ?_
                refine wl_y (y_move rfl) rfl ?_
                refine wl_gy 41 rfl rfl (y_fieldAddr (o := 3) (s := 1) (off := 0) (o' := 3) rfl Tryz.underlying24 rfl (by kernel_rfl) rfl rfl) rfl ?_
                refine wl_gy 41 rfl rfl (y_load1 rfl Tryz.underlying5 rfl (B1.get (i := 3) rfl)) rfl ?_
                refine wl_gyask 41 rfl rfl (y_gtr rfl rfl) rfl (fun u4 => ?_) (fun u4 => ?_)
                · skip
                  refine wl_y (y_pickt rfl rfl) rfl ?_
                  refine wl_y (y_move rfl) rfl ?_
                  refine wl_gy 46 rfl rfl (y_fieldAddr (o := 3) (s := 1) (off := 0) (o' := 3) rfl Tryz.underlying24 rfl (by kernel_rfl) rfl rfl) rfl ?_
                  refine wl_gy 46 rfl rfl (y_load1 rfl Tryz.underlying5 rfl (B1.get (i := 3) rfl)) rfl ?_
                  refine wl_gyask 46 rfl rfl (y_lss rfl rfl) rfl (fun u5 => ?_) (fun u5 => ?_)
                  · skip
                    refine wl_y (y_pickt rfl rfl) rfl ?_
                    refine wl_y (y_move rfl) rfl ?_
                    refine wl_gy 51 rfl rfl (y_move rfl) rfl ?_
                    refine wl_y (y_pickt rfl rfl) rfl ?_
                    refine wl_y (y_move rfl) rfl ?_
                    refine wl_gno 54 rfl rfl rfl rfl ?_
                    refine wl_gno 54 rfl rfl rfl rfl ?_
                    refine wl_gno 54 rfl rfl rfl rfl ?_
                    refine wl_gno 54 rfl rfl rfl rfl ?_
                    refine wl_y (y_pickf rfl rfl) rfl ?_
                    refine wl_y (y_assign rfl) rfl ?_
                    refine wl_nil ?_
                    refine wq_then_norm (hK5 ?_)
                    refine wc_ret ?_
                    refine hret rfl ?_
                    first | exact ⟨ret_yes (by unfold okLeaf; omega), E⟩ | exact ⟨ret_no fun h => by unfold okLeaf at h; omega, E⟩
                  · skip
                    refine wl_y (y_pickt rfl rfl) rfl ?_
                    refine wl_y (y_move rfl) rfl ?_
                    refine wl_gno 51 rfl rfl rfl rfl ?_
                    refine wl_y (y_pickf rfl rfl) rfl ?_
                    refine wl_y (y_move rfl) rfl ?_
                    refine wl_gno 54 rfl rfl rfl rfl ?_
                    refine wl_gno 54 rfl rfl rfl rfl ?_
                    refine wl_gno 54 rfl rfl rfl rfl ?_
                    refine wl_gno 54 rfl rfl rfl rfl ?_
                    refine wl_y (y_pickf rfl rfl) rfl ?_
                    refine wl_y (y_assign rfl) rfl ?_
                    refine wl_nil ?_
                    refine wq_then_norm (hK5 ?_)
                    refine wc_ret ?_
                    refine hret rfl ?_
                    first | exact ⟨ret_yes (by unfold okLeaf; omega), E⟩ | exact ⟨ret_no fun h => by unfold okLeaf at h; omega, E⟩
                · skip
                  refine wl_y (y_pickt rfl rfl) rfl ?_
                  refine wl_y (y_move rfl) rfl ?_
                  refine wl_gno 46 rfl rfl rfl rfl ?_
                  refine wl_gno 46 rfl rfl rfl rfl ?_
                  refine wl_gno 46 rfl rfl rfl rfl ?_
                  refine wl_y (y_pickf rfl rfl) rfl ?_
                  refine wl_y (y_move rfl) rfl ?_
                  refine wl_gno 51 rfl rfl rfl rfl ?_
                  refine wl_y (y_pickf rfl rfl) rfl ?_
                  refine wl_y (y_move rfl) rfl ?_
                  refine wl_gno 54 rfl rfl rfl rfl ?_
                  refine wl_gno 54 rfl rfl rfl rfl ?_
                  refine wl_gno 54 rfl rfl rfl rfl ?_
                  refine wl_gno 54 rfl rfl rfl rfl ?_
                  refine wl_y (y_pickf rfl rfl) rfl ?_
                  refine wl_y (y_assign rfl) rfl ?_
                  refine wl_nil ?_
                  refine wq_then_norm (hK5 ?_)
                  refine wc_ret ?_
                  refine hret rfl ?_
                  first | exact ⟨ret_yes (by unfold okLeaf; omega), E⟩ | exact ⟨ret_no fun h => by unfold okLeaf at h; omega, E⟩
              · skip
                refine wl_y (y_pickt rfl rfl) rfl ?_
                refine wl_y (y_move rfl) rfl ?_
                refine wl_gno 41 rfl rfl rfl rfl ?_
                refine wl_gno 41 rfl rfl rfl rfl ?_
                refine wl_gno 41 rfl rfl rfl rfl ?_
                refine wl_y (y_pickf rfl rfl) rfl ?_
                refine wl_y (y_move rfl) rfl ?_
                refine wl_gno 46 rfl rfl rfl rfl ?_
                refine wl_gno 46 rfl rfl rfl rfl ?_
                refine wl_gno 46 rfl rfl rfl rfl ?_
                refine wl_y (y_pickf rfl rfl) rfl ?_
                refine wl_y (y_move rfl) rfl ?_
                refine wl_gno 51 rfl rfl rfl rfl ?_
                refine wl_y (y_pickf rfl rfl) rfl ?_
                refine wl_y (y_move rfl) rfl ?_
                refine wl_gno 54 rfl rfl rfl rfl ?_
                refine wl_gno 54 rfl rfl rfl rfl ?_
                refine wl_gno 54 rfl rfl rfl rfl ?_
                refine wl_gno 54 rfl rfl rfl rfl ?_
                refine wl_y (y_pickf rfl rfl) rfl ?_
                refine wl_y (y_assign rfl) rfl ?_
                refine wl_nil ?_
                refine wq_then_norm (hK5 ?_)
                refine wc_ret ?_
                refine hret rfl ?_
                first | exact ⟨ret_yes (by unfold okLeaf; omega), E⟩ | exact ⟨ret_no fun h => by unfold okLeaf at h; omega, E⟩
            · skip
              refine wl_y (y_pickt rfl rfl) rfl ?_
              refine wl_y (y_move rfl) rfl ?_
              refine wl_gno 35 rfl rfl rfl rfl ?_
              refine wl_gno 35 rfl rfl rfl rfl ?_
              refine wl_gno 35 rfl rfl rfl rfl ?_
              refine wl_gno 35 rfl rfl rfl rfl ?_
              refine wl_y (y_pickf rfl rfl) rfl ?_
              refine wl_y (y_move rfl) rfl ?_
              refine wl_gno 41 rfl rfl rfl rfl ?_
              refine wl_gno 41 rfl rfl rfl rfl ?_
              refine wl_gno 41 rfl rfl rfl rfl ?_
              refine wl_y (y_pickf rfl rfl) rfl ?_
              refine wl_y (y_move rfl) rfl ?_
              refine wl_gno 46 rfl rfl rfl rfl ?_
              refine wl_gno 46 rfl rfl rfl rfl ?_
              refine wl_gno 46 rfl rfl rfl rfl ?_
              refine wl_y (y_pickf rfl rfl) rfl ?_
              refine wl_y (y_move rfl) rfl ?_
              refine wl_gno 51 rfl rfl rfl rfl ?_
              refine wl_y (y_pickf rfl rfl) rfl ?_
              refine wl_y (y_move rfl) rfl ?_
              refine wl_gno 54 rfl rfl rfl rfl ?_
              refine wl_gno 54 rfl rfl rfl rfl ?_
              refine wl_gno 54 rfl rfl rfl rfl ?_
              refine wl_gno 54 rfl rfl rfl rfl ?_
              refine wl_y (y_pickf rfl rfl) rfl ?_
              refine wl_y (y_assign rfl) rfl ?_
              refine wl_nil ?_
              refine wq_then_norm (hK5 ?_)
              refine wc_ret ?_
              refine hret rfl ?_
              first | exact ⟨ret_yes (by unfold okLeaf; omega), E⟩ | exact ⟨ret_no fun h => by unfold okLeaf at h; omega, E⟩
          · skip
            refine wl_y (y_pickt rfl rfl) rfl ?_
            refine wl_y (y_move rfl) rfl ?_
            refine wl_gno 29 rfl rfl rfl rfl ?_
            refine wl_gno 29 rfl rfl rfl rfl ?_
            refine wl_gno 29 rfl rfl rfl rfl ?_
            refine wl_gno 29 rfl rfl rfl rfl ?_
            refine wl_y (y_pickf rfl rfl) rfl ?_
            refine wl_y (y_move rfl) rfl ?_
            refine wl_gno 35 rfl rfl rfl rfl ?_
            refine wl_gno 35 rfl rfl rfl rfl ?_
            refine wl_gno 35 rfl rfl rfl rfl ?_
            refine wl_gno 35 rfl rfl rfl rfl ?_
            refine wl_y (y_pickf rfl rfl) rfl ?_
            refine wl_y (y_move rfl) rfl ?_
            refine wl_gno 41 rfl rfl rfl rfl ?_
            refine wl_gno 41 rfl rfl rfl rfl ?_
            refine wl_gno 41 rfl rfl rfl rfl ?_
            refine wl_y (y_pickf rfl rfl) rfl ?_
            refine wl_y (y_move rfl) rfl ?_
            refine wl_gno 46 rfl rfl rfl rfl ?_
            refine wl_gno 46 rfl rfl rfl rfl ?_
            refine wl_gno 46 rfl rfl rfl rfl ?_
            refine wl_y (y_pickf rfl rfl) rfl ?_
            refine wl_y (y_move rfl) rfl ?_
            refine wl_gno 51 rfl rfl rfl rfl ?_
            refine wl_y (y_pickf rfl rfl) rfl ?_
            refine wl_y (y_move rfl) rfl ?_
            refine wl_gno 54 rfl rfl rfl rfl ?_
            refine wl_gno 54 rfl rfl rfl rfl ?_
            refine wl_gno 54 rfl rfl rfl rfl ?_
            refine wl_gno 54 rfl rfl rfl rfl ?_
            refine wl_y (y_pickf rfl rfl) rfl ?_
            refine wl_y (y_assign rfl) rfl ?_
            refine wl_nil ?_
            refine wq_then_norm (hK5 ?_)
            refine wc_ret ?_
            refine hret rfl ?_
            first | exact ⟨ret_yes (by unfold okLeaf; omega), E⟩ | exact ⟨ret_no fun h => by unfold okLeaf at h; omega, E⟩
        · skip
          refine wl_y (y_move rfl) rfl ?_
          refine wl_gno 23 rfl rfl rfl rfl ?_
          refine wl_gno 23 rfl rfl rfl rfl ?_
          refine wl_gno 23 rfl rfl rfl rfl ?_
          refine wl_gno 23 rfl rfl rfl rfl ?_
          refine wl_y (y_pickf rfl rfl) rfl ?_
          refine wl_y (y_move rfl) rfl ?_
          refine wl_gno 29 rfl rfl rfl rfl ?_
          refine wl_gno 29 rfl rfl rfl rfl ?_
          refine wl_gno 29 rfl rfl rfl rfl ?_
          refine wl_gno 29 rfl rfl rfl rfl ?_
          refine wl_y (y_pickf rfl rfl) rfl ?_
          refine wl_y (y_move rfl) rfl ?_
          refine wl_gno 35 rfl rfl rfl rfl ?_
          refine wl_gno 35 rfl rfl rfl rfl ?_
          refine wl_gno 35 rfl rfl rfl rfl ?_
          refine wl_gno 35 rfl rfl rfl rfl ?_
          refine wl_y (y_pickf rfl rfl) rfl ?_
          refine wl_y (y_move rfl) rfl ?_
          refine wl_gno 41 rfl rfl rfl rfl ?_
          refine wl_gno 41 rfl rfl rfl rfl ?_
          refine wl_gno 41 rfl rfl rfl rfl ?_
          refine wl_y (y_pickf rfl rfl) rfl ?_
          refine wl_y (y_move rfl) rfl ?_
          refine wl_gno 46 rfl rfl rfl rfl ?_
          refine wl_gno 46 rfl rfl rfl rfl ?_
          refine wl_gno 46 rfl rfl rfl rfl ?_
          refine wl_y (y_pickf rfl rfl) rfl ?_
          refine wl_y (y_move rfl) rfl ?_
          refine wl_gno 51 rfl rfl rfl rfl ?_
          refine wl_y (y_pickf rfl rfl) rfl ?_
          refine wl_y (y_move rfl) rfl ?_
          refine wl_gno 54 rfl rfl rfl rfl ?_
          refine wl_gno 54 rfl rfl rfl rfl ?_
          refine wl_gno 54 rfl rfl rfl rfl ?_
          refine wl_gno 54 rfl rfl rfl rfl ?_
          refine wl_y (y_pickf rfl rfl) rfl ?_
          refine wl_y (y_assign rfl) rfl ?_
          refine wl_nil ?_
          refine wq_then_norm (hK5 ?_)
          refine wc_ret ?_
          refine hret rfl ?_
          first | exact ⟨ret_yes (by unfold okLeaf; omega), E⟩ | exact ⟨ret_no fun h => by unfold okLeaf at h; omega, E⟩
    · skip
      refine wl_gy 8 rfl rfl (y_move rfl) rfl ?_
      refine wl_gno 12 rfl rfl rfl rfl ?_
      refine wl_gno 12 rfl rfl rfl rfl ?_
      refine wl_gno 12 rfl rfl rfl rfl ?_
      refine wl_gno 12 rfl rfl rfl rfl ?_
      refine wl_gy 8 rfl rfl (y_pickf rfl rfl) rfl ?_
      refine wl_y (y_pickf rfl rfl) rfl ?_
      refine wl_y (y_assign rfl) rfl ?_
      refine wl_nil ?_
      refine wq_then_norm (hK2 ?_)
      refine wc_seq ?_; intro K6 hK6
      refine wc_region ?_
      refine wl_y (y_fieldAddr (o := 0) (s := 1) (off := 0) (o' := 0) rfl Tryz.underlying24 rfl (by kernel_rfl) rfl rfl) rfl ?_
      refine wl_y (y_load1 rfl Tryz.underlying22 rfl (B1.get (i := 0) rfl)) rfl ?_
      refine wl_y (y_len_slice rfl Tryz.underlying22) rfl ?_
      refine wl_yask (y_eql rfl rfl) rfl (fun u0 => ?_) (fun u0 => ?_)
      · skip
        refine wl_y (y_move rfl) rfl ?_
        refine wl_gy 23 rfl rfl (y_fieldAddr (o := 1) (s := 1) (off := 0) (o' := 1) rfl Tryz.underlying24 rfl (by kernel_rfl) rfl rfl) rfl ?_
        refine wl_gy 23 rfl rfl (y_load1 rfl Tryz.underlying22 rfl (B1.get (i := 1) rfl)) rfl ?_
        refine wl_gy 23 rfl rfl (y_len_slice rfl Tryz.underlying22) rfl ?_
        refine wl_gyask 23 rfl rfl (y_eql rfl rfl) rfl (fun u1 => ?_) (fun u1 => ?_)
        · skip
          refine wl_y (y_pickt rfl rfl) rfl ?_
          refine wl_y (y_move rfl) rfl ?_
          refine wl_gy 29 rfl rfl (y_fieldAddr (o := 2) (s := 1) (off := 0) (o' := 2) rfl Tryz.underlying24 rfl (by kernel_rfl) rfl rfl) rfl ?_
          refine wl_gy 29 rfl rfl (y_load1 rfl Tryz.underlying22 rfl (B1.get (i := 2) rfl)) rfl ?_
          refine wl_gy 29 rfl rfl (y_len_slice rfl Tryz.underlying22) rfl ?_
          refine wl_gyask 29 rfl rfl (y_gtr rfl rfl) rfl (fun u2 => ?_) (fun u2 => ?_)
          · skip
            refine wl_y (y_pickt rfl rfl) rfl ?_
            refine wl_y (y_move rfl) rfl ?_
            refine wl_gy 35 rfl rfl (y_fieldAddr (o := 2) (s := 1) (off := 0) (o' := 2) rfl Tryz.underlying24 rfl (by kernel_rfl) rfl rfl) rfl ?_
            refine wl_gy 35 rfl rfl (y_load1 rfl Tryz.underlying22 rfl (B1.get (i := 2) rfl)) rfl ?_
            refine wl_gy 35 rfl rfl (y_len_slice rfl Tryz.underlying22) rfl ?_
            refine wl_gyask 35 rfl rfl (y_leq rfl rfl) rfl (fun u3 => ?_) (fun u3 => ?_)
            · skip
              refine wl_y (y_pickt rfl rfl) rfl ?_
              refine wl_y (y_move rfl) rfl ?_
              refine wl_gy 41 rfl rfl (y_fieldAddr (o := 3) (s := 1) (off := 0) (o' := 3) rfl Tryz.underlying24 rfl (by kernel_rfl) rfl rfl) rfl ?_
              refine wl_gy 41 rfl rfl (y_load1 rfl Tryz.underlying5 rfl (B1.get (i := 3) rfl)) rfl ?_
              refine wl_gyask 41 rfl rfl (y_gtr rfl rfl) rfl (fun u4 => ?_) (fun u4 => ?_)
              · skip
                refine wl_y (y_pickt rfl rfl) rfl ?_
                refine wl_y (y_move rfl) rfl ?_
                refine wl_gy 46 rfl rfl (y_fieldAddr (o := 3) (s := 1) (off := 0) (o' := 3) rfl Tryz.underlying24 rfl (by kernel_rfl) rfl rfl) rfl ?_
                refine wl_gy 46 rfl rfl (y_load1 rfl Tryz.underlying5 rfl (B1.get (i := 3) rfl)) rfl ?_
                refine wl_gyask 46 rfl rfl (y_lss rfl rfl) rfl (fun u5 => ?_) (fun u5 => ?_)
                · skip
                  refine wl_y (y_pickt rfl rfl) rfl ?_
                  refine wl_y (y_move rfl) rfl ?_
                  refine wl_gy 51 rfl rfl (y_move rfl) rfl ?_
                  refine wl_y (y_pickt rfl rfl) rfl ?_
                  refine wl_y (y_move rfl) rfl ?_
                  refine wl_gno 54 rfl rfl rfl rfl ?_
                  refine wl_gno 54 rfl rfl rfl rfl ?_
                  refine wl_gno 54 rfl rfl rfl rfl ?_
                  refine wl_gno 54 rfl rfl rfl rfl ?_
                  refine wl_y (y_pickf rfl rfl) rfl ?_
                  refine wl_y (y_assign rfl) rfl ?_
                  refine wl_nil ?_
                  refine wq_then_norm (hK6 ?_)
                  refine wc_ret ?_
                  refine hret rfl ?_
                  first | exact ⟨ret_yes (by unfold okLeaf; omega), E⟩ | exact ⟨ret_no fun h => by unfold okLeaf at h; omega, E⟩
                · skip
                  refine wl_y (y_pickt rfl rfl) rfl ?_
                  refine wl_y (y_move rfl) rfl ?_
                  refine wl_gno 51 rfl rfl rfl rfl ?_
                  refine wl_y (y_pickf rfl rfl) rfl ?_
                  refine wl_y (y_move rfl) rfl ?_
                  refine wl_gno 54 rfl rfl rfl rfl ?_
                  refine wl_gno 54 rfl rfl rfl rfl ?_
                  refine wl_gno 54 rfl rfl rfl rfl ?_
                  refine wl_gno 54 rfl rfl rfl rfl ?_
                  refine wl_y (y_pickf rfl rfl) rfl ?_
                  refine wl_y (y_assign rfl) rfl ?_
                  refine wl_nil ?_
                  refine wq_then_norm (hK6 ?_)
                  refine wc_ret ?_
                  refine hret rfl ?_
                  first | exact ⟨ret_yes (by unfold okLeaf; omega), E⟩ | exact ⟨ret_no fun h => by unfold okLeaf at h; omega, E⟩
              · skip
                refine wl_y (y_pickt rfl rfl) rfl ?_
                refine wl_y (y_move rfl) rfl ?_
                refine wl_gno 46 rfl rfl rfl rfl ?_
                refine wl_gno 46 rfl rfl rfl rfl ?_
                refine wl_gno 46 rfl rfl rfl rfl ?_
                refine wl_y (y_pickf rfl rfl) rfl ?_
                refine wl_y (y_move rfl) rfl ?_
                refine wl_gno 51 rfl rfl rfl rfl ?_
                refine wl_y (y_pickf rfl rfl) rfl ?_
                refine wl_y (y_move rfl) rfl ?_
                refine wl_gno 54 rfl rfl rfl rfl ?_
                refine wl_gno 54 rfl rfl rfl rfl ?_
                refine wl_gno 54 rfl rfl rfl rfl ?_
                refine wl_gno 54 rfl rfl rfl rfl ?_
                refine wl_y (y_pickf rfl rfl) rfl ?_
                refine wl_y (y_assign rfl) rfl ?_
                refine wl_nil ?_
                refine wq_then_norm (hK6 ?_)
                refine wc_ret ?_
                refine hret rfl ?_
                first | exact ⟨ret_yes (by unfold okLeaf; omega), E⟩ | exact ⟨ret_no fun h => by unfold okLeaf at h; omega, E⟩
            · skip
              refine wl_y (y_pickt rfl rfl) rfl ?_
              refine wl_y (y_move rfl) rfl ?_
              refine wl_gno 41 rfl rfl rfl rfl ?_
              refine wl_gno 41 rfl rfl rfl rfl ?_
              refine wl_gno 41 rfl rfl rfl rfl ?_
              refine wl_y (y_pickf rfl rfl) rfl ?_
              refine wl_y (y_move rfl) rfl ?_
              refine wl_gno 46 rfl rfl rfl rfl ?_
              refine wl_gno 46 rfl rfl rfl rfl ?_
              refine wl_gno 46 rfl rfl rfl rfl ?_
              refine wl_y (y_pickf rfl rfl) rfl ?_
              refine wl_y (y_move rfl) rfl ?_
              refine wl_gno 51 rfl rfl rfl rfl ?_
              refine wl_y (y_pickf rfl rfl) rfl ?_
              refine wl_y (y_move rfl) rfl ?_
              refine wl_gno 54 rfl rfl rfl rfl ?_
              refine wl_gno 54 rfl rfl rfl rfl ?_
              refine wl_gno 54 rfl rfl rfl rfl ?_
              refine wl_gno 54 rfl rfl rfl rfl ?_
              refine wl_y (y_pickf rfl rfl) rfl ?_
              refine wl_y (y_assign rfl) rfl ?_
              refine wl_nil ?_
              refine wq_then_norm (hK6 ?_)
              refine wc_ret ?_
              refine hret rfl ?_
              first | exact ⟨ret_yes (by unfold okLeaf; omega), E⟩ | exact ⟨ret_no fun h => by unfold okLeaf at h; omega, E⟩
          · skip
            refine wl_y (y_pickt rfl rfl) rfl ?_
            refine wl_y (y_move rfl) rfl ?_
            refine wl_gno 35 rfl rfl rfl rfl ?_
            refine wl_gno 35 rfl rfl rfl rfl ?_
            refine wl_gno 35 rfl rfl rfl rfl ?_
            refine wl_gno 35 rfl rfl rfl rfl ?_
            refine wl_y (y_pickf rfl rfl) rfl ?_
            refine wl_y (y_move rfl) rfl ?_
            refine wl_gno 41 rfl rfl rfl rfl ?_
            refine wl_gno 41 rfl rfl rfl rfl ?_
            refine wl_gno 41 rfl rfl rfl rfl ?_
            refine wl_y (y_pickf rfl rfl) rfl ?_
            refine wl_y (y_move rfl) rfl ?_
            refine wl_gno 46 rfl rfl rfl rfl ?_
            refine wl_gno 46 rfl rfl rfl rfl ?_
            refine wl_gno 46 rfl rfl rfl rfl ?_
            refine wl_y (y_pickf rfl rfl) rfl ?_
            refine wl_y (y_move rfl) rfl ?_
            refine wl_gno 51 rfl rfl rfl rfl ?_
            refine wl_y (y_pickf rfl rfl) rfl ?_
            refine wl_y (y_move rfl) rfl ?_
            refine wl_gno 54 rfl rfl rfl rfl ?_
            refine wl_gno 54 rfl rfl rfl rfl ?_
            refine wl_gno 54 rfl rfl rfl rfl ?_
            refine wl_gno 54 rfl rfl rfl rfl ?_
            refine wl_y (y_pickf rfl rfl) rfl ?_
            refine wl_y (y_assign rfl) rfl ?_
            refine wl_nil ?_
            refine wq_then_norm (hK6 ?_)
            refine wc_ret ?_
            refine hret rfl ?_
            first | exact ⟨ret_yes (by unfold okLeaf; omega), E⟩ | exact ⟨ret_no fun h => by unfold okLeaf at h; omega, E⟩
        · skip
          refine wl_y (y_pickt rfl rfl) rfl ?_
          refine wl_y (y_move rfl) rfl ?_
          refine wl_gno 29 rfl rfl rfl rfl ?_
          refine wl_gno 29 rfl rfl rfl rfl ?_
          refine wl_gno 29 rfl rfl rfl rfl ?_
          refine wl_gno 29 rfl rfl rfl rfl ?_
          refine wl_y (y_pickf rfl rfl) rfl ?_
          refine wl_y (y_move rfl) rfl ?_
          refine wl_gno 35 rfl rfl rfl rfl ?_
          refine wl_gno 35 rfl rfl rfl rfl ?_
          refine wl_gno 35 rfl rfl rfl rfl ?_
          refine wl_gno 35 rfl rfl rfl rfl ?_
          refine wl_y (y_pickf rfl rfl) rfl ?_
          refine wl_y (y_move rfl) rfl ?_
          refine wl_gno 41 rfl rfl rfl rfl ?_
          refine wl_gno 41 rfl rfl rfl rfl ?_
          refine wl_gno 41 rfl rfl rfl rfl ?_
          refine wl_y (y_pickf rfl rfl) rfl ?_
          refine wl_y (y_move rfl) rfl ?_
          refine wl_gno 46 rfl rfl rfl rfl ?_
          refine wl_gno 46 rfl rfl rfl rfl ?_
          refine wl_gno 46 rfl rfl rfl rfl ?_
          refine wl_y (y_pickf rfl rfl) rfl ?_
          refine wl_y (y_move rfl) rfl ?_
          refine wl_gno 51 rfl rfl rfl rfl ?_
          refine wl_y (y_pickf rfl rfl) rfl ?_
          refine wl_y (y_move rfl) rfl ?_
          refine wl_gno 54 rfl rfl rfl rfl ?_
          refine wl_gno 54 rfl rfl rfl rfl ?_
          refine wl_gno 54 rfl rfl rfl rfl ?_
          refine wl_gno 54 rfl rfl rfl rfl ?_
          refine wl_y (y_pickf rfl rfl) rfl ?_
          refine wl_y (y_assign rfl) rfl ?_
          refine wl_nil ?_
          refine wq_then_norm (hK6 ?_)
          refine wc_ret ?_
          refine hret rfl ?_
          first | exact ⟨ret_yes (by unfold okLeaf; omega), E⟩ | exact ⟨ret_no fun h => by unfold okLeaf at h; omega, E⟩
      · skip
        refine wl_y (y_move rfl) rfl ?_
        refine wl_gno 23 rfl rfl rfl rfl ?_
        refine wl_gno 23 rfl rfl rfl rfl ?_
        refine wl_gno 23 rfl rfl rfl rfl ?_
        refine wl_gno 23 rfl rfl rfl rfl ?_
        refine wl_y (y_pickf rfl rfl) rfl ?_
        refine wl_y (y_move rfl) rfl ?_
        refine wl_gno 29 rfl rfl rfl rfl ?_
        refine wl_gno 29 rfl rfl rfl rfl ?_
        refine wl_gno 29 rfl rfl rfl rfl ?_
        refine wl_gno 29 rfl rfl rfl rfl ?_
        refine wl_y (y_pickf rfl rfl) rfl ?_
        refine wl_y (y_move rfl) rfl ?_
        refine wl_gno 35 rfl rfl rfl rfl ?_
        refine wl_gno 35 rfl rfl rfl rfl ?_
        refine wl_gno 35 rfl rfl rfl rfl ?_
        refine wl_gno 35 rfl rfl rfl rfl ?_
        refine wl_y (y_pickf rfl rfl) rfl ?_
        refine wl_y (y_move rfl) rfl ?_
        refine wl_gno 41 rfl rfl rfl rfl ?_
        refine wl_gno 41 rfl rfl rfl rfl ?_
        refine wl_gno 41 rfl rfl rfl rfl ?_
        refine wl_y (y_pickf rfl rfl) rfl ?_
        refine wl_y (y_move rfl) rfl ?_
        refine wl_gno 46 rfl rfl rfl rfl ?_
        refine wl_gno 46 rfl rfl rfl rfl ?_
        refine wl_gno 46 rfl rfl rfl rfl ?_
        refine wl_y (y_pickf rfl rfl) rfl ?_
        refine wl_y (y_move rfl) rfl ?_
        refine wl_gno 51 rfl rfl rfl rfl ?_
        refine wl_y (y_pickf rfl rfl) rfl ?_
        refine wl_y (y_move rfl) rfl ?_
        refine wl_gno 54 rfl rfl rfl rfl ?_
        refine wl_gno 54 rfl rfl rfl rfl ?_
        refine wl_gno 54 rfl rfl rfl rfl ?_
        refine wl_gno 54 rfl rfl rfl rfl ?_
        refine wl_y (y_pickf rfl rfl) rfl ?_
        refine wl_y (y_assign rfl) rfl ?_
        refine wl_nil ?_
        refine wq_then_norm (hK6 ?_)
        refine wc_ret ?_
        refine hret rfl ?_
        first | exact ⟨ret_yes (by unfold okLeaf; omega), E⟩ | exact ⟨ret_no fun h => by unfold okLeaf at h; omega, E⟩
end Go.Proofs.YtopimmomkapdoaaGreat
