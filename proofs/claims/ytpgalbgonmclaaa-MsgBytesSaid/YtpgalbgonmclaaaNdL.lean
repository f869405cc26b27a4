/- The reference's word for nodes that may be and their bytes, and the law NodeBytes. -/
import Derived.Test.YtpgalbgonmclaaaNdK
namespace Go.Proofs.Ytpgalbgonmclaaa
open Go.RowKit
attribute [local irreducible] Y Ef WL WC WK WQ WM OpM WN WF OpN
open Wire Nd
theorem leafN_zero {l : Leaf} : (⟨0, l, Par.zero⟩ : Node) = Node.zero ↔ l = Leaf.zero := ⟨fun h => congrArg Node.leaf h, fun h => by rw [h]; rfl⟩
theorem ahead_any {cs : Array Value} {l : Leaf} (w : World) (H : LeafAt w cs l) (hf : l.Fit) :
    Calls Try.prog 151 #[.agg cs] w fun e w' => ∃ A' k c', e = .returned (.slice A' k c') ∧ Row w' w.heap.size 5 A' k c' ((leafU l).map bv) ∧ Ext w w' := by
  obtain ⟨h0, h1, h2, h4, h5, rfl, hs, b0, b1, b2, b4, b5⟩ := H
  have l0 := b0.1; have l1 := b1.1; have l2 := b2.1; have l4 := b4.1; have l5 := b5.1
  obtain ⟨f0, f1, f2, f4, f5⟩ := hf
  have E := Ext.refl w
  refine vc_enter1 28 Try.func151 rfl rfl rfl rfl ?_
  intro Q hret
  refine wc_seq ?_; intro K1 hK1
  refine wc_region ?_
  refine wl_ef (ef_box rfl rfl) rfl ?_
  rintro _ wB1 ⟨gB1, rfl, B1, hgB1, ex⟩
  have lB1 := B1.lt; have zB1 := ex.size
  replace E := E.ext ex
  refine wl_y (y_assign rfl) rfl ?_
  refine wl_nil ?_
  refine wq_then_norm (hK1 ?_)
  refine wc_seq ?_; intro K2 hK2
  refine wc_draw (by kernel_rfl) 16 rfl ?_; intro wd1 ex hd1
  replace E := E.ext ex
  replace B1 := B1.ext ex
  refine wm_y 0 rfl (by kernel_rfl) (y_fieldAddr (o := 0) (s := 1) (off := 0) (o' := 0) rfl Try.underlying24 rfl (by kernel_rfl) rfl rfl) rfl ?_
  refine wm_y 1 rfl (by kernel_rfl) (y_load1 rfl Try.underlying22 rfl (B1.get (i := 0) rfl)) rfl ?_
  refine wm_y 3 rfl (by kernel_rfl) (y_fieldAddr (o := 1) (s := 1) (off := 0) (o' := 1) rfl Try.underlying24 rfl (by kernel_rfl) rfl rfl) rfl ?_
  refine wm_y 4 rfl (by kernel_rfl) (y_load1 rfl Try.underlying22 rfl (B1.get (i := 1) rfl)) rfl ?_
  refine wm_y 7 rfl (by kernel_rfl) (y_fieldAddr (o := 2) (s := 1) (off := 0) (o' := 2) rfl Try.underlying24 rfl (by kernel_rfl) rfl rfl) rfl ?_
  refine wm_y 8 rfl (by kernel_rfl) (y_load1 rfl Try.underlying22 rfl (B1.get (i := 2) rfl)) rfl ?_
  refine wm_y 10 rfl (by kernel_rfl) (y_fieldAddr (o := 3) (s := 1) (off := 0) (o' := 3) rfl Try.underlying24 rfl (by kernel_rfl) rfl rfl) rfl ?_
  refine wm_y 11 rfl (by kernel_rfl) (Y.as (y_load1 rfl Try.underlying5 rfl (B1.get (i := 3) rfl)) (src_byte hs)) rfl ?_
  refine wm_two 2 12 (by kernel_rfl) ?_ ?_
  · skip
    refine om_call rfl Try.func51 rfl rfl rfl (rv_any (Bs.ext b0 E) (by omega)) rfl ?_
    rintro e w2 ⟨A2, k2, c2, rfl, R2, hk2, ex⟩
    refine ⟨_, rfl, .inr ex, ?_⟩
    replace E := E.ext ex
    replace B1 := B1.ext ex
    skip
    refine wm_two 5 12 (by kernel_rfl) ?_ ?_
    · skip
      refine om_call rfl Try.func51 rfl rfl rfl (rv_any (Bs.ext b1 E) (by omega)) rfl ?_
      rintro e w3 ⟨A3, k3, c3, rfl, R3, hk3, ex⟩
      refine ⟨_, rfl, .inr ex, ?_⟩
      replace E := E.ext ex
      replace B1 := B1.ext ex
      replace R2 := R2.ext ex
      skip
      refine wm_two 6 12 (by kernel_rfl) ?_ ?_
      · skip
        refine om_call rfl Try.func150 rfl rfl rfl (jn16_any R2.bs R3.bs (by omega) (by omega)) rfl ?_
        rintro e w4 ⟨A4, c4, rfl, R4, ex⟩
        refine ⟨_, rfl, .inr ex, ?_⟩
        replace E := E.ext ex
        replace B1 := B1.ext ex
        replace R2 := R2.ext ex
        replace R3 := R3.ext ex
        skip
        refine wm_two 9 12 (by kernel_rfl) ?_ ?_
        · skip
          refine om_call rfl Try.func51 rfl rfl rfl (rv_any (Bs.ext b2 E) (by omega)) rfl ?_
          rintro e w5 ⟨A5, k5, c5, rfl, R5, hk5, ex⟩
          refine ⟨_, rfl, .inr ex, ?_⟩
          replace E := E.ext ex
          replace B1 := B1.ext ex
          replace R4 := R4.ext ex
          skip
          refine wm_one 12 (by kernel_rfl) ?_; refine om_ef rfl (ef_lit (z := .int .u8 0) Try.underlying22 (by kernel_rfl) rfl rfl rfl rfl rfl) rfl ?_
          rintro _ w6 ⟨g6, rfl, B6, hg6, ex⟩
          refine ⟨.inr ex, ?_⟩
          replace E := E.ext ex
          replace B1 := B1.ext ex
          replace R4 := R4.ext ex
          replace R5 := R5.ext ex
          have H6 := bs_blk' (xs := [UInt8.ofNat l.src]) (B6.congr (by rfl)) rfl
          refine wm_one 13 (by kernel_rfl) ?_; refine om_call rfl Try.func150 rfl rfl rfl (jn16_any R5.bs H6 (by omega) (by omega)) rfl ?_
          rintro e w7 ⟨A7, c7, rfl, R7, ex⟩
          refine ⟨_, rfl, .inr ex, ?_⟩
          replace E := E.ext ex
          replace B1 := B1.ext ex
          replace R4 := R4.ext ex
          replace R5 := R5.ext ex
          replace H6 := H6.ext ex
          skip
          have hz14 := E.size
          refine wm_one 14 (by kernel_rfl) ?_; refine om_call rfl Try.func150 rfl rfl rfl (jn16_any R4.bs R7.bs (by omega) (by omega)) rfl ?_
          rintro e w8 ⟨A8, c8, rfl, R8, ex⟩
          refine ⟨_, rfl, .inr ex, ?_⟩
          replace E := E.ext ex
          replace B1 := B1.ext ex
          replace R4 := R4.ext ex
          replace R7 := R7.ext ex
          replace R8 := R8.lower hz14
          refine wm_y 15 rfl (by kernel_rfl) (y_assign rfl) rfl ?_
          refine wm_done (by kernel_rfl) ?_
          refine wq_nop ?_
          refine wq_then_norm (hK2 ?_)
          refine wc_seq ?_; intro K3 hK3
          refine wc_seq ?_; intro K4 hK4
          refine wc_region ?_
          refine wl_y (y_fieldAddr (o := 3) (s := 1) (off := 0) (o' := 3) rfl Try.underlying24 rfl (by kernel_rfl) rfl rfl) rfl ?_
          refine wl_y (y_load1 rfl Try.underlying5 rfl (B1.get (i := 3) rfl)) rfl ?_
          refine wl_y (y_eql rfl rfl) rfl ?_
          refine wl_nil ?_
          refine wq_then_norm (hK4 ?_)
          refine wc_dec rfl (fun hc1 => ?_) (fun hc1 => ?_)
          · skip
            refine wc_region ?_
            refine wl_y (y_move rfl) rfl ?_
            refine wl_y (y_fieldAddr (o := 4) (s := 1) (off := 0) (o' := 4) rfl Try.underlying24 rfl (by kernel_rfl) rfl rfl) rfl ?_
            refine wl_y (y_load1 rfl Try.underlying22 rfl (B1.get (i := 4) rfl)) rfl ?_
            refine wl_call Try.func51 rfl rfl rfl (rv_any (Bs.ext b4 E) (by omega)) rfl ?_
            rintro e w9 ⟨A9, k9, c9, rfl, R9, hk9, ex⟩
            refine ⟨_, rfl, ?_⟩
            replace E := E.ext ex
            replace B1 := B1.ext ex
            replace R8 := R8.ext ex
            skip
            have hz34 := E.size
            refine wl_call Try.func150 rfl rfl rfl (jn16_any R8.bs R9.bs (by omega) (by omega)) rfl ?_
            rintro e w10 ⟨A10, c10, rfl, R10, ex⟩
            refine ⟨_, rfl, ?_⟩
            replace E := E.ext ex
            replace B1 := B1.ext ex
            replace R8 := R8.ext ex
            replace R9 := R9.ext ex
            skip
            refine wl_y (y_assign rfl) rfl ?_
            refine wl_nil ?_
            refine wq_then_norm (hK3 ?_)
            refine wc_seq ?_; intro K5 hK5
            refine wc_region ?_
            refine wl_y (y_move rfl) rfl ?_
            refine wl_y (y_assign rfl) rfl ?_
            refine wl_nil ?_
            refine wq_then_norm (hK5 ?_)
            refine wc_ret ?_
            refine hret rfl ?_
            exact ⟨A10, _, c10, rfl, (R10.lower hz34).congr rfl (by unfold leafU; rw [if_pos (by omega)]; simp only [List.append_assoc]), E⟩
          · skip
            refine wc_skip ?_
            refine wq_then_norm (hK3 ?_)
            refine wc_seq ?_; intro K6 hK6
            refine wc_region ?_
            refine wl_y (y_move rfl) rfl ?_
            refine wl_y (y_assign rfl) rfl ?_
            refine wl_nil ?_
            refine wq_then_norm (hK6 ?_)
            refine wc_ret ?_
            refine hret rfl ?_
            exact ⟨A8, _, c8, rfl, R8.congr rfl (by unfold leafU; rw [if_neg (by omega)]; simp only [List.append_assoc, List.append_nil]), E⟩
        · skip
          refine om_ef rfl (ef_lit (z := .int .u8 0) Try.underlying22 (by kernel_rfl) rfl rfl rfl rfl rfl) rfl ?_
          rintro _ w6 ⟨g6, rfl, B6, hg6, ex⟩
          refine ⟨.inr ex, ?_⟩
          replace E := E.ext ex
          replace B1 := B1.ext ex
          replace R4 := R4.ext ex
          have H6 := bs_blk' (xs := [UInt8.ofNat l.src]) (B6.congr (by rfl)) rfl
          refine wm_one 9 (by kernel_rfl) ?_; refine om_call rfl Try.func51 rfl rfl rfl (rv_any (Bs.ext b2 E) (by omega)) rfl ?_
          rintro e w5 ⟨A5, k5, c5, rfl, R5, hk5, ex⟩
          refine ⟨_, rfl, .inr ex, ?_⟩
          replace E := E.ext ex
          replace B1 := B1.ext ex
          replace R4 := R4.ext ex
          replace H6 := H6.ext ex
          skip
          refine wm_one 13 (by kernel_rfl) ?_; refine om_call rfl Try.func150 rfl rfl rfl (jn16_any R5.bs H6 (by omega) (by omega)) rfl ?_
          rintro e w7 ⟨A7, c7, rfl, R7, ex⟩
          refine ⟨_, rfl, .inr ex, ?_⟩
          replace E := E.ext ex
          replace B1 := B1.ext ex
          replace R4 := R4.ext ex
          replace H6 := H6.ext ex
          replace R5 := R5.ext ex
          skip
          have hz14 := E.size
          refine wm_one 14 (by kernel_rfl) ?_; refine om_call rfl Try.func150 rfl rfl rfl (jn16_any R4.bs R7.bs (by omega) (by omega)) rfl ?_
          rintro e w8 ⟨A8, c8, rfl, R8, ex⟩
          refine ⟨_, rfl, .inr ex, ?_⟩
          replace E := E.ext ex
          replace B1 := B1.ext ex
          replace R4 := R4.ext ex
          replace R7 := R7.ext ex
          replace R8 := R8.lower hz14
          refine wm_y 15 rfl (by kernel_rfl) (y_assign rfl) rfl ?_
          refine wm_done (by kernel_rfl) ?_
          refine wq_nop ?_
          refine wq_then_norm (hK2 ?_)
          refine wc_seq ?_; intro K7 hK7
          refine wc_seq ?_; intro K8 hK8
          refine wc_region ?_
          refine wl_y (y_fieldAddr (o := 3) (s := 1) (off := 0) (o' := 3) rfl Try.underlying24 rfl (by kernel_rfl) rfl rfl) rfl ?_
          refine wl_y (y_load1 rfl Try.underlying5 rfl (B1.get (i := 3) rfl)) rfl ?_
          refine wl_y (y_eql rfl rfl) rfl ?_
          refine wl_nil ?_
          refine wq_then_norm (hK8 ?_)
          refine wc_dec rfl (fun hc1 => ?_) (fun hc1 => ?_)
          · skip
            refine wc_region ?_
            refine wl_y (y_move rfl) rfl ?_
            refine wl_y (y_fieldAddr (o := 4) (s := 1) (off := 0) (o' := 4) rfl Try.underlying24 rfl (by kernel_rfl) rfl rfl) rfl ?_
            refine wl_y (y_load1 rfl Try.underlying22 rfl (B1.get (i := 4) rfl)) rfl ?_
            refine wl_call Try.func51 rfl rfl rfl (rv_any (Bs.ext b4 E) (by omega)) rfl ?_
            rintro e w9 ⟨A9, k9, c9, rfl, R9, hk9, ex⟩
            refine ⟨_, rfl, ?_⟩
            replace E := E.ext ex
            replace B1 := B1.ext ex
            replace R8 := R8.ext ex
            skip
            have hz34 := E.size
            refine wl_call Try.func150 rfl rfl rfl (jn16_any R8.bs R9.bs (by omega) (by omega)) rfl ?_
            rintro e w10 ⟨A10, c10, rfl, R10, ex⟩
            refine ⟨_, rfl, ?_⟩
            replace E := E.ext ex
            replace B1 := B1.ext ex
            replace R8 := R8.ext ex
            replace R9 := R9.ext ex
            skip
            refine wl_y (y_assign rfl) rfl ?_
            refine wl_nil ?_
            refine wq_then_norm (hK7 ?_)
            refine wc_seq ?_; intro K9 hK9
            refine wc_region ?_
            refine wl_y (y_move rfl) rfl ?_
            refine wl_y (y_assign rfl) rfl ?_
            refine wl_nil ?_
            refine wq_then_norm (hK9 ?_)
            refine wc_ret ?_
            refine hret rfl ?_
            exact ⟨A10, _, c10, rfl, (R10.lower hz34).congr rfl (by unfold leafU; rw [if_pos (by omega)]; simp only [List.append_assoc]), E⟩
          · skip
            refine wc_skip ?_
            refine wq_then_norm (hK7 ?_)
            refine wc_seq ?_; intro K10 hK10
            refine wc_region ?_
            refine wl_y (y_move rfl) rfl ?_
            refine wl_y (y_assign rfl) rfl ?_
            refine wl_nil ?_
            refine wq_then_norm (hK10 ?_)
            refine wc_ret ?_
            refine hret rfl ?_
            exact ⟨A8, _, c8, rfl, R8.congr rfl (by unfold leafU; rw [if_neg (by omega)]; simp only [List.append_assoc, List.append_nil]), E⟩
      · skip
        refine om_ef rfl (ef_lit (z := .int .u8 0) Try.underlying22 (by kernel_rfl) rfl rfl rfl rfl rfl) rfl ?_
        rintro _ w6 ⟨g6, rfl, B6, hg6, ex⟩
        refine ⟨.inr ex, ?_⟩
        replace E := E.ext ex
        replace B1 := B1.ext ex
        replace R2 := R2.ext ex
        replace R3 := R3.ext ex
        have H6 := bs_blk' (xs := [UInt8.ofNat l.src]) (B6.congr (by rfl)) rfl
        refine wm_one 6 (by kernel_rfl) ?_; refine om_call rfl Try.func150 rfl rfl rfl (jn16_any R2.bs R3.bs (by omega) (by omega)) rfl ?_
        rintro e w4 ⟨A4, c4, rfl, R4, ex⟩
        refine ⟨_, rfl, .inr ex, ?_⟩
        replace E := E.ext ex
        replace B1 := B1.ext ex
        replace R2 := R2.ext ex
        replace R3 := R3.ext ex
        replace H6 := H6.ext ex
        skip
        refine wm_one 9 (by kernel_rfl) ?_; refine om_call rfl Try.func51 rfl rfl rfl (rv_any (Bs.ext b2 E) (by omega)) rfl ?_
        rintro e w5 ⟨A5, k5, c5, rfl, R5, hk5, ex⟩
        refine ⟨_, rfl, .inr ex, ?_⟩
        replace E := E.ext ex
        replace B1 := B1.ext ex
        replace H6 := H6.ext ex
        replace R4 := R4.ext ex
        skip
        refine wm_one 13 (by kernel_rfl) ?_; refine om_call rfl Try.func150 rfl rfl rfl (jn16_any R5.bs H6 (by omega) (by omega)) rfl ?_
        rintro e w7 ⟨A7, c7, rfl, R7, ex⟩
        refine ⟨_, rfl, .inr ex, ?_⟩
        replace E := E.ext ex
        replace B1 := B1.ext ex
        replace H6 := H6.ext ex
        replace R4 := R4.ext ex
        replace R5 := R5.ext ex
        skip
        have hz14 := E.size
        refine wm_one 14 (by kernel_rfl) ?_; refine om_call rfl Try.func150 rfl rfl rfl (jn16_any R4.bs R7.bs (by omega) (by omega)) rfl ?_
        rintro e w8 ⟨A8, c8, rfl, R8, ex⟩
        refine ⟨_, rfl, .inr ex, ?_⟩
        replace E := E.ext ex
        replace B1 := B1.ext ex
        replace R4 := R4.ext ex
        replace R7 := R7.ext ex
        replace R8 := R8.lower hz14
        refine wm_y 15 rfl (by kernel_rfl) (y_assign rfl) rfl ?_
        refine wm_done (by kernel_rfl) ?_
        refine wq_nop ?_
        refine wq_then_norm (hK2 ?_)
        refine wc_seq ?_; intro K11 hK11
        refine wc_seq ?_; intro K12 hK12
        refine wc_region ?_
        refine wl_y (y_fieldAddr (o := 3) (s := 1) (off := 0) (o' := 3) rfl Try.underlying24 rfl (by kernel_rfl) rfl rfl) rfl ?_
        refine wl_y (y_load1 rfl Try.underlying5 rfl (B1.get (i := 3) rfl)) rfl ?_
        refine wl_y (y_eql rfl rfl) rfl ?_
        refine wl_nil ?_
        refine wq_then_norm (hK12 ?_)
        refine wc_dec rfl (fun hc1 => ?_) (fun hc1 => ?_)
        · skip
          refine wc_region ?_
          refine wl_y (y_move rfl) rfl ?_
          refine wl_y (y_fieldAddr (o := 4) (s := 1) (off := 0) (o' := 4) rfl Try.underlying24 rfl (by kernel_rfl) rfl rfl) rfl ?_
          refine wl_y (y_load1 rfl Try.underlying22 rfl (B1.get (i := 4) rfl)) rfl ?_
          refine wl_call Try.func51 rfl rfl rfl (rv_any (Bs.ext b4 E) (by omega)) rfl ?_
          rintro e w9 ⟨A9, k9, c9, rfl, R9, hk9, ex⟩
          refine ⟨_, rfl, ?_⟩
          replace E := E.ext ex
          replace B1 := B1.ext ex
          replace R8 := R8.ext ex
          skip
          have hz34 := E.size
          refine wl_call Try.func150 rfl rfl rfl (jn16_any R8.bs R9.bs (by omega) (by omega)) rfl ?_
          rintro e w10 ⟨A10, c10, rfl, R10, ex⟩
          refine ⟨_, rfl, ?_⟩
          replace E := E.ext ex
          replace B1 := B1.ext ex
          replace R8 := R8.ext ex
          replace R9 := R9.ext ex
          skip
          refine wl_y (y_assign rfl) rfl ?_
          refine wl_nil ?_
          refine wq_then_norm (hK11 ?_)
          refine wc_seq ?_; intro K13 hK13
          refine wc_region ?_
          refine wl_y (y_move rfl) rfl ?_
          refine wl_y (y_assign rfl) rfl ?_
          refine wl_nil ?_
          refine wq_then_norm (hK13 ?_)
          refine wc_ret ?_
          refine hret rfl ?_
          exact ⟨A10, _, c10, rfl, (R10.lower hz34).congr rfl (by unfold leafU; rw [if_pos (by omega)]; simp only [List.append_assoc]), E⟩
        · skip
          refine wc_skip ?_
          refine wq_then_norm (hK11 ?_)
          refine wc_seq ?_; intro K14 hK14
          refine wc_region ?_
          refine wl_y (y_move rfl) rfl ?_
          refine wl_y (y_assign rfl) rfl ?_
          refine wl_nil ?_
          refine wq_then_norm (hK14 ?_)
          refine wc_ret ?_
          refine hret rfl ?_
          exact ⟨A8, _, c8, rfl, R8.congr rfl (by unfold leafU; rw [if_neg (by omega)]; simp only [List.append_assoc, List.append_nil]), E⟩
    · skip
      refine om_ef rfl (ef_lit (z := .int .u8 0) Try.underlying22 (by kernel_rfl) rfl rfl rfl rfl rfl) rfl ?_
      rintro _ w6 ⟨g6, rfl, B6, hg6, ex⟩
      refine ⟨.inr ex, ?_⟩
      replace E := E.ext ex
      replace B1 := B1.ext ex
      replace R2 := R2.ext ex
      have H6 := bs_blk' (xs := [UInt8.ofNat l.src]) (B6.congr (by rfl)) rfl
      refine wm_one 5 (by kernel_rfl) ?_; refine om_call rfl Try.func51 rfl rfl rfl (rv_any (Bs.ext b1 E) (by omega)) rfl ?_
      rintro e w3 ⟨A3, k3, c3, rfl, R3, hk3, ex⟩
      refine ⟨_, rfl, .inr ex, ?_⟩
      replace E := E.ext ex
      replace B1 := B1.ext ex
      replace R2 := R2.ext ex
      replace H6 := H6.ext ex
      skip
      refine wm_one 6 (by kernel_rfl) ?_; refine om_call rfl Try.func150 rfl rfl rfl (jn16_any R2.bs R3.bs (by omega) (by omega)) rfl ?_
      rintro e w4 ⟨A4, c4, rfl, R4, ex⟩
      refine ⟨_, rfl, .inr ex, ?_⟩
      replace E := E.ext ex
      replace B1 := B1.ext ex
      replace R2 := R2.ext ex
      replace H6 := H6.ext ex
      replace R3 := R3.ext ex
      skip
      refine wm_one 9 (by kernel_rfl) ?_; refine om_call rfl Try.func51 rfl rfl rfl (rv_any (Bs.ext b2 E) (by omega)) rfl ?_
      rintro e w5 ⟨A5, k5, c5, rfl, R5, hk5, ex⟩
      refine ⟨_, rfl, .inr ex, ?_⟩
      replace E := E.ext ex
      replace B1 := B1.ext ex
      replace H6 := H6.ext ex
      replace R4 := R4.ext ex
      skip
      refine wm_one 13 (by kernel_rfl) ?_; refine om_call rfl Try.func150 rfl rfl rfl (jn16_any R5.bs H6 (by omega) (by omega)) rfl ?_
      rintro e w7 ⟨A7, c7, rfl, R7, ex⟩
      refine ⟨_, rfl, .inr ex, ?_⟩
      replace E := E.ext ex
      replace B1 := B1.ext ex
      replace H6 := H6.ext ex
      replace R4 := R4.ext ex
      replace R5 := R5.ext ex
      skip
      have hz14 := E.size
      refine wm_one 14 (by kernel_rfl) ?_; refine om_call rfl Try.func150 rfl rfl rfl (jn16_any R4.bs R7.bs (by omega) (by omega)) rfl ?_
      rintro e w8 ⟨A8, c8, rfl, R8, ex⟩
      refine ⟨_, rfl, .inr ex, ?_⟩
      replace E := E.ext ex
      replace B1 := B1.ext ex
      replace R4 := R4.ext ex
      replace R7 := R7.ext ex
      replace R8 := R8.lower hz14
      refine wm_y 15 rfl (by kernel_rfl) (y_assign rfl) rfl ?_
      refine wm_done (by kernel_rfl) ?_
      refine wq_nop ?_
      refine wq_then_norm (hK2 ?_)
      refine wc_seq ?_; intro K15 hK15
      refine wc_seq ?_; intro K16 hK16
      refine wc_region ?_
      refine wl_y (y_fieldAddr (o := 3) (s := 1) (off := 0) (o' := 3) rfl Try.underlying24 rfl (by kernel_rfl) rfl rfl) rfl ?_
      refine wl_y (y_load1 rfl Try.underlying5 rfl (B1.get (i := 3) rfl)) rfl ?_
      refine wl_y (y_eql rfl rfl) rfl ?_
      refine wl_nil ?_
      refine wq_then_norm (hK16 ?_)
      refine wc_dec rfl (fun hc1 => ?_) (fun hc1 => ?_)
      · skip
        refine wc_region ?_
        refine wl_y (y_move rfl) rfl ?_
        refine wl_y (y_fieldAddr (o := 4) (s := 1) (off := 0) (o' := 4) rfl Try.underlying24 rfl (by kernel_rfl) rfl rfl) rfl ?_
        refine wl_y (y_load1 rfl Try.underlying22 rfl (B1.get (i := 4) rfl)) rfl ?_
        refine wl_call Try.func51 rfl rfl rfl (rv_any (Bs.ext b4 E) (by omega)) rfl ?_
        rintro e w9 ⟨A9, k9, c9, rfl, R9, hk9, ex⟩
        refine ⟨_, rfl, ?_⟩
        replace E := E.ext ex
        replace B1 := B1.ext ex
        replace R8 := R8.ext ex
        skip
        have hz34 := E.size
        refine wl_call Try.func150 rfl rfl rfl (jn16_any R8.bs R9.bs (by omega) (by omega)) rfl ?_
        rintro e w10 ⟨A10, c10, rfl, R10, ex⟩
        refine ⟨_, rfl, ?_⟩
        replace E := E.ext ex
        replace B1 := B1.ext ex
        replace R8 := R8.ext ex
        replace R9 := R9.ext ex
        skip
        refine wl_y (y_assign rfl) rfl ?_
        refine wl_nil ?_
        refine wq_then_norm (hK15 ?_)
        refine wc_seq ?_; intro K17 hK17
        refine wc_region ?_
        refine wl_y (y_move rfl) rfl ?_
        refine wl_y (y_assign rfl) rfl ?_
        refine wl_nil ?_
        refine wq_then_norm (hK17 ?_)
        refine wc_ret ?_
        refine hret rfl ?_
        exact ⟨A10, _, c10, rfl, (R10.lower hz34).congr rfl (by unfold leafU; rw [if_pos (by omega)]; simp only [List.append_assoc]), E⟩
      · skip
        refine wc_skip ?_
        refine wq_then_norm (hK15 ?_)
        refine wc_seq ?_; intro K18 hK18
        refine wc_region ?_
        refine wl_y (y_move rfl) rfl ?_
        refine wl_y (y_assign rfl) rfl ?_
        refine wl_nil ?_
        refine wq_then_norm (hK18 ?_)
        refine wc_ret ?_
        refine hret rfl ?_
        exact ⟨A8, _, c8, rfl, R8.congr rfl (by unfold leafU; rw [if_neg (by omega)]; simp only [List.append_assoc, List.append_nil]), E⟩
  · skip
    refine om_ef rfl (ef_lit (z := .int .u8 0) Try.underlying22 (by kernel_rfl) rfl rfl rfl rfl rfl) rfl ?_
    rintro _ w6 ⟨g6, rfl, B6, hg6, ex⟩
    refine ⟨.inr ex, ?_⟩
    replace E := E.ext ex
    replace B1 := B1.ext ex
    have H6 := bs_blk' (xs := [UInt8.ofNat l.src]) (B6.congr (by rfl)) rfl
    refine wm_one 2 (by kernel_rfl) ?_; refine om_call rfl Try.func51 rfl rfl rfl (rv_any (Bs.ext b0 E) (by omega)) rfl ?_
    rintro e w2 ⟨A2, k2, c2, rfl, R2, hk2, ex⟩
    refine ⟨_, rfl, .inr ex, ?_⟩
    replace E := E.ext ex
    replace B1 := B1.ext ex
    replace H6 := H6.ext ex
    skip
    refine wm_one 5 (by kernel_rfl) ?_; refine om_call rfl Try.func51 rfl rfl rfl (rv_any (Bs.ext b1 E) (by omega)) rfl ?_
    rintro e w3 ⟨A3, k3, c3, rfl, R3, hk3, ex⟩
    refine ⟨_, rfl, .inr ex, ?_⟩
    replace E := E.ext ex
    replace B1 := B1.ext ex
    replace H6 := H6.ext ex
    replace R2 := R2.ext ex
    skip
    refine wm_one 6 (by kernel_rfl) ?_; refine om_call rfl Try.func150 rfl rfl rfl (jn16_any R2.bs R3.bs (by omega) (by omega)) rfl ?_
    rintro e w4 ⟨A4, c4, rfl, R4, ex⟩
    refine ⟨_, rfl, .inr ex, ?_⟩
    replace E := E.ext ex
    replace B1 := B1.ext ex
    replace H6 := H6.ext ex
    replace R2 := R2.ext ex
    replace R3 := R3.ext ex
    skip
    refine wm_one 9 (by kernel_rfl) ?_; refine om_call rfl Try.func51 rfl rfl rfl (rv_any (Bs.ext b2 E) (by omega)) rfl ?_
    rintro e w5 ⟨A5, k5, c5, rfl, R5, hk5, ex⟩
    refine ⟨_, rfl, .inr ex, ?_⟩
    replace E := E.ext ex
    replace B1 := B1.ext ex
    replace H6 := H6.ext ex
    replace R4 := R4.ext ex
    skip
    refine wm_one 13 (by kernel_rfl) ?_; refine om_call rfl Try.func150 rfl rfl rfl (jn16_any R5.bs H6 (by omega) (by omega)) rfl ?_
    rintro e w7 ⟨A7, c7, rfl, R7, ex⟩
    refine ⟨_, rfl, .inr ex, ?_⟩
    replace E := E.ext ex
    replace B1 := B1.ext ex
    replace H6 := H6.ext ex
    replace R4 := R4.ext ex
    replace R5 := R5.ext ex
    skip
    have hz14 := E.size
    refine wm_one 14 (by kernel_rfl) ?_; refine om_call rfl Try.func150 rfl rfl rfl (jn16_any R4.bs R7.bs (by omega) (by omega)) rfl ?_
    rintro e w8 ⟨A8, c8, rfl, R8, ex⟩
    refine ⟨_, rfl, .inr ex, ?_⟩
    replace E := E.ext ex
    replace B1 := B1.ext ex
    replace R4 := R4.ext ex
    replace R7 := R7.ext ex
    replace R8 := R8.lower hz14
    refine wm_y 15 rfl (by kernel_rfl) (y_assign rfl) rfl ?_
    refine wm_done (by kernel_rfl) ?_
    refine wq_nop ?_
    refine wq_then_norm (hK2 ?_)
    refine wc_seq ?_; intro K19 hK19
    refine wc_seq ?_; intro K20 hK20
    refine wc_region ?_
    refine wl_y (y_fieldAddr (o := 3) (s := 1) (off := 0) (o' := 3) rfl Try.underlying24 rfl (by kernel_rfl) rfl rfl) rfl ?_
    refine wl_y (y_load1 rfl Try.underlying5 rfl (B1.get (i := 3) rfl)) rfl ?_
    refine wl_y (y_eql rfl rfl) rfl ?_
    refine wl_nil ?_
    refine wq_then_norm (hK20 ?_)
    refine wc_dec rfl (fun hc1 => ?_) (fun hc1 => ?_)
    · skip
      refine wc_region ?_
      refine wl_y (y_move rfl) rfl ?_
      refine wl_y (y_fieldAddr (o := 4) (s := 1) (off := 0) (o' := 4) rfl Try.underlying24 rfl (by kernel_rfl) rfl rfl) rfl ?_
      refine wl_y (y_load1 rfl Try.underlying22 rfl (B1.get (i := 4) rfl)) rfl ?_
      refine wl_call Try.func51 rfl rfl rfl (rv_any (Bs.ext b4 E) (by omega)) rfl ?_
      rintro e w9 ⟨A9, k9, c9, rfl, R9, hk9, ex⟩
      refine ⟨_, rfl, ?_⟩
      replace E := E.ext ex
      replace B1 := B1.ext ex
      replace R8 := R8.ext ex
      skip
      have hz34 := E.size
      refine wl_call Try.func150 rfl rfl rfl (jn16_any R8.bs R9.bs (by omega) (by omega)) rfl ?_
      rintro e w10 ⟨A10, c10, rfl, R10, ex⟩
      refine ⟨_, rfl, ?_⟩
      replace E := E.ext ex
      replace B1 := B1.ext ex
      replace R8 := R8.ext ex
      replace R9 := R9.ext ex
      skip
      refine wl_y (y_assign rfl) rfl ?_
      refine wl_nil ?_
      refine wq_then_norm (hK19 ?_)
      refine wc_seq ?_; intro K21 hK21
      refine wc_region ?_
      refine wl_y (y_move rfl) rfl ?_
      refine wl_y (y_assign rfl) rfl ?_
      refine wl_nil ?_
      refine wq_then_norm (hK21 ?_)
      refine wc_ret ?_
      refine hret rfl ?_
      exact ⟨A10, _, c10, rfl, (R10.lower hz34).congr rfl (by unfold leafU; rw [if_pos (by omega)]; simp only [List.append_assoc]), E⟩
    · skip
      refine wc_skip ?_
      refine wq_then_norm (hK19 ?_)
      refine wc_seq ?_; intro K22 hK22
      refine wc_region ?_
      refine wl_y (y_move rfl) rfl ?_
      refine wl_y (y_assign rfl) rfl ?_
      refine wl_nil ?_
      refine wq_then_norm (hK22 ?_)
      refine wc_ret ?_
      refine hret rfl ?_
      exact ⟨A8, _, c8, rfl, R8.congr rfl (by unfold leafU; rw [if_neg (by omega)]; simp only [List.append_assoc, List.append_nil]), E⟩
theorem rleafBytes_any {cs : Array Value} {l : Leaf} (w : World) (H : LeafAt w cs l) (hf : l.Fit) :
    Calls Try.prog 77 #[.agg cs] w fun e w' => ∃ A' k c', e = .returned (.slice A' k c') ∧ Row w' w.heap.size 5 A' k c' ((leafB l).map bv) ∧ Ext w w' := by
  have HH := H
  have hU := leafU_le hf
  obtain ⟨h0, h1, h2, h4, h5, rfl, hs, b0, b1, b2, b4, b5⟩ := H
  have l5 := b5.1
  have f5 := hf.2.2.2.2
  have E := Ext.refl w
  refine vc_enter1 9 Try.func77 rfl rfl rfl rfl ?_
  intro Q hret
  refine wc_seq ?_; intro K1 hK1
  refine wc_region ?_
  refine wl_ef (ef_box rfl rfl) rfl ?_
  rintro _ wB1 ⟨gB1, rfl, B1, hgB1, ex⟩
  have lB1 := B1.lt; have zB1 := ex.size
  replace E := E.ext ex
  refine wl_y (y_assign rfl) rfl ?_
  refine wl_nil ?_
  refine wq_then_norm (hK1 ?_)
  refine wc_seq ?_; intro K2 hK2
  refine wc_draw (by kernel_rfl) 7 rfl ?_; intro wd1 ex hd1
  replace E := E.ext ex
  replace B1 := B1.ext ex
  refine wm_y 0 rfl (by kernel_rfl) (y_loadx (o := 0) (s := 6) rfl Try.underlying24 rfl (by kernel_rfl) B1 rfl) rfl ?_
  refine wm_y 2 rfl (by kernel_rfl) (y_fieldAddr (o := 5) (s := 1) (off := 0) (o' := 5) rfl Try.underlying24 rfl (by kernel_rfl) rfl rfl) rfl ?_
  refine wm_y 3 rfl (by kernel_rfl) (y_load1 rfl Try.underlying22 rfl (B1.get (i := 5) rfl)) rfl ?_
  refine wm_one 1 (by kernel_rfl) ?_; refine om_call rfl Try.func151 rfl rfl rfl (ahead_any _ (HH.ext E) hf) rfl ?_
  rintro e w2 ⟨A2, k2, c2, rfl, R2, ex⟩
  refine ⟨_, rfl, .inr ex, ?_⟩
  replace E := E.ext ex
  replace B1 := B1.ext ex
  have hk2 := R2.bs.1
  refine wm_one 4 (by kernel_rfl) ?_; refine om_call rfl Try.func51 rfl rfl rfl (rv_any (Bs.ext b5 E) (by omega)) rfl ?_
  rintro e w3 ⟨A3, k3, c3, rfl, R3, hk3, ex⟩
  refine ⟨_, rfl, .inr ex, ?_⟩
  replace E := E.ext ex
  replace B1 := B1.ext ex
  replace R2 := R2.ext ex
  skip
  have hz5 := E.size
  refine wm_one 5 (by kernel_rfl) ?_; refine om_call rfl Try.func150 rfl rfl rfl (jn16_any R2.bs R3.bs (by omega) (by omega)) rfl ?_
  rintro e w4 ⟨A4, c4, rfl, R4, ex⟩
  refine ⟨_, rfl, .inr ex, ?_⟩
  replace E := E.ext ex
  replace B1 := B1.ext ex
  replace R2 := R2.ext ex
  replace R3 := R3.ext ex
  skip
  refine wm_y 6 rfl (by kernel_rfl) (y_assign rfl) rfl ?_
  refine wm_done (by kernel_rfl) ?_
  refine wq_nop ?_
  refine wq_then_norm (hK2 ?_)
  refine wc_ret ?_
  refine hret rfl ?_
  exact ⟨A4, _, c4, rfl, R4.lower hz5, E⟩
end Go.Proofs.Ytpgalbgonmclaaa
