/- The reference's bytes of proposals. -/
import Derived.Test.YtpgalbgonmclaaaMsE
namespace Go.Proofs.Ytpgalbgonmclaaa
open Go.RowKit
attribute [local irreducible] Y Ef WL WC WK WQ WM OpM WN WF OpN
open Nd Wire
/-- An int as 64 bits. -/
def w64 (z : Int) : Nat := (z % 18446744073709551616).toNat
theorem w64_wrap (z : Int) : IntKind.u64.wrap z = ((w64 z : Nat) : Int) := by
  have h : IntKind.u64.wrap z = z % 18446744073709551616 := by simp [IntKind.wrap, IntKind.bits, IntKind.signed]
  rw [h]; unfold w64; omega
theorem w64_lt (z : Int) : w64 z < 18446744073709551616 := by unfold w64; omega
/-- What the reference says of any proposal. -/
def rpropB (q : Prop20) : List UInt8 := if q.kind = 1 then 1 :: packB q.pack else if q.kind = 2 then 2 :: leafB q.leaf else 3 :: be 4 (w64 q.at_)
theorem rpropB_ok {q : Prop20} (ok : okProp q) : rpropB q = propB q := by
  unfold rpropB propB
  rcases ok with ⟨h, _⟩ | ⟨h, _⟩ | ⟨h, _, _, h1, h2⟩ <;> rw [h]
  · rfl
  · rfl
  · have e : w64 q.at_ = q.at_.toNat := by unfold w64; omega
    rw [e]; rfl
theorem rpropB_sm {q : Prop20} (h : q.Small) : (rpropB q).length ≤ 1700 := by
  have h1 := packB_sm h.1; have h2 := leafB_sm h.2
  have h4 : (be 4 (w64 q.at_)).length = 4 := be_length 4 _
  unfold rpropB
  split
  · rw [List.length_cons]; omega
  · split <;> rw [List.length_cons] <;> omega
section
variable {cs : Array Value} {q : Prop20}
theorem four20_any (z : Int) (w : World) : Calls Try.prog 78 #[.int .i64 z] w fun e w' => ∃ A' c', e = .returned (.slice A' 4 c') ∧ Row w' w.heap.size 5 A' 4 c' ((be 4 (w64 z)).map bv) ∧ Ext w w' := by
  refine vc_enter1 6 Try.func78 rfl rfl rfl rfl ?_
  intro Q hret
  refine wc_seq ?_; intro K1 hK1
  refine wc_region ?_
  refine wl_y (y_assign rfl) rfl ?_
  refine wl_nil ?_
  refine wq_then_norm (hK1 ?_)
  refine wc_seq ?_; intro K2 hK2
  refine wc_region ?_
  refine wl_y (y_move rfl) rfl ?_
  refine wl_y (y_conv rfl Try.underlying3 Try.underlying46 (w64_wrap z)) rfl ?_
  refine wl_call Try.func97 rfl rfl rfl (refNum_any 4 (w64 z) _ (by omega) (w64_lt z)) rfl ?_
  rintro e w1 ⟨A1, c1, rfl, R1, ex⟩
  refine ⟨_, rfl, ?_⟩
  skip
  refine wl_y (y_assign rfl) rfl ?_
  refine wl_nil ?_
  refine wq_then_norm (hK2 ?_)
  refine wc_ret ?_
  refine hret rfl ?_
  exact ⟨A1, c1, rfl, R1, ex⟩
theorem rpropBytes_any (w : World) (H : PropAt w cs q) (hs' : q.Small) :
    Calls Try.prog 17 #[.agg cs] w fun e w' => ∃ A' k c', e = .returned (.slice A' k c') ∧ Row w' w.heap.size 5 A' k c' ((rpropB q).map bv) ∧ Ext w w' := by
  have HP := H.pack
  have HL := H.leaf
  have hf := hs'.fit
  have hl := packB_sm hs'.1
  have hl2 := leafB_sm hs'.2
  obtain ⟨i, h0, h1, h2, h4, h5, gg, l0, l1, l2, l4, l5, rfl, hk, hs, ht, hz, a, b0, b1, b2, b4, b5, c, d0, d1, d2, d4, d5⟩ := H
  have E := Ext.refl w
  refine vc_enter1 24 Try.func17 rfl rfl rfl rfl ?_
  intro Q hret
  refine wc_seq ?_; intro K1 hK1
  refine wc_region ?_
  refine wl_ef (ef_box rfl rfl) rfl ?_
  rintro _ wB1 ⟨gB1, rfl, B1, hgB1, ex⟩
  have lB1 := B1.lt; have zB1 := ex.size
  replace E := E.ext ex
  refine wl_y (y_assign rfl) rfl ?_
  refine wl_nil ?_
  refine wq_then_norm (hK1 ?_)
  refine wc_seq ?_; intro K2 hK2
  refine wc_seq ?_; intro K3 hK3
  refine wc_region ?_
  refine wl_y (y_fieldAddr (o := 0) (s := 1) (off := 0) (o' := 0) rfl Try.underlying28 rfl (by kernel_rfl) rfl rfl) rfl ?_
  refine wl_y (y_load1 rfl Try.underlying5 rfl (B1.get (i := 0) rfl)) rfl ?_
  refine wl_y (y_eql rfl rfl) rfl ?_
  refine wl_nil ?_
  refine wq_then_norm (hK3 ?_)
  refine wc_dec rfl (fun hc1 => ?_) (fun hc1 => ?_)
  · skip
    refine wc_seq ?_; intro K4 hK4
    refine wc_region ?_
    refine wl_ef (ef_lit (z := .int .u8 0) Try.underlying22 (by kernel_rfl) rfl rfl rfl rfl rfl) rfl ?_
    rintro _ w2 ⟨g2, rfl, B2, hg2, ex⟩
    replace E := E.ext ex
    replace B1 := B1.ext ex
    have H2 := bs_blk' (xs := [(1 : UInt8)]) (B2.congr (by rfl)) rfl
    refine wl_y (y_fieldAddr (o := 1) (s := 8) (off := 0) (o' := 1) rfl Try.underlying28 rfl (by kernel_rfl) rfl rfl) rfl ?_
    refine wl_y (y_loadx (o := 1) (s := 8) rfl Try.underlying26 rfl (by kernel_rfl) B1 rfl) rfl ?_
    refine wl_call Try.func42 rfl rfl rfl (rpackBytes_any _ (HP.ext E) hs'.1) rfl ?_
    rintro e w3 ⟨A3, k3, c3, rfl, R3, ex⟩
    refine ⟨_, rfl, ?_⟩
    replace E := E.ext ex
    replace B1 := B1.ext ex
    replace H2 := H2.ext ex
    have hk3 := R3.bs.1
    have hz4 := E.size
    refine wl_call Try.func76 rfl rfl rfl (join20_any _ A3 _ _ k3 c3 _ _ _ H2 (by omega) R3.bs (by omega)) rfl ?_
    rintro e w4 ⟨A4, c4, rfl, R4, ex⟩
    refine ⟨_, rfl, ?_⟩
    replace E := E.ext ex
    replace B1 := B1.ext ex
    replace H2 := H2.ext ex
    replace R3 := R3.ext ex
    skip
    refine wl_y (y_assign rfl) rfl ?_
    refine wl_nil ?_
    refine wq_then_norm (hK4 ?_)
    refine wc_ret ?_
    refine wq_then_ret ?_
    refine hret rfl ?_
    exact ⟨A4, _, c4, rfl, (R4.lower hz4).congr rfl (by unfold rpropB; rw [if_pos (by omega)]; rfl), E⟩
  · skip
    refine wc_skip ?_
    refine wq_then_norm (hK2 ?_)
    refine wc_seq ?_; intro K5 hK5
    refine wc_seq ?_; intro K6 hK6
    refine wc_region ?_
    refine wl_y (y_fieldAddr (o := 0) (s := 1) (off := 0) (o' := 0) rfl Try.underlying28 rfl (by kernel_rfl) rfl rfl) rfl ?_
    refine wl_y (y_load1 rfl Try.underlying5 rfl (B1.get (i := 0) rfl)) rfl ?_
    refine wl_y (y_eql rfl rfl) rfl ?_
    refine wl_nil ?_
    refine wq_then_norm (hK6 ?_)
    refine wc_dec rfl (fun hc2 => ?_) (fun hc2 => ?_)
    · skip
      refine wc_seq ?_; intro K7 hK7
      refine wc_region ?_
      refine wl_ef (ef_lit (z := .int .u8 0) Try.underlying22 (by kernel_rfl) rfl rfl rfl rfl rfl) rfl ?_
      rintro _ w2 ⟨g2, rfl, B2, hg2, ex⟩
      replace E := E.ext ex
      replace B1 := B1.ext ex
      have H2 := bs_blk' (xs := [(2 : UInt8)]) (B2.congr (by rfl)) rfl
      refine wl_y (y_fieldAddr (o := 9) (s := 6) (off := 0) (o' := 9) rfl Try.underlying28 rfl (by kernel_rfl) rfl rfl) rfl ?_
      refine wl_y (y_loadx (o := 9) (s := 6) rfl Try.underlying24 rfl (by kernel_rfl) B1 rfl) rfl ?_
      refine wl_call Try.func77 rfl rfl rfl (rleafBytes_any _ (HL.ext E) hf.2) rfl ?_
      rintro e w3 ⟨A3, k3, c3, rfl, R3, ex⟩
      refine ⟨_, rfl, ?_⟩
      replace E := E.ext ex
      replace B1 := B1.ext ex
      replace H2 := H2.ext ex
      have hk3 := R3.bs.1
      have hz4 := E.size
      refine wl_call Try.func76 rfl rfl rfl (join20_any _ A3 _ _ k3 c3 _ _ _ H2 (by omega) R3.bs (by omega)) rfl ?_
      rintro e w4 ⟨A4, c4, rfl, R4, ex⟩
      refine ⟨_, rfl, ?_⟩
      replace E := E.ext ex
      replace B1 := B1.ext ex
      replace H2 := H2.ext ex
      replace R3 := R3.ext ex
      skip
      refine wl_y (y_assign rfl) rfl ?_
      refine wl_nil ?_
      refine wq_then_norm (hK7 ?_)
      refine wc_ret ?_
      refine wq_then_ret ?_
      refine hret rfl ?_
      exact ⟨A4, _, c4, rfl, (R4.lower hz4).congr rfl (by unfold rpropB; rw [if_neg (by omega), if_pos (by omega)]; rfl), E⟩
    · skip
      refine wc_skip ?_
      refine wq_then_norm (hK5 ?_)
      refine wc_seq ?_; intro K8 hK8
      refine wc_region ?_
      refine wl_ef (ef_lit (z := .int .u8 0) Try.underlying22 (by kernel_rfl) rfl rfl rfl rfl rfl) rfl ?_
      rintro _ w2 ⟨g2, rfl, B2, hg2, ex⟩
      replace E := E.ext ex
      replace B1 := B1.ext ex
      have H2 := bs_blk' (xs := [(3 : UInt8)]) (B2.congr (by rfl)) rfl
      refine wl_y (y_fieldAddr (o := 15) (s := 1) (off := 0) (o' := 15) rfl Try.underlying28 rfl (by kernel_rfl) rfl rfl) rfl ?_
      refine wl_y (y_load1 rfl Try.underlying3 rfl (B1.get (i := 15) rfl)) rfl ?_
      refine wl_call Try.func78 rfl rfl rfl (four20_any q.at_ _) rfl ?_
      rintro e w3 ⟨A3, c3, rfl, R3, ex⟩
      refine ⟨_, rfl, ?_⟩
      replace E := E.ext ex
      replace B1 := B1.ext ex
      replace H2 := H2.ext ex
      skip
      have hz4 := E.size
      refine wl_call Try.func76 rfl rfl rfl (join20_any _ A3 _ _ 4 c3 _ _ _ H2 (by omega) R3.bs (by omega)) rfl ?_
      rintro e w4 ⟨A4, c4, rfl, R4, ex⟩
      refine ⟨_, rfl, ?_⟩
      replace E := E.ext ex
      replace B1 := B1.ext ex
      replace H2 := H2.ext ex
      replace R3 := R3.ext ex
      skip
      refine wl_y (y_assign rfl) rfl ?_
      refine wl_nil ?_
      refine wq_then_norm (hK8 ?_)
      refine wc_ret ?_
      refine hret rfl ?_
      exact ⟨A4, _, c4, rfl, (R4.lower hz4).congr rfl (by unfold rpropB; rw [if_neg (by omega), if_neg (by omega)]; rfl), E⟩
end
end Go.Proofs.Ytpgalbgonmclaaa
