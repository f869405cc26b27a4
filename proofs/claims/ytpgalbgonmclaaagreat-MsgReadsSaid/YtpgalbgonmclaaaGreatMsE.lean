/- The bytes of proposals; the law MsgPackages. -/
import Derived.Test.YtpgalbgonmclaaaGreatMsD
namespace Go.Proofs.YtpgalbgonmclaaaGreat
open Go.RowKit
attribute [local irreducible] Y Ef WL WC WK WQ WM OpM WN WF OpN
open Nd Wire
section
variable {cs : Array Value} {q : Prop20} {g : Nat} {t : TypeId}
set_option maxHeartbeats 1000000 in
theorem proposal_any (w : World) (H : PropAt w cs q) (hf : q.Fit) (ok : okProp q) :
    Calls Tryz.prog 63 #[.agg cs] w fun e w' => ∃ A' k c', e = .returned (.slice A' k c') ∧ Row w' w.heap.size 5 A' k c' ((propB q).map bv) ∧ Ext w w' := by
  have HP := H.pack
  have HL := H.leaf
  have hl := packT_le hf.1
  have hl2 := leafB_le hf.2
  have h7 := hf.1.2.2
  obtain ⟨i, h0, h1, h2, h4, h5, gg, l0, l1, l2, l4, l5, rfl, hk, hs, ht, hz, a, b0, b1, b2, b4, b5, c, d0, d1, d2, d4, d5⟩ := H
  have lc := c.1
  have E := Ext.refl w
  refine vc_enter1 32 Tryz.func63 rfl rfl rfl rfl ?_
  intro Q hret
  refine wc_seq ?_; intro K1 hK1
  refine wc_region ?_
  refine wl_ef (ef_box rfl rfl) rfl ?_
  rintro _ wB1 ⟨gB1, rfl, B1, hgB1, ex⟩
  have lB1 := B1.lt; have zB1 := ex.size
  replace E := E.ext ex
  refine wl_y (y_assign rfl) rfl ?_
  refine wl_nil ?_
  refine wq_then_norm (hK1 ?_)
  refine wc_seq ?_; intro K2 hK2
  refine wc_region ?_
  refine wl_y (y_fieldAddr (o := 0) (s := 1) (off := 0) (o' := 0) rfl Tryz.underlying32 rfl (by kernel_rfl) rfl rfl) rfl ?_
  refine wl_y (Y.as (y_load1 rfl Tryz.underlying5 rfl (B1.get (i := 0) rfl)) (src_byte hk)) rfl ?_
  have hz1 := E.size
  refine wl_ef (ef_lit (z := .int .u8 0) Tryz.underlying22 (by kernel_rfl) rfl rfl rfl rfl rfl) rfl ?_
  rintro _ w2 ⟨g2, rfl, B2, hg2, ex⟩
  replace E := E.ext ex
  replace B1 := B1.ext ex
  have R2 : Row w2 w.heap.size 5 (some ⟨g2, 0, none⟩) 1 1 ([UInt8.ofNat q.kind].map bv) := Row.new (cs := #[bv (UInt8.ofNat q.kind)]) B2 (by omega) rfl (by show 1 ≤ maxLen; unfold maxLen; omega)
  refine wl_y (y_assign rfl) rfl ?_
  refine wl_nil ?_
  refine wq_then_norm (hK2 ?_)
  refine wc_seq ?_; intro K3 hK3
  refine wc_seq ?_; intro K4 hK4
  refine wc_region ?_
  refine wl_y (y_fieldAddr (o := 0) (s := 1) (off := 0) (o' := 0) rfl Tryz.underlying32 rfl (by kernel_rfl) rfl rfl) rfl ?_
  refine wl_y (y_load1 rfl Tryz.underlying5 rfl (B1.get (i := 0) rfl)) rfl ?_
  refine wl_nil ?_
  refine wq_then_norm (hK4 ?_)
  refine wc_block ?_
  refine wc_seq ?_; intro K5 hK5
  refine wc_region ?_
  refine wl_yask (y_eql rfl rfl) rfl (fun k1 => ?_) (fun k1 => ?_)
  · skip
    refine wl_y (y_assign rfl) rfl ?_
    refine wl_nil ?_
    refine wq_then_norm (hK5 ?_)
    refine wc_true rfl rfl ?_
    refine wc_seq ?_; intro K6 hK6
    have okp : okPack q.pack := by rcases ok with h | h | h <;> first | exact h.2.1 | (exfalso; omega)
    refine wc_draw (by kernel_rfl) 10 rfl ?_; intro wd4 ex hd4
    replace E := E.ext ex
    replace B1 := B1.ext ex
    replace R2 := R2.ext ex
    refine wm_z 0 rfl (by kernel_rfl) (fun _ => y_move rfl) rfl ?_
    refine wm_z 1 rfl (by kernel_rfl) (fun _ => y_fieldAddr (o := 1) (s := 8) (off := 0) (o' := 1) rfl Tryz.underlying32 rfl (by kernel_rfl) rfl rfl) rfl ?_
    refine wm_y 2 rfl (by kernel_rfl) (y_loadx (o := 1) (s := 8) rfl Tryz.underlying27 rfl (by kernel_rfl) B1 rfl) rfl ?_
    refine wm_z 4 rfl (by kernel_rfl) (fun _ => y_fieldAddr (o := 1) (s := 8) (off := 0) (o' := 1) rfl Tryz.underlying32 rfl (by kernel_rfl) rfl rfl) rfl ?_
    refine wm_z 5 rfl (by kernel_rfl) (fun _ => y_fieldAddr (o := 7) (s := 1) (off := 1) (o' := 8) rfl Tryz.underlying27 rfl (by kernel_rfl) rfl rfl) rfl ?_
    refine wm_y 6 rfl (by kernel_rfl) (y_load1 rfl Tryz.underlying22 rfl (B1.get (i := 8) rfl)) rfl ?_
    refine wm_one 3 (by kernel_rfl) ?_; refine om_call rfl Tryz.func77 rfl rfl rfl (packText_any _ (HP.ext E) hf.1 okp) rfl ?_
    rintro e w3 ⟨A3, k3, c3, rfl, R3, ex⟩
    refine ⟨_, rfl, .inr ex, ?_⟩
    replace E := E.ext ex
    replace B1 := B1.ext ex
    replace R2 := R2.ext ex
    have hk3 := R3.bs.1
    refine wm_one 7 (by kernel_rfl) ?_; refine om_call rfl Tryz.func68 rfl rfl rfl (mvec_any A3 gg.A k3 c3 gg.n gg.c _ _ _ R3.bs (by omega) (Bs.ext c E) (by omega)) rfl ?_
    rintro e w4 ⟨A4, k4, c4, rfl, R4, hk4, ex⟩
    refine ⟨_, rfl, .inr ex, ?_⟩
    replace E := E.ext ex
    replace B1 := B1.ext ex
    replace R2 := R2.ext ex
    replace R3 := R3.ext ex
    have hl4 := lsz_le gg.n
    have hz8 := E.size
    refine wm_one 8 (by kernel_rfl) ?_; refine om_ef rfl (ef_app rfl rfl eltB R2 R4.at R4.len (by intro u hu; exact bv_one u hu) (by omega) (by omega) hz8) rfl ?_
    rintro _ w5 ⟨A5, c5, rfl, R5, be, gr, hl5⟩
    refine ⟨.inl rfl, ?_⟩
    replace E := E.trans be; have R6 := R5.cat
    refine wm_y 9 rfl (by kernel_rfl) (y_assign rfl) rfl ?_
    refine wm_done (by kernel_rfl) ?_
    refine wq_nop ?_
    refine wq_then_norm (hK6 ?_)
    refine wc_ret ?_
    refine wq_blk_ret ?_
    refine wq_then_ret ?_
    refine hret rfl ?_
    exact ⟨A5, _, c5, rfl, R6.congr rfl (by unfold propB packB; rw [if_pos (by omega)]; rfl), E⟩
  · skip
    refine wl_y (y_assign rfl) rfl ?_
    refine wl_nil ?_
    refine wq_then_norm (hK5 ?_)
    refine wc_false rfl rfl ?_
    refine wc_seq ?_; intro K7 hK7
    refine wc_region ?_
    refine wl_yask (y_eql rfl rfl) rfl (fun k2 => ?_) (fun k2 => ?_)
    · skip
      refine wl_y (y_assign rfl) rfl ?_
      refine wl_nil ?_
      refine wq_then_norm (hK7 ?_)
      refine wc_true rfl rfl ?_
      refine wc_seq ?_; intro K8 hK8
      have okl : okLeaf q.leaf := by rcases ok with h | h | h <;> first | exact h.2.2.1.1 | (exfalso; omega)
      refine wc_region ?_
      refine wl_y (y_move rfl) rfl ?_
      refine wl_y (y_fieldAddr (o := 9) (s := 6) (off := 0) (o' := 9) rfl Tryz.underlying32 rfl (by kernel_rfl) rfl rfl) rfl ?_
      refine wl_y (y_loadx (o := 9) (s := 6) rfl Tryz.underlying25 rfl (by kernel_rfl) B1 rfl) rfl ?_
      refine wl_call Tryz.func108 rfl rfl rfl (leafBytes20_any _ (HL.ext E) hf.2 okl) rfl ?_
      rintro e w3 ⟨A3, k3, c3, rfl, R3, ex⟩
      refine ⟨_, rfl, ?_⟩
      replace E := E.ext ex
      replace B1 := B1.ext ex
      replace R2 := R2.ext ex
      have hk3 := R3.bs.1
      have hz8 := E.size
      refine wl_ef (ef_app rfl rfl eltB R2 R3.at R3.len (by intro u hu; exact bv_one u hu) (by omega) (by omega) hz8) rfl ?_
      rintro _ w5 ⟨A5, c5, rfl, R5, be, gr, hl5⟩
      replace E := E.trans be; have R6 := R5.cat
      refine wl_y (y_assign rfl) rfl ?_
      refine wl_nil ?_
      refine wq_then_norm (hK8 ?_)
      refine wc_ret ?_
      refine wq_blk_ret ?_
      refine wq_then_ret ?_
      refine hret rfl ?_
      exact ⟨A5, _, c5, rfl, R6.congr rfl (by unfold propB; rw [if_neg (by omega), if_pos (by omega)]; rfl), E⟩
    · skip
      refine wl_y (y_assign rfl) rfl ?_
      refine wl_nil ?_
      refine wq_then_norm (hK7 ?_)
      refine wc_false rfl rfl ?_
      refine wc_skip ?_
      refine wq_blk_norm ?_
      refine wq_then_norm (hK3 ?_)
      refine wc_seq ?_; intro K9 hK9
      have hat : 0 ≤ q.at_ ∧ q.at_ ≤ 65535 := by rcases ok with h | h | h <;> omega
      refine wc_region ?_
      refine wl_y (y_move rfl) rfl ?_
      refine wl_y (y_fieldAddr (o := 15) (s := 1) (off := 0) (o' := 15) rfl Tryz.underlying32 rfl (by kernel_rfl) rfl rfl) rfl ?_
      refine wl_y (y_load1 rfl Tryz.underlying3 rfl (B1.get (i := 15) rfl)) rfl ?_
      refine wl_y (y_conv rfl Tryz.underlying3 Tryz.underlying53 (show IntKind.u64.wrap q.at_ = ((q.at_.toNat : Nat) : Int) by rw [IntWalk.u64_in _ ⟨by omega, by omega⟩]; omega)) rfl ?_
      have hz8 := E.size
      refine wl_call Tryz.func69 rfl rfl rfl (mnum_any (some ⟨g2, 0, none⟩) 1 1 4 q.at_.toNat _ _ R2.bs (by omega) (by omega) (by omega)) rfl ?_
      rintro e w3 ⟨A3, c3, rfl, R3, ex⟩
      refine ⟨_, rfl, ?_⟩
      replace E := E.ext ex
      replace B1 := B1.ext ex
      replace R2 := R2.ext ex
      skip
      refine wl_y (y_assign rfl) rfl ?_
      refine wl_nil ?_
      refine wq_then_norm (hK9 ?_)
      refine wc_ret ?_
      refine hret rfl ?_
      exact ⟨A3, _, c3, rfl, (R3.lower hz8).congr rfl (by unfold propB; rw [if_neg (by omega), if_neg (by omega)]; rfl), E⟩
theorem proposalF (w : World) (B : Blk w g t cs) (H : PropAt w cs q) (hf : q.Fit) (ok : okProp q) :
    Calls Tryz.prog 62 #[.pointer (some ⟨g, 0, none⟩)] w fun e w' => ∃ A k c, e = .returned (.slice A k c) ∧ (Bs w' A k (propB q) ∧ k ≤ c) ∧ Ext w w' := by
  have HP := H
  obtain ⟨i, h0, h1, h2, h4, h5, gg, l0, l1, l2, l4, l5, rfl, _⟩ := H
  have E := Ext.refl w
  refine vc_enter1 4 Tryz.func62 rfl rfl rfl rfl ?_
  intro Q hret
  refine wc_seq ?_; intro K1 hK1
  refine wc_region ?_
  refine wl_y (y_assign rfl) rfl ?_
  refine wl_nil ?_
  refine wq_then_norm (hK1 ?_)
  refine wc_seq ?_; intro K2 hK2
  refine wc_region ?_
  refine wl_y (y_loadx (o := 0) (s := 16) rfl Tryz.underlying32 rfl (by kernel_rfl) B rfl) rfl ?_
  refine wl_call Tryz.func63 rfl rfl rfl (proposal_any _ (HP.ext E) hf ok) rfl ?_
  rintro e w2 ⟨A2, k2, c2, rfl, R2, ex⟩
  refine ⟨_, rfl, ?_⟩
  replace E := E.ext ex
  skip
  refine wl_y (y_assign rfl) rfl ?_
  refine wl_nil ?_
  refine wq_then_norm (hK2 ?_)
  refine wc_ret ?_
  refine hret rfl ?_
  exact ⟨A2, k2, c2, rfl, ⟨R2.bs, R2.cap⟩, E⟩
theorem ProposalBytes_any (w : World) (H : PropAt w cs q) (hf : q.Fit) :
    Calls Tryz.prog 22 #[.agg cs] w fun e w' => ∃ A k c z, e = .returned (.tuple #[.slice A k c, .int .u8 ((z : Nat) : Int)]) ∧ Told w' (okProp q) (propB q) A k z ∧ k ≤ c ∧ Ext w w' := by
  have HP := H
  obtain ⟨i, h0, h1, h2, h4, h5, gg, l0, l1, l2, l4, l5, rfl, _⟩ := H
  have E := Ext.refl w
  refine vc_enter2 10 Tryz.func22 rfl rfl rfl rfl ?_
  intro Q hret
  refine wc_seq ?_; intro K1 hK1
  refine wc_region ?_
  refine wl_ef (ef_box rfl rfl) rfl ?_
  rintro _ wB1 ⟨gB1, rfl, B1, hgB1, ex⟩
  have lB1 := B1.lt; have zB1 := ex.size
  replace E := E.ext ex
  refine wl_y (y_assign rfl) rfl ?_
  refine wl_y (y_assign rfl) rfl ?_
  refine wl_nil ?_
  refine wq_then_norm (hK1 ?_)
  refine wc_seq ?_; intro K2 hK2
  refine wc_region ?_
  refine wl_y (y_loadx (o := 0) (s := 16) rfl Tryz.underlying32 rfl (by kernel_rfl) B1 rfl) rfl ?_
  refine wl_call Tryz.func37 rfl rfl rfl (rightProp_any _ (HP.ext E) hf) rfl ?_
  rintro e w2 ⟨rfl, ex⟩
  refine ⟨_, rfl, ?_⟩
  replace E := E.ext ex
  replace B1 := B1.ext ex
  skip
  refine wl_y (y_func (xs := [.tmp 1]) (vs := [.pointer (some ⟨gB1, 0, none⟩)]) rfl) rfl ?_
  refine wl_call Tryz.func61 rfl rfl rfl (told_any (us := [.pointer (some ⟨gB1, 0, none⟩)]) (Ψ := fun w A k c => Bs w A k (propB q) ∧ k ≤ c) _ Tryz.func62 rfl rfl (fun hok w1 e1 => proposalF w1 (B1.ext e1) ((HP.ext E).ext e1) hf (of_decide_eq_true hok))) rfl ?_
  rintro e w3 ⟨A3, k3, c3, z3, rfl, T3, N3, ex⟩
  refine ⟨_, rfl, ?_⟩
  replace E := E.ext ex
  replace B1 := B1.ext ex
  skip
  refine wl_y (y_extract rfl rfl) rfl ?_
  refine wl_y (y_extract rfl rfl) rfl ?_
  refine wl_y (y_assign rfl) rfl ?_
  refine wl_y (y_assign rfl) rfl ?_
  refine wl_nil ?_
  refine wq_then_norm (hK2 ?_)
  refine wc_ret ?_
  refine hret rfl rfl ?_
  exact ⟨A3, k3, c3, z3, rfl, ⟨fun o => ⟨(T3 (decide_eq_true o)).1, (T3 (decide_eq_true o)).2.1⟩, fun o => ⟨(N3 (decide_eq_false o)).1, (N3 (decide_eq_false o)).2.2.1⟩⟩, (by by_cases o : okProp q; exact (T3 (decide_eq_true o)).2.2; have h := N3 (decide_eq_false o); omega), E⟩
end
def zPropV : Array Value := propV 0 nilH nilH nilH nilH 0 nilH nilH nilH nilH nilH nilH 0 nilH nilH 0
theorem alive20_any (w : World) : Calls Tryz.prog 6 #[] w fun e w' => e = .returned (.bool true) ∧ Ext w w' := by
  have E := Ext.refl w
  obtain ⟨q, hq⟩ : ∃ q : Prop20, q = ⟨3, Pack.zero, Leaf.zero, 5⟩ := ⟨_, rfl⟩
  have ok : okProp q := by rw [hq]; exact .inr (.inr ⟨rfl, ⟨rfl, rfl, rfl⟩, rfl, by decide⟩)
  have hb : propB q = [3, 0, 0, 0, 5] := by rw [hq]; decide
  have hf : q.Fit := by rw [hq]; exact ⟨⟨Nat.zero_le _, fit_zero, Nat.zero_le _⟩, fit_zero⟩
  have HQ : PropAt w (propV 3 nilH nilH nilH nilH 0 nilH nilH nilH nilH nilH nilH 0 nilH nilH 5) q := by
    rw [hq]
    exact ⟨nilH, nilH, nilH, nilH, nilH, nilH, nilH, nilH, nilH, nilH, nilH, nilH, rfl, by decide, by decide, by decide, by decide, Bs.nil _ _, Bs.nil _ _, Bs.nil _ _, Bs.nil _ _, Bs.nil _ _, Bs.nil _ _, Bs.nil _ _, Bs.nil _ _, Bs.nil _ _, Bs.nil _ _, Bs.nil _ _, Bs.nil _ _⟩
  refine vc_enter1 16 Tryz.func6 rfl rfl rfl rfl ?_
  intro Q hret
  refine wc_seq ?_; intro K1 hK1
  refine wc_region ?_
  refine wl_y (y_assign rfl) rfl ?_
  refine wl_nil ?_
  refine wq_then_norm (hK1 ?_)
  refine wc_seq ?_; intro K2 hK2
  refine wc_region ?_
  refine wl_y (y_build rfl (cells := propV 3 nilH nilH nilH nilH 0 nilH nilH nilH nilH nilH nilH 0 nilH nilH 5) (by kernel_rfl)) rfl ?_
  refine wl_call Tryz.func22 rfl rfl rfl (ProposalBytes_any _ (HQ.ext E) hf) rfl ?_
  rintro e w2 ⟨A2, k2, c2, z2, rfl, T2, hc2, ex⟩
  refine ⟨_, rfl, ?_⟩
  replace E := E.ext ex
  obtain ⟨rfl, H2⟩ := T2.1 ok; rw [hb] at H2
  refine wl_y (y_move rfl) rfl ?_
  refine wl_y (y_extract rfl rfl) rfl ?_
  refine wl_y (y_extract rfl rfl) rfl ?_
  refine wl_y (y_assign rfl) rfl ?_
  refine wl_y (y_assign rfl) rfl ?_
  refine wl_nil ?_
  refine wq_then_norm (hK2 ?_)
  refine wc_seq ?_; intro K3 hK3
  refine wc_region ?_
  refine wl_y (y_move rfl) rfl ?_
  refine wl_y (y_conv rfl Tryz.underlying28 Tryz.underlying3 (i64_ok (by omega) (by omega))) rfl ?_
  refine wl_y (y_eql rfl rfl) rfl ?_
  refine wl_y (Y.as (y_move rfl) (congrArg Value.bool (decide_eq_true (by omega)))) rfl ?_
  refine wl_gy 11 rfl rfl (y_move rfl) rfl ?_
  refine wl_gef 11 rfl rfl (ef_lit (z := .int .u8 0) Tryz.underlying22 (by kernel_rfl) rfl rfl rfl rfl rfl) rfl ?_
  rintro _ w3 ⟨g3, rfl, B3, hg3, ex⟩
  replace E := E.ext ex
  replace H2 := H2.ext ex
  have H3 := bs_blk' (xs := [(3 : UInt8), 0, 0, 0, 5]) (B3.congr (by rfl)) rfl
  have hk2 : k2 = 5 := H2.1.symm
  refine wl_gcall 11 rfl rfl Tryz.func28 rfl rfl rfl (sm_any H2 H3 (by omega) (by omega)) rfl ?_
  rintro e w4 ⟨rfl, ex⟩
  refine ⟨_, rfl, ?_⟩
  replace E := E.ext ex
  replace H2 := H2.ext ex
  replace H3 := H3.ext ex
  rw [decide_eq_true rfl]
  refine wl_y (y_pickt rfl rfl) rfl ?_
  refine wl_y (y_assign rfl) rfl ?_
  refine wl_nil ?_
  refine wq_then_norm (hK3 ?_)
  refine wc_ret ?_
  refine hret rfl ?_
  exact ⟨rfl, E⟩
end Go.Proofs.YtpgalbgonmclaaaGreat
