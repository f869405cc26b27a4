/- The reference's packages, proposals and commits of bytes; the law MsgParts. No conditions: contracts of functions. -/
import Derived.Test.YtpgalbgonmclaaaGreatMvB
namespace Go.Proofs.YtpgalbgonmclaaaGreat
open Go.RowKit
attribute [local irreducible] Y Ef WL WC WK WQ WM OpM WN WF OpN WJ OpJ
open Wire Nd M20
theorem rPackageOf_any {A : Option Addr} {n c : Nat} {b : List UInt8} (w : World) (HA : Bs w A n b) (hc : n ≤ c) (hn : n ≤ 10000) :
    Calls Tryz.prog 10 #[.slice A n c] w fun e w' => ∃ cs, e = .returned (.tuple #[.agg cs, .int .i64 (((packOf b).2 : Nat) : Int)]) ∧ PackS A n b cs (packOf b).1 ∧ Ext w w' := by
  have F := Chs.refl [] w
  have KA : Kp w.heap.size [] (fun w => Bs w A n b) w := Kp.bs HA (by simp)
  have hbl := HA.1
  have P := PlS.whole (A0 := A) (b0 := b) hc (by omega) hbl
  obtain ⟨p, hp⟩ : ∃ p, p = packX (.ok b) := ⟨_, rfl⟩
  have hO : packOf b = wholeX Pack.zero p (decide (okPack p.1)) := by rw [hp]; rfl
  have hft : p.1.Fit := by rw [hp]; exact pack_fit (by show b.length ≤ 10000; omega)
  refine vc_enterct (s := 8) 28 Tryz.func10 rfl rfl rfl Tryz.underlying27 rfl (by kernel_rfl) rfl ?_
  intro Q hret
  refine wc_seq ?_; intro K1 hK1
  refine wc_region ?_
  refine wl_ef (ef_alloc (Z := #[.slice none 0 0, .slice none 0 0, .slice none 0 0, .slice none 0 0, .int .u8 0, .slice none 0 0, .slice none 0 0, .slice none 0 0]) (by kernel_rfl)) rfl ?_
  rintro _ wB2 ⟨gB2, rfl, B2, hgB2, ex⟩
  have lB2 := B2.lt; have zB2 := ex.size
  replace F := F.grow ex hgB2
  replace KA := KA.grow ex hgB2
  refine wl_y (y_assign rfl) rfl ?_
  refine wl_nil ?_
  refine wq_then_norm (hK1 ?_)
  refine wc_seq ?_; intro K2 hK2
  refine wc_seq ?_; intro K3 hK3
  refine wc_region ?_
  refine wl_y (y_move rfl) rfl ?_
  refine wl_y (y_len_slice rfl Tryz.underlying22) rfl ?_
  refine wl_y (y_gtr rfl rfl) rfl ?_
  refine wl_nil ?_
  refine wq_then_norm (hK3 ?_)
  refine wc_no rfl (by omega) ?_
  refine wc_skip ?_
  refine wq_then_norm (hK2 ?_)
  refine wc_seq ?_; intro K4 hK4
  refine wc_region ?_
  refine wl_y (y_move rfl) rfl ?_
  refine wl_y (y_build rfl (cells := placeV A n c 0 0) (by kernel_rfl)) rfl ?_
  have q2 := B2.lt; have qF := F.size
  refine wl_call Tryz.func42 rfl rfl rfl (plpack_any _ KA.out P) rfl ?_
  rintro e w3 ⟨cl, cs3, rfl, HL, P, ex⟩
  refine ⟨_, rfl, ?_⟩
  replace F := F.ext ex
  replace KA := KA.ext ex
  replace B2 := B2.ext ex
  rw [← hp] at HL P; have HK := HL; obtain ⟨i0, i1, i2, i3, i4, i5, i6, rfl, _⟩ := HL; obtain ⟨A3, n3, c3, t3, e3, rfl, P⟩ := P.get
  refine wl_y (y_move rfl) rfl ?_
  refine wl_y (y_extract rfl rfl) rfl ?_
  refine wl_y (y_extract rfl rfl) rfl ?_
  refine wl_ef (ef_alloc (Z := #[.slice none 0 0, .slice none 0 0, .slice none 0 0, .slice none 0 0, .int .u8 0, .slice none 0 0, .slice none 0 0, .slice none 0 0]) (by kernel_rfl)) rfl ?_
  rintro _ wB4 ⟨gB4, rfl, B4, hgB4, ex⟩
  have lB4 := B4.lt; have zB4 := ex.size
  have nB2_4 : gB2 < gB4 := Nat.lt_of_lt_of_le B2.lt hgB4
  replace F := F.grow ex hgB4
  replace KA := KA.grow ex hgB4
  replace B2 := B2.grow ex hgB4
  refine wl_ef (ef_alloc (Z := #[.slice none 0 0, .int .i64 0, .int .i64 0]) (by kernel_rfl)) rfl ?_
  rintro _ wB5 ⟨gB5, rfl, B5, hgB5, ex⟩
  have lB5 := B5.lt; have zB5 := ex.size
  have nB2_5 : gB2 < gB5 := Nat.lt_of_lt_of_le B2.lt hgB5
  have nB4_5 : gB4 < gB5 := Nat.lt_of_lt_of_le B4.lt hgB5
  replace F := F.grow ex hgB5
  replace KA := KA.grow ex hgB5
  replace B2 := B2.grow ex hgB5
  replace B4 := B4.grow ex hgB5
  refine wl_ef (ef_storeP (o := 0) rfl rfl (by kernel_rfl) B4 (Nat.le_of_ble_eq_true rfl) (all_ones rfl)) rfl ?_
  rintro _ wS3_8 ⟨rfl, D, cg⟩
  have ex := Chs.one cg
  clear cg
  replace F := F.chs ex
  replace KA := KA.chs ex
  replace B2 := B2.chs ex
  replace B5 := B5.chs ex
  replace B4 := D; clear D
  replace B4 := B4.congr (cs' := packV i0 i1 i2 i3 p.1.leaf.src i4 i5 i6) rfl
  refine wl_ef (ef_storeP (o := 0) rfl rfl (by kernel_rfl) B5 (Nat.le_of_ble_eq_true rfl) (all_ones rfl)) rfl ?_
  rintro _ wS3_9 ⟨rfl, D, cg⟩
  have ex := Chs.one cg
  clear cg
  replace F := F.chs ex
  replace KA := KA.chs ex
  replace B2 := B2.chs ex
  replace B4 := B4.chs ex
  replace B5 := D; clear D
  replace B5 := B5.congr (cs' := placeV A3 n3 c3 t3 e3) rfl
  refine wl_nil ?_
  refine wq_then_norm (hK4 ?_)
  refine wc_seq ?_; intro K5 hK5
  refine wc_seq ?_; intro K6 hK6
  refine wc_region ?_
  refine wl_y (y_loadw rfl Tryz.underlying85 rfl (by kernel_rfl) B5) rfl ?_
  refine wl_call Tryz.func43 rfl rfl rfl (plend_any _ P) rfl ?_
  rintro e w4 ⟨rfl, ex⟩
  refine ⟨_, rfl, ?_⟩
  replace F := F.ext ex
  replace KA := KA.ext ex
  replace B2 := B2.ext ex
  replace B4 := B4.ext ex
  replace B5 := B5.ext ex
  skip
  refine wl_y (y_assign rfl) rfl ?_
  refine wl_nil ?_
  refine wq_then_norm (hK6 ?_)
  refine wc_seq ?_; intro K7 hK7
  refine wc_region ?_
  refine wl_y (y_move rfl) rfl ?_
  refine wl_y (y_neq rfl rfl) rfl ?_
  refine wl_nil ?_
  refine wq_then_norm (hK7 ?_)
  refine wc_dec rfl (fun hc2 => ?_) (fun hc2 => ?_)
  · skip
    refine wc_seq ?_; intro K8 hK8
    refine wc_region ?_
    refine wl_y (y_build rfl (cells := zPackV) (by kernel_rfl)) rfl ?_
    refine wl_y (y_move rfl) rfl ?_
    refine wl_ef (ef_storeP (o := 0) rfl rfl (by kernel_rfl) B2 (Nat.le_of_ble_eq_true rfl) (all_ones rfl)) rfl ?_
    rintro _ wS6_2 ⟨rfl, D, cg⟩
    have ex := Chs.one cg
    clear cg
    replace F := F.chs ex
    replace KA := KA.chs ex
    replace B4 := B4.chs ex
    replace B5 := B5.chs ex
    replace B2 := D; clear D
    replace B2 := B2.congr (cs' := zPackV) rfl
    refine wl_y (y_assign rfl) rfl ?_
    refine wl_nil ?_
    refine wq_then_norm (hK8 ?_)
    refine wc_ret ?_
    refine wq_then_ret ?_
    refine hret rfl rfl B2 rfl ?_
    rw [hO]; unfold wholeX; rw [if_pos (show endX p.2 ≠ 0 by omega)]; exact ⟨_, rfl, PackS.zero, ((F.drop (by omega)).drop (by omega)).drop (by omega) |>.toExt (by simp)⟩
  · skip
    refine wc_skip ?_
    refine wq_then_norm (hK5 ?_)
    refine wc_seq ?_; intro K9 hK9
    refine wc_seq ?_; intro K10 hK10
    refine wc_region ?_
    refine wl_y (y_loadw rfl Tryz.underlying27 rfl (by kernel_rfl) B4) rfl ?_
    refine wl_call Tryz.func44 rfl rfl rfl (rPack_any _ (HK.at KA.out)) rfl ?_
    rintro e w7 ⟨rfl, ex⟩
    refine ⟨_, rfl, ?_⟩
    replace F := F.ext ex
    replace KA := KA.ext ex
    replace B2 := B2.ext ex
    replace B4 := B4.ext ex
    replace B5 := B5.ext ex
    skip
    refine wl_y (y_not rfl) rfl ?_
    refine wl_nil ?_
    refine wq_then_norm (hK10 ?_)
    refine wc_cond rfl (fun hc3 => ?_) (fun hc3 => ?_)
    · skip
      refine wc_seq ?_; intro K11 hK11
      refine wc_region ?_
      refine wl_y (y_build rfl (cells := zPackV) (by kernel_rfl)) rfl ?_
      refine wl_ef (ef_storeP (o := 0) rfl rfl (by kernel_rfl) B2 (Nat.le_of_ble_eq_true rfl) (all_ones rfl)) rfl ?_
      rintro _ wS8_1 ⟨rfl, D, cg⟩
      have ex := Chs.one cg
      clear cg
      replace F := F.chs ex
      replace KA := KA.chs ex
      replace B4 := B4.chs ex
      replace B5 := B5.chs ex
      replace B2 := D; clear D
      replace B2 := B2.congr (cs' := zPackV) rfl
      refine wl_y (y_assign rfl) rfl ?_
      refine wl_nil ?_
      refine wq_then_norm (hK11 ?_)
      refine wc_ret ?_
      refine wq_then_ret ?_
      refine hret rfl rfl B2 rfl ?_
      rw [hO]; unfold wholeX; rw [if_neg (show ¬ endX p.2 ≠ 0 by omega), if_neg (by simpa using hc3)]; exact ⟨_, rfl, PackS.zero, ((F.drop (by omega)).drop (by omega)).drop (by omega) |>.toExt (by simp)⟩
    · skip
      refine wc_skip ?_
      refine wq_then_norm (hK9 ?_)
      refine wc_seq ?_; intro K12 hK12
      refine wc_region ?_
      refine wl_y (y_loadw rfl Tryz.underlying27 rfl (by kernel_rfl) B4) rfl ?_
      refine wl_ef (ef_storeP (o := 0) rfl rfl (by kernel_rfl) B2 (Nat.le_of_ble_eq_true rfl) (all_ones rfl)) rfl ?_
      rintro _ wS9_1 ⟨rfl, D, cg⟩
      have ex := Chs.one cg
      clear cg
      replace F := F.chs ex
      replace KA := KA.chs ex
      replace B4 := B4.chs ex
      replace B5 := B5.chs ex
      replace B2 := D; clear D
      replace B2 := B2.congr (cs' := packV i0 i1 i2 i3 p.1.leaf.src i4 i5 i6) rfl
      refine wl_y (y_assign rfl) rfl ?_
      refine wl_nil ?_
      refine wq_then_norm (hK12 ?_)
      refine wc_ret ?_
      refine hret rfl rfl B2 rfl ?_
      rw [hO]; unfold wholeX; rw [if_neg (show ¬ endX p.2 ≠ 0 by omega), if_pos (by simpa using hc3)]; exact ⟨_, rfl, HK, ((F.drop (by omega)).drop (by omega)).drop (by omega) |>.toExt (by simp)⟩
theorem rProposalOf_any {A : Option Addr} {n c : Nat} {b : List UInt8} (w : World) (HA : Bs w A n b) (hc : n ≤ c) (hn : n ≤ 10000) :
    Calls Tryz.prog 11 #[.slice A n c] w fun e w' => ∃ cs, e = .returned (.tuple #[.agg cs, .int .i64 (((propOf b).2 : Nat) : Int)]) ∧ PropS A n b cs (propOf b).1 ∧ Ext w w' := by
  have F := Chs.refl [] w
  have KA : Kp w.heap.size [] (fun w => Bs w A n b) w := Kp.bs HA (by simp)
  have hbl := HA.1
  have P := PlS.whole (A0 := A) (b0 := b) hc (by omega) hbl
  obtain ⟨p, hp⟩ : ∃ p, p = propX (.ok b) := ⟨_, rfl⟩
  have hO : propOf b = wholeX Prop20.zero p (decide (okProp p.1)) := by rw [hp]; rfl
  have hft : p.1.Fit := by rw [hp]; exact prop_fit (by show b.length ≤ 10000; omega)
  refine vc_enterct (s := 16) 28 Tryz.func11 rfl rfl rfl Tryz.underlying32 rfl (by kernel_rfl) rfl ?_
  intro Q hret
  refine wc_seq ?_; intro K1 hK1
  refine wc_region ?_
  refine wl_ef (ef_alloc (Z := #[.int .u8 0, .slice none 0 0, .slice none 0 0, .slice none 0 0, .slice none 0 0, .int .u8 0, .slice none 0 0, .slice none 0 0, .slice none 0 0, .slice none 0 0, .slice none 0 0, .slice none 0 0, .int .u8 0, .slice none 0 0, .slice none 0 0, .int .i64 0]) (by kernel_rfl)) rfl ?_
  rintro _ wB2 ⟨gB2, rfl, B2, hgB2, ex⟩
  have lB2 := B2.lt; have zB2 := ex.size
  replace F := F.grow ex hgB2
  replace KA := KA.grow ex hgB2
  refine wl_y (y_assign rfl) rfl ?_
  refine wl_nil ?_
  refine wq_then_norm (hK1 ?_)
  refine wc_seq ?_; intro K2 hK2
  refine wc_seq ?_; intro K3 hK3
  refine wc_region ?_
  refine wl_y (y_move rfl) rfl ?_
  refine wl_y (y_len_slice rfl Tryz.underlying22) rfl ?_
  refine wl_y (y_gtr rfl rfl) rfl ?_
  refine wl_nil ?_
  refine wq_then_norm (hK3 ?_)
  refine wc_no rfl (by omega) ?_
  refine wc_skip ?_
  refine wq_then_norm (hK2 ?_)
  refine wc_seq ?_; intro K4 hK4
  refine wc_region ?_
  refine wl_y (y_move rfl) rfl ?_
  refine wl_y (y_build rfl (cells := placeV A n c 0 0) (by kernel_rfl)) rfl ?_
  have q2 := B2.lt; have qF := F.size
  refine wl_call Tryz.func45 rfl rfl rfl (plprop_any _ KA.out P) rfl ?_
  rintro e w3 ⟨cl, cs3, rfl, HL, P, ex⟩
  refine ⟨_, rfl, ?_⟩
  replace F := F.ext ex
  replace KA := KA.ext ex
  replace B2 := B2.ext ex
  rw [← hp] at HL P; have HK := HL; obtain ⟨i0, i1, i2, i3, i4, i5, i6, i7, i8, i9, l0, l1, rfl, _⟩ := HL; obtain ⟨A3, n3, c3, t3, e3, rfl, P⟩ := P.get
  refine wl_y (y_move rfl) rfl ?_
  refine wl_y (y_extract rfl rfl) rfl ?_
  refine wl_y (y_extract rfl rfl) rfl ?_
  refine wl_ef (ef_alloc (Z := #[.int .u8 0, .slice none 0 0, .slice none 0 0, .slice none 0 0, .slice none 0 0, .int .u8 0, .slice none 0 0, .slice none 0 0, .slice none 0 0, .slice none 0 0, .slice none 0 0, .slice none 0 0, .int .u8 0, .slice none 0 0, .slice none 0 0, .int .i64 0]) (by kernel_rfl)) rfl ?_
  rintro _ wB4 ⟨gB4, rfl, B4, hgB4, ex⟩
  have lB4 := B4.lt; have zB4 := ex.size
  have nB2_4 : gB2 < gB4 := Nat.lt_of_lt_of_le B2.lt hgB4
  replace F := F.grow ex hgB4
  replace KA := KA.grow ex hgB4
  replace B2 := B2.grow ex hgB4
  refine wl_ef (ef_alloc (Z := #[.slice none 0 0, .int .i64 0, .int .i64 0]) (by kernel_rfl)) rfl ?_
  rintro _ wB5 ⟨gB5, rfl, B5, hgB5, ex⟩
  have lB5 := B5.lt; have zB5 := ex.size
  have nB2_5 : gB2 < gB5 := Nat.lt_of_lt_of_le B2.lt hgB5
  have nB4_5 : gB4 < gB5 := Nat.lt_of_lt_of_le B4.lt hgB5
  replace F := F.grow ex hgB5
  replace KA := KA.grow ex hgB5
  replace B2 := B2.grow ex hgB5
  replace B4 := B4.grow ex hgB5
  refine wl_ef (ef_storeP (o := 0) rfl rfl (by kernel_rfl) B4 (Nat.le_of_ble_eq_true rfl) (all_ones rfl)) rfl ?_
  rintro _ wS3_8 ⟨rfl, D, cg⟩
  have ex := Chs.one cg
  clear cg
  replace F := F.chs ex
  replace KA := KA.chs ex
  replace B2 := B2.chs ex
  replace B5 := B5.chs ex
  replace B4 := D; clear D
  replace B4 := B4.congr (cs' := propV p.1.kind i0 i1 i2 i3 p.1.pack.leaf.src i4 i5 i6 i7 i8 i9 p.1.leaf.src l0 l1 p.1.at_) rfl
  refine wl_ef (ef_storeP (o := 0) rfl rfl (by kernel_rfl) B5 (Nat.le_of_ble_eq_true rfl) (all_ones rfl)) rfl ?_
  rintro _ wS3_9 ⟨rfl, D, cg⟩
  have ex := Chs.one cg
  clear cg
  replace F := F.chs ex
  replace KA := KA.chs ex
  replace B2 := B2.chs ex
  replace B4 := B4.chs ex
  replace B5 := D; clear D
  replace B5 := B5.congr (cs' := placeV A3 n3 c3 t3 e3) rfl
  refine wl_nil ?_
  refine wq_then_norm (hK4 ?_)
  refine wc_seq ?_; intro K5 hK5
  refine wc_seq ?_; intro K6 hK6
  refine wc_region ?_
  refine wl_y (y_loadw rfl Tryz.underlying85 rfl (by kernel_rfl) B5) rfl ?_
  refine wl_call Tryz.func43 rfl rfl rfl (plend_any _ P) rfl ?_
  rintro e w4 ⟨rfl, ex⟩
  refine ⟨_, rfl, ?_⟩
  replace F := F.ext ex
  replace KA := KA.ext ex
  replace B2 := B2.ext ex
  replace B4 := B4.ext ex
  replace B5 := B5.ext ex
  skip
  refine wl_y (y_assign rfl) rfl ?_
  refine wl_nil ?_
  refine wq_then_norm (hK6 ?_)
  refine wc_seq ?_; intro K7 hK7
  refine wc_region ?_
  refine wl_y (y_move rfl) rfl ?_
  refine wl_y (y_neq rfl rfl) rfl ?_
  refine wl_nil ?_
  refine wq_then_norm (hK7 ?_)
  refine wc_dec rfl (fun hc2 => ?_) (fun hc2 => ?_)
  · skip
    refine wc_seq ?_; intro K8 hK8
    refine wc_region ?_
    refine wl_y (y_build rfl (cells := zPropV) (by kernel_rfl)) rfl ?_
    refine wl_y (y_move rfl) rfl ?_
    refine wl_ef (ef_storeP (o := 0) rfl rfl (by kernel_rfl) B2 (Nat.le_of_ble_eq_true rfl) (all_ones rfl)) rfl ?_
    rintro _ wS6_2 ⟨rfl, D, cg⟩
    have ex := Chs.one cg
    clear cg
    replace F := F.chs ex
    replace KA := KA.chs ex
    replace B4 := B4.chs ex
    replace B5 := B5.chs ex
    replace B2 := D; clear D
    replace B2 := B2.congr (cs' := zPropV) rfl
    refine wl_y (y_assign rfl) rfl ?_
    refine wl_nil ?_
    refine wq_then_norm (hK8 ?_)
    refine wc_ret ?_
    refine wq_then_ret ?_
    refine hret rfl rfl B2 rfl ?_
    rw [hO]; unfold wholeX; rw [if_pos (show endX p.2 ≠ 0 by omega)]; exact ⟨_, rfl, PropS.zero, ((F.drop (by omega)).drop (by omega)).drop (by omega) |>.toExt (by simp)⟩
  · skip
    refine wc_skip ?_
    refine wq_then_norm (hK5 ?_)
    refine wc_seq ?_; intro K9 hK9
    refine wc_seq ?_; intro K10 hK10
    refine wc_region ?_
    refine wl_y (y_loadw rfl Tryz.underlying32 rfl (by kernel_rfl) B4) rfl ?_
    refine wl_call Tryz.func46 rfl rfl rfl (rProp_any _ (HK.at KA.out) hft) rfl ?_
    rintro e w7 ⟨rfl, ex⟩
    refine ⟨_, rfl, ?_⟩
    replace F := F.ext ex
    replace KA := KA.ext ex
    replace B2 := B2.ext ex
    replace B4 := B4.ext ex
    replace B5 := B5.ext ex
    skip
    refine wl_y (y_not rfl) rfl ?_
    refine wl_nil ?_
    refine wq_then_norm (hK10 ?_)
    refine wc_cond rfl (fun hc3 => ?_) (fun hc3 => ?_)
    · skip
      refine wc_seq ?_; intro K11 hK11
      refine wc_region ?_
      refine wl_y (y_build rfl (cells := zPropV) (by kernel_rfl)) rfl ?_
      refine wl_ef (ef_storeP (o := 0) rfl rfl (by kernel_rfl) B2 (Nat.le_of_ble_eq_true rfl) (all_ones rfl)) rfl ?_
      rintro _ wS8_1 ⟨rfl, D, cg⟩
      have ex := Chs.one cg
      clear cg
      replace F := F.chs ex
      replace KA := KA.chs ex
      replace B4 := B4.chs ex
      replace B5 := B5.chs ex
      replace B2 := D; clear D
      replace B2 := B2.congr (cs' := zPropV) rfl
      refine wl_y (y_assign rfl) rfl ?_
      refine wl_nil ?_
      refine wq_then_norm (hK11 ?_)
      refine wc_ret ?_
      refine wq_then_ret ?_
      refine hret rfl rfl B2 rfl ?_
      rw [hO]; unfold wholeX; rw [if_neg (show ¬ endX p.2 ≠ 0 by omega), if_neg (by simpa using hc3)]; exact ⟨_, rfl, PropS.zero, ((F.drop (by omega)).drop (by omega)).drop (by omega) |>.toExt (by simp)⟩
    · skip
      refine wc_skip ?_
      refine wq_then_norm (hK9 ?_)
      refine wc_seq ?_; intro K12 hK12
      refine wc_region ?_
      refine wl_y (y_loadw rfl Tryz.underlying32 rfl (by kernel_rfl) B4) rfl ?_
      refine wl_ef (ef_storeP (o := 0) rfl rfl (by kernel_rfl) B2 (Nat.le_of_ble_eq_true rfl) (all_ones rfl)) rfl ?_
      rintro _ wS9_1 ⟨rfl, D, cg⟩
      have ex := Chs.one cg
      clear cg
      replace F := F.chs ex
      replace KA := KA.chs ex
      replace B4 := B4.chs ex
      replace B5 := B5.chs ex
      replace B2 := D; clear D
      replace B2 := B2.congr (cs' := propV p.1.kind i0 i1 i2 i3 p.1.pack.leaf.src i4 i5 i6 i7 i8 i9 p.1.leaf.src l0 l1 p.1.at_) rfl
      refine wl_y (y_assign rfl) rfl ?_
      refine wl_nil ?_
      refine wq_then_norm (hK12 ?_)
      refine wc_ret ?_
      refine hret rfl rfl B2 rfl ?_
      rw [hO]; unfold wholeX; rw [if_neg (show ¬ endX p.2 ≠ 0 by omega), if_pos (by simpa using hc3)]; exact ⟨_, rfl, HK, ((F.drop (by omega)).drop (by omega)).drop (by omega) |>.toExt (by simp)⟩
theorem rCommitOf_any {A : Option Addr} {n c : Nat} {b : List UInt8} (w : World) (HA : Bs w A n b) (hc : n ≤ c) (hn : n ≤ 10000) :
    Calls Tryz.prog 12 #[.slice A n c] w fun e w' => ∃ cs, e = .returned (.tuple #[.agg cs, .int .i64 (((comOf b).2 : Nat) : Int)]) ∧ ComR w.heap.size A n b w' cs (comOf b).1 ∧ Ext w w' := by
  have F := Chs.refl [] w
  have KA : Kp w.heap.size [] (fun w => Bs w A n b) w := Kp.bs HA (by simp)
  have hbl := HA.1
  have P := PlS.whole (A0 := A) (b0 := b) hc (by omega) hbl
  obtain ⟨p, hp⟩ : ∃ p, p = comX (.ok b) := ⟨_, rfl⟩
  have hO : comOf b = wholeX Com20.zero p (decide (okCom p.1)) := by rw [hp]; rfl
  have hft : p.1.Fit := by rw [hp]; exact com_fit (by show b.length ≤ 10000; omega)
  refine vc_enterct (s := 9) 28 Tryz.func12 rfl rfl rfl Tryz.underlying40 rfl (by kernel_rfl) rfl ?_
  intro Q hret
  refine wc_seq ?_; intro K1 hK1
  refine wc_region ?_
  refine wl_ef (ef_alloc (Z := #[.slice none 0 0, .bool false, .slice none 0 0, .slice none 0 0, .slice none 0 0, .int .u8 0, .slice none 0 0, .slice none 0 0, .slice none 0 0]) (by kernel_rfl)) rfl ?_
  rintro _ wB2 ⟨gB2, rfl, B2, hgB2, ex⟩
  have lB2 := B2.lt; have zB2 := ex.size
  replace F := F.grow ex hgB2
  replace KA := KA.grow ex hgB2
  refine wl_y (y_assign rfl) rfl ?_
  refine wl_nil ?_
  refine wq_then_norm (hK1 ?_)
  refine wc_seq ?_; intro K2 hK2
  refine wc_seq ?_; intro K3 hK3
  refine wc_region ?_
  refine wl_y (y_move rfl) rfl ?_
  refine wl_y (y_len_slice rfl Tryz.underlying22) rfl ?_
  refine wl_y (y_gtr rfl rfl) rfl ?_
  refine wl_nil ?_
  refine wq_then_norm (hK3 ?_)
  refine wc_no rfl (by omega) ?_
  refine wc_skip ?_
  refine wq_then_norm (hK2 ?_)
  refine wc_seq ?_; intro K4 hK4
  refine wc_region ?_
  refine wl_y (y_move rfl) rfl ?_
  refine wl_y (y_build rfl (cells := placeV A n c 0 0) (by kernel_rfl)) rfl ?_
  have q2 := B2.lt; have qF := F.size
  refine wl_call Tryz.func47 rfl rfl rfl (plcommit_any _ KA.out P) rfl ?_
  rintro e w3 ⟨cl, cs3, rfl, HL, P, ex⟩
  refine ⟨_, rfl, ?_⟩
  replace F := F.ext ex
  replace KA := KA.ext ex
  replace B2 := B2.ext ex
  rw [← hp] at HL P; have HK := HL.kk (S := [gB2]) (by simp; omega); obtain ⟨it, i0, i1, i2, iq, i4, i5, dt, rfl, _⟩ := HL; obtain ⟨A3, n3, c3, t3, e3, rfl, P⟩ := P.get
  refine wl_y (y_move rfl) rfl ?_
  refine wl_y (y_extract rfl rfl) rfl ?_
  refine wl_y (y_extract rfl rfl) rfl ?_
  refine wl_ef (ef_alloc (Z := #[.slice none 0 0, .bool false, .slice none 0 0, .slice none 0 0, .slice none 0 0, .int .u8 0, .slice none 0 0, .slice none 0 0, .slice none 0 0]) (by kernel_rfl)) rfl ?_
  rintro _ wB4 ⟨gB4, rfl, B4, hgB4, ex⟩
  have lB4 := B4.lt; have zB4 := ex.size
  have nB2_4 : gB2 < gB4 := Nat.lt_of_lt_of_le B2.lt hgB4
  replace F := F.grow ex hgB4
  replace KA := KA.grow ex hgB4
  replace B2 := B2.grow ex hgB4
  replace HK := HK.grow ex hgB4
  refine wl_ef (ef_alloc (Z := #[.slice none 0 0, .int .i64 0, .int .i64 0]) (by kernel_rfl)) rfl ?_
  rintro _ wB5 ⟨gB5, rfl, B5, hgB5, ex⟩
  have lB5 := B5.lt; have zB5 := ex.size
  have nB2_5 : gB2 < gB5 := Nat.lt_of_lt_of_le B2.lt hgB5
  have nB4_5 : gB4 < gB5 := Nat.lt_of_lt_of_le B4.lt hgB5
  replace F := F.grow ex hgB5
  replace KA := KA.grow ex hgB5
  replace B2 := B2.grow ex hgB5
  replace HK := HK.grow ex hgB5
  replace B4 := B4.grow ex hgB5
  refine wl_ef (ef_storeP (o := 0) rfl rfl (by kernel_rfl) B4 (Nat.le_of_ble_eq_true rfl) (all_ones rfl)) rfl ?_
  rintro _ wS3_8 ⟨rfl, D, cg⟩
  have ex := Chs.one cg
  clear cg
  replace F := F.chs ex
  replace KA := KA.chs ex
  replace B2 := B2.chs ex
  replace HK := HK.chs ex
  replace B5 := B5.chs ex
  replace B4 := D; clear D
  replace B4 := B4.congr (cs' := comV it p.1.has i0 i1 i2 iq i4 i5 dt) rfl
  refine wl_ef (ef_storeP (o := 0) rfl rfl (by kernel_rfl) B5 (Nat.le_of_ble_eq_true rfl) (all_ones rfl)) rfl ?_
  rintro _ wS3_9 ⟨rfl, D, cg⟩
  have ex := Chs.one cg
  clear cg
  replace F := F.chs ex
  replace KA := KA.chs ex
  replace B2 := B2.chs ex
  replace HK := HK.chs ex
  replace B4 := B4.chs ex
  replace B5 := D; clear D
  replace B5 := B5.congr (cs' := placeV A3 n3 c3 t3 e3) rfl
  refine wl_nil ?_
  refine wq_then_norm (hK4 ?_)
  refine wc_seq ?_; intro K5 hK5
  refine wc_seq ?_; intro K6 hK6
  refine wc_region ?_
  refine wl_y (y_loadw rfl Tryz.underlying85 rfl (by kernel_rfl) B5) rfl ?_
  refine wl_call Tryz.func43 rfl rfl rfl (plend_any _ P) rfl ?_
  rintro e w4 ⟨rfl, ex⟩
  refine ⟨_, rfl, ?_⟩
  replace F := F.ext ex
  replace KA := KA.ext ex
  replace B2 := B2.ext ex
  replace HK := HK.ext ex
  replace B4 := B4.ext ex
  replace B5 := B5.ext ex
  skip
  refine wl_y (y_assign rfl) rfl ?_
  refine wl_nil ?_
  refine wq_then_norm (hK6 ?_)
  refine wc_seq ?_; intro K7 hK7
  refine wc_region ?_
  refine wl_y (y_move rfl) rfl ?_
  refine wl_y (y_neq rfl rfl) rfl ?_
  refine wl_nil ?_
  refine wq_then_norm (hK7 ?_)
  refine wc_dec rfl (fun hc2 => ?_) (fun hc2 => ?_)
  · skip
    refine wc_seq ?_; intro K8 hK8
    refine wc_region ?_
    refine wl_y (y_build rfl (cells := zComV) (by kernel_rfl)) rfl ?_
    refine wl_y (y_move rfl) rfl ?_
    refine wl_ef (ef_storeP (o := 0) rfl rfl (by kernel_rfl) B2 (Nat.le_of_ble_eq_true rfl) (all_ones rfl)) rfl ?_
    rintro _ wS6_2 ⟨rfl, D, cg⟩
    have ex := Chs.one cg
    clear cg
    replace F := F.chs ex
    replace KA := KA.chs ex
    replace HK := HK.chs ex
    replace B4 := B4.chs ex
    replace B5 := B5.chs ex
    replace B2 := D; clear D
    replace B2 := B2.congr (cs' := zComV) rfl
    refine wl_y (y_assign rfl) rfl ?_
    refine wl_nil ?_
    refine wq_then_norm (hK8 ?_)
    refine wc_ret ?_
    refine wq_then_ret ?_
    refine hret rfl rfl B2 rfl ?_
    rw [hO]; unfold wholeX; rw [if_pos (show endX p.2 ≠ 0 by omega)]; exact ⟨_, rfl, ComR.zero _ _ _ _ _, ((F.drop (by omega)).drop (by omega)).drop (by omega) |>.toExt (by simp)⟩
  · skip
    refine wc_skip ?_
    refine wq_then_norm (hK5 ?_)
    refine wc_seq ?_; intro K9 hK9
    refine wc_seq ?_; intro K10 hK10
    refine wc_region ?_
    refine wl_y (y_loadw rfl Tryz.underlying40 rfl (by kernel_rfl) B4) rfl ?_
    refine wl_call Tryz.func48 rfl rfl rfl (rCommit20_any _ (HK.out.at KA.out) hft) rfl ?_
    rintro e w7 ⟨rfl, ex⟩
    refine ⟨_, rfl, ?_⟩
    replace F := F.ext ex
    replace KA := KA.ext ex
    replace B2 := B2.ext ex
    replace HK := HK.ext ex
    replace B4 := B4.ext ex
    replace B5 := B5.ext ex
    skip
    refine wl_y (y_not rfl) rfl ?_
    refine wl_nil ?_
    refine wq_then_norm (hK10 ?_)
    refine wc_cond rfl (fun hc3 => ?_) (fun hc3 => ?_)
    · skip
      refine wc_seq ?_; intro K11 hK11
      refine wc_region ?_
      refine wl_y (y_build rfl (cells := zComV) (by kernel_rfl)) rfl ?_
      refine wl_ef (ef_storeP (o := 0) rfl rfl (by kernel_rfl) B2 (Nat.le_of_ble_eq_true rfl) (all_ones rfl)) rfl ?_
      rintro _ wS8_1 ⟨rfl, D, cg⟩
      have ex := Chs.one cg
      clear cg
      replace F := F.chs ex
      replace KA := KA.chs ex
      replace HK := HK.chs ex
      replace B4 := B4.chs ex
      replace B5 := B5.chs ex
      replace B2 := D; clear D
      replace B2 := B2.congr (cs' := zComV) rfl
      refine wl_y (y_assign rfl) rfl ?_
      refine wl_nil ?_
      refine wq_then_norm (hK11 ?_)
      refine wc_ret ?_
      refine wq_then_ret ?_
      refine hret rfl rfl B2 rfl ?_
      rw [hO]; unfold wholeX; rw [if_neg (show ¬ endX p.2 ≠ 0 by omega), if_neg (by simpa using hc3)]; exact ⟨_, rfl, ComR.zero _ _ _ _ _, ((F.drop (by omega)).drop (by omega)).drop (by omega) |>.toExt (by simp)⟩
    · skip
      refine wc_skip ?_
      refine wq_then_norm (hK9 ?_)
      refine wc_seq ?_; intro K12 hK12
      refine wc_region ?_
      refine wl_y (y_loadw rfl Tryz.underlying40 rfl (by kernel_rfl) B4) rfl ?_
      refine wl_ef (ef_storeP (o := 0) rfl rfl (by kernel_rfl) B2 (Nat.le_of_ble_eq_true rfl) (all_ones rfl)) rfl ?_
      rintro _ wS9_1 ⟨rfl, D, cg⟩
      have ex := Chs.one cg
      clear cg
      replace F := F.chs ex
      replace KA := KA.chs ex
      replace HK := HK.chs ex
      replace B4 := B4.chs ex
      replace B5 := B5.chs ex
      replace B2 := D; clear D
      replace B2 := B2.congr (cs' := comV it p.1.has i0 i1 i2 iq i4 i5 dt) rfl
      refine wl_y (y_assign rfl) rfl ?_
      refine wl_nil ?_
      refine wq_then_norm (hK12 ?_)
      refine wc_ret ?_
      refine hret rfl rfl B2 rfl ?_
      rw [hO]; unfold wholeX; rw [if_neg (show ¬ endX p.2 ≠ 0 by omega), if_pos (by simpa using hc3)]; exact ⟨_, rfl, HK.out.mono (by omega), ((F.drop (by omega)).drop (by omega)).drop (by omega) |>.toExt (by simp)⟩
end Go.Proofs.YtpgalbgonmclaaaGreat
