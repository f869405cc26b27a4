/- welcome.Open where nothing is for a package, or it may not be; the layer is alive; the law WelcomeSigns. No conditions: contracts of functions. -/
import Derived.Test.YtjllhimhiekchaaGreatRowE
namespace Go.Proofs.YtjllhimhiekchaaGreat
open Go.RowKit
attribute [local irreducible] Y Ef WL WC WK WQ WM OpM WN WF OpN WJ OpJ WG OpG WLr
open Wire Nd Hk
theorem wopen_bad {cs ds es : Array Value} {p : Pack} (w : World) (h3 : cs.size = 2) (HP : PackAt w ds p) (hp : p.Small) (hno : ¬ okPack p) (h5 : es.size = 3) :
  Calls Tryz.prog 13 #[.agg cs, .agg ds, .agg es] w fun e w' => e = .returned (.tuple #[.agg zGotV, .int .u8 3]) ∧ Ext w w' := by
 have HP' := HP
 obtain ⟨i, p0, p1, p2, p4, p5, pg, rfl, hsrc, _⟩ := HP'
 have F := Chs.refl [] w
 refine vc_enterct (s := 20) 108 Tryz.func13 rfl rfl rfl Tryz.underlying46 rfl (by kernel_rfl) rfl ?_
 intro Q hret
 refine wc_seq ?_; intro K1 hK1
 refine wc_region ?_
 refine wl_ef (ef_box rfl rfl) rfl ?_
 rintro _ wB3 ⟨gB3, rfl, B3, hgB3, ex⟩
 have lB3 := B3.lt; have zB3 := ex.size
 replace F := F.ext ex
 refine wl_ef (ef_box rfl rfl) rfl ?_
 rintro _ wB4 ⟨gB4, rfl, B4, hgB4, ex⟩
 have lB4 := B4.lt; have zB4 := ex.size
 replace F := F.ext ex
 replace B3 := B3.ext ex
 refine wl_ef (ef_box rfl rfl) rfl ?_
 rintro _ wB5 ⟨gB5, rfl, B5, hgB5, ex⟩
 have lB5 := B5.lt; have zB5 := ex.size
 replace F := F.ext ex
 replace B3 := B3.ext ex
 replace B4 := B4.ext ex
 refine wl_ef (ef_alloc (Z := #[.slice none 0 0, .int .u64 0, .slice none 0 0, .slice none 0 0, .slice none 0 0, .int .i64 0, .slice none 0 0, .slice none 0 0, .slice none 0 0, .slice none 0 0, .slice none 0 0, .slice none 0 0, .slice none 0 0, .slice none 0 0, .slice none 0 0, .slice none 0 0, .slice none 0 0, .slice none 0 0, .slice none 0 0, .slice none 0 0]) (by kernel_rfl)) rfl ?_
 rintro _ wB6 ⟨gB6, rfl, B6, hgB6, ex⟩
 have lB6 := B6.lt; have zB6 := ex.size
 replace F := F.grow ex hgB6
 replace B3 := B3.grow ex hgB6
 replace B4 := B4.grow ex hgB6
 replace B5 := B5.grow ex hgB6
 refine wl_y (y_assign rfl) rfl ?_
 refine wl_nil ?_
 refine wq_then_norm (hK1 ?_)
 refine wc_seq ?_; intro K2 hK2
 refine wc_region ?_
 refine wl_y (y_loadx (o := 0) (s := 8) rfl Tryz.underlying29 rfl (by kernel_rfl) B4 rfl) rfl ?_
 have X1 := F.toExt (by simp; omega)
 refine wl_call Tryz.func40 rfl rfl rfl (PackageName_any _ (HP.ext X1) hp) rfl ?_
 rintro e w1 ⟨A8, k8, c8, z8, rfl, T8, ex⟩
 refine ⟨_, rfl, ?_⟩
 replace F := F.ext ex
 replace B3 := B3.ext ex
 replace B4 := B4.ext ex
 replace B5 := B5.ext ex
 replace B6 := B6.ext ex
 obtain ⟨hz3, _⟩ := T8.2 hno; subst hz3
 refine wl_y (y_move rfl) rfl ?_
 refine wl_y (y_extract rfl rfl) rfl ?_
 refine wl_y (y_extract rfl rfl) rfl ?_
 refine wl_y (y_assign rfl) rfl ?_
 refine wl_y (y_assign rfl) rfl ?_
 refine wl_nil ?_
 refine wq_then_norm (hK2 ?_)
 refine wc_seq ?_; intro K3 hK3
 refine wc_seq ?_; intro K4 hK4
 refine wc_region ?_
 refine wl_y (y_move rfl) rfl ?_
 refine wl_y (y_neq rfl rfl) rfl ?_
 refine wl_nil ?_
 refine wq_then_norm (hK4 ?_)
 refine wc_yes rfl (by omega) ?_
 refine wc_seq ?_; intro K5 hK5
 refine wc_region ?_
 refine wl_y (y_build rfl (cells := zGotV) (by kernel_rfl)) rfl ?_
 refine wl_y (y_move rfl) rfl ?_
 refine wl_ef (ef_storeP (o := 0) rfl rfl (by kernel_rfl) B6 (Nat.le_of_ble_eq_true rfl) (all_ones rfl)) rfl ?_
 rintro _ wS3_2 ⟨rfl, D, cg⟩
 have ex := Chs.one cg
 clear cg
 replace F := F.chs ex
 replace B3 := B3.chs ex
 replace B4 := B4.chs ex
 replace B5 := B5.chs ex
 replace B6 := D; clear D
 replace B6 := B6.congr (cs' := zGotV) rfl
 refine wl_y (y_assign rfl) rfl ?_
 refine wl_nil ?_
 refine wq_then_norm (hK5 ?_)
 refine wc_ret ?_
 refine wq_then_ret ?_
 refine hret rfl rfl B6 rfl ?_
 exact ⟨rfl, F.toExt (by simp; omega)⟩
theorem wfind_nil (w : World) (A : Option Addr) (n c : Nat) : Calls Tryz.prog 41 #[.agg (twoV nilH nilH), .slice A n c] w fun e w' => e = .returned (.tuple #[.agg (twoV nilH nilH), .bool false]) ∧ Ext w w' := by
 have F := Chs.refl [] w
 refine vc_enterct (s := 2) 23 Tryz.func41 rfl rfl rfl Tryz.underlying35 rfl (by kernel_rfl) rfl ?_
 intro Q hret
 refine wc_seq ?_; intro K1 hK1
 refine wc_region ?_
 refine wl_ef (ef_box rfl rfl) rfl ?_
 rintro _ wB2 ⟨gB2, rfl, B2, hgB2, ex⟩
 have lB2 := B2.lt; have zB2 := ex.size
 replace F := F.ext ex
 refine wl_ef (ef_alloc (Z := #[.slice none 0 0, .slice none 0 0]) (by kernel_rfl)) rfl ?_
 rintro _ wB4 ⟨gB4, rfl, B4, hgB4, ex⟩
 have lB4 := B4.lt; have zB4 := ex.size
 replace F := F.grow ex hgB4
 replace B2 := B2.grow ex hgB4
 refine wl_y (y_assign rfl) rfl ?_
 refine wl_nil ?_
 refine wq_then_norm (hK1 ?_)
 refine wc_seq ?_; intro K2 hK2
 refine wc_seq ?_; intro K3 hK3
 refine wc_region ?_
 refine wl_y (y_fieldAddr (o := 0) (s := 1) (off := 0) (o' := 0) rfl Tryz.underlying25 rfl (by kernel_rfl) rfl rfl) rfl ?_
 refine wl_y (y_load1 rfl Tryz.underlying22 rfl (B2.get (i := 0) rfl)) rfl ?_
 refine wl_y (y_len_slice rfl Tryz.underlying22) rfl ?_
 refine wl_y (y_move rfl) rfl ?_
 refine wl_nil ?_
 refine wq_then_norm (hK3 ?_)
 refine wc_block ?_
 refine wc_unroll 1 ?_; refine wlr_succ ?_; intro KU1_1 hKU1_1
 refine wc_seq ?_; intro K4 hK4
 refine wc_region ?_
 refine wl_y (Y.as (y_lss rfl rfl) (congrArg Value.bool (decide_eq_false (by decide)))) rfl ?_
 refine wl_nil ?_
 refine wq_then_norm (hK4 ?_)
 refine wc_seq ?_; intro K5 hK5
 refine wc_false rfl rfl ?_
 refine wc_exit ?_
 refine wq_then_exit ?_
 refine wq_then_exit ?_
 refine wq_blk_hit ?_
 refine wq_then_norm (hK2 ?_)
 refine wc_seq ?_; intro K6 hK6
 refine wc_region ?_
 refine wl_y (y_build rfl (cells := twoV nilH nilH) (by kernel_rfl)) rfl ?_
 refine wl_ef (ef_storeP (o := 0) rfl rfl (by kernel_rfl) B4 (Nat.le_of_ble_eq_true rfl) (all_ones rfl)) rfl ?_
 rintro _ wS7_1 ⟨rfl, D, cg⟩
 have ex := Chs.one cg
 clear cg
 replace F := F.chs ex
 replace B2 := B2.chs ex
 replace B4 := D; clear D
 replace B4 := B4.congr (cs' := twoV nilH nilH) rfl
 refine wl_y (y_assign rfl) rfl ?_
 refine wl_nil ?_
 refine wq_then_norm (hK6 ?_)
 refine wc_ret ?_
 refine hret rfl rfl B4 rfl ?_
 exact ⟨rfl, F.toExt (by simp; omega)⟩
theorem wopen_none {ds es : Array Value} {p : Pack} (w : World) (HP : PackAt w ds p) (hp : p.Small) (ok : okPack p) (h5 : es.size = 3) :
  Calls Tryz.prog 13 #[.agg (twoV nilH nilH), .agg ds, .agg es] w fun e w' => e = .returned (.tuple #[.agg zGotV, .int .u8 7]) ∧ Ext w w' := by
 have HP' := HP
 obtain ⟨i, p0, p1, p2, p4, p5, pg, rfl, hsrc, _⟩ := HP'
 have F := Chs.refl [] w
 refine vc_enterct (s := 20) 108 Tryz.func13 rfl rfl rfl Tryz.underlying46 rfl (by kernel_rfl) rfl ?_
 intro Q hret
 refine wc_seq ?_; intro K1 hK1
 refine wc_region ?_
 refine wl_ef (ef_box rfl rfl) rfl ?_
 rintro _ wB3 ⟨gB3, rfl, B3, hgB3, ex⟩
 have lB3 := B3.lt; have zB3 := ex.size
 replace F := F.ext ex
 refine wl_ef (ef_box rfl rfl) rfl ?_
 rintro _ wB4 ⟨gB4, rfl, B4, hgB4, ex⟩
 have lB4 := B4.lt; have zB4 := ex.size
 replace F := F.ext ex
 replace B3 := B3.ext ex
 refine wl_ef (ef_box rfl rfl) rfl ?_
 rintro _ wB5 ⟨gB5, rfl, B5, hgB5, ex⟩
 have lB5 := B5.lt; have zB5 := ex.size
 replace F := F.ext ex
 replace B3 := B3.ext ex
 replace B4 := B4.ext ex
 refine wl_ef (ef_alloc (Z := #[.slice none 0 0, .int .u64 0, .slice none 0 0, .slice none 0 0, .slice none 0 0, .int .i64 0, .slice none 0 0, .slice none 0 0, .slice none 0 0, .slice none 0 0, .slice none 0 0, .slice none 0 0, .slice none 0 0, .slice none 0 0, .slice none 0 0, .slice none 0 0, .slice none 0 0, .slice none 0 0, .slice none 0 0, .slice none 0 0]) (by kernel_rfl)) rfl ?_
 rintro _ wB6 ⟨gB6, rfl, B6, hgB6, ex⟩
 have lB6 := B6.lt; have zB6 := ex.size
 replace F := F.grow ex hgB6
 replace B3 := B3.grow ex hgB6
 replace B4 := B4.grow ex hgB6
 replace B5 := B5.grow ex hgB6
 refine wl_y (y_assign rfl) rfl ?_
 refine wl_nil ?_
 refine wq_then_norm (hK1 ?_)
 refine wc_seq ?_; intro K2 hK2
 refine wc_region ?_
 refine wl_y (y_loadx (o := 0) (s := 8) rfl Tryz.underlying29 rfl (by kernel_rfl) B4 rfl) rfl ?_
 have X1 := F.toExt (by simp; omega)
 refine wl_call Tryz.func40 rfl rfl rfl (PackageName_any _ (HP.ext X1) hp) rfl ?_
 rintro e w1 ⟨A8, k8, c8, z8, rfl, T8, ex⟩
 refine ⟨_, rfl, ?_⟩
 replace F := F.ext ex
 replace B3 := B3.ext ex
 replace B4 := B4.ext ex
 replace B5 := B5.ext ex
 replace B6 := B6.ext ex
 obtain ⟨hz3, _⟩ := T8.1 ok; subst hz3
 refine wl_y (y_move rfl) rfl ?_
 refine wl_y (y_extract rfl rfl) rfl ?_
 refine wl_y (y_extract rfl rfl) rfl ?_
 refine wl_y (y_assign rfl) rfl ?_
 refine wl_y (y_assign rfl) rfl ?_
 refine wl_nil ?_
 refine wq_then_norm (hK2 ?_)
 refine wc_seq ?_; intro K3 hK3
 refine wc_seq ?_; intro K4 hK4
 refine wc_region ?_
 refine wl_y (y_move rfl) rfl ?_
 refine wl_y (y_neq rfl rfl) rfl ?_
 refine wl_nil ?_
 refine wq_then_norm (hK4 ?_)
 refine wc_no rfl (by omega) ?_
 refine wc_skip ?_
 refine wq_then_norm (hK3 ?_)
 refine wc_seq ?_; intro K5 hK5
 refine wc_region ?_
 refine wl_y (y_loadx (o := 0) (s := 2) rfl Tryz.underlying25 rfl (by kernel_rfl) B3 rfl) rfl ?_
 refine wl_y (y_move rfl) rfl ?_
 refine wl_call Tryz.func41 rfl rfl rfl (wfind_nil _ A8 k8 c8) rfl ?_
 rintro e w2 ⟨rfl, ex⟩
 refine ⟨_, rfl, ?_⟩
 replace F := F.ext ex
 replace B3 := B3.ext ex
 replace B4 := B4.ext ex
 replace B5 := B5.ext ex
 replace B6 := B6.ext ex
 skip
 refine wl_y (y_move rfl) rfl ?_
 refine wl_y (y_extract rfl rfl) rfl ?_
 refine wl_y (y_extract rfl rfl) rfl ?_
 refine wl_ef (ef_alloc (Z := #[.slice none 0 0, .slice none 0 0]) (by kernel_rfl)) rfl ?_
 rintro _ wB10 ⟨gB10, rfl, B10, hgB10, ex⟩
 have lB10 := B10.lt; have zB10 := ex.size
 have nB6_10 : gB6 < gB10 := Nat.lt_of_lt_of_le B6.lt hgB10
 replace F := F.grow ex hgB10
 replace B3 := B3.grow ex hgB10
 replace B4 := B4.grow ex hgB10
 replace B5 := B5.grow ex hgB10
 replace B6 := B6.grow ex hgB10
 refine wl_ef (ef_storeP (o := 0) rfl rfl (by kernel_rfl) B10 (Nat.le_of_ble_eq_true rfl) (all_ones rfl)) rfl ?_
 rintro _ wS4_7 ⟨rfl, D, cg⟩
 have ex := Chs.one cg
 clear cg
 replace F := F.chs ex
 replace B3 := B3.chs ex
 replace B4 := B4.chs ex
 replace B5 := B5.chs ex
 replace B6 := B6.chs ex
 replace B10 := D; clear D
 replace B10 := B10.congr (cs' := twoV nilH nilH) rfl
 refine wl_y (y_assign rfl) rfl ?_
 refine wl_nil ?_
 refine wq_then_norm (hK5 ?_)
 refine wc_seq ?_; intro K6 hK6
 refine wc_seq ?_; intro K7 hK7
 refine wc_region ?_
 refine wl_y (y_move rfl) rfl ?_
 refine wl_y (y_not rfl) rfl ?_
 refine wl_nil ?_
 refine wq_then_norm (hK7 ?_)
 refine wc_true rfl rfl ?_
 refine wc_seq ?_; intro K8 hK8
 refine wc_region ?_
 refine wl_y (y_build rfl (cells := zGotV) (by kernel_rfl)) rfl ?_
 refine wl_ef (ef_storeP (o := 0) rfl rfl (by kernel_rfl) B6 (Nat.le_of_ble_eq_true rfl) (all_ones rfl)) rfl ?_
 rintro _ wS6_1 ⟨rfl, D, cg⟩
 have ex := Chs.one cg
 clear cg
 replace F := F.chs ex
 replace B3 := B3.chs ex
 replace B4 := B4.chs ex
 replace B5 := B5.chs ex
 replace B10 := B10.chs ex
 replace B6 := D; clear D
 replace B6 := B6.congr (cs' := zGotV) rfl
 refine wl_y (y_assign rfl) rfl ?_
 refine wl_nil ?_
 refine wq_then_norm (hK8 ?_)
 refine wc_ret ?_
 refine wq_then_ret ?_
 refine hret rfl rfl B6 rfl ?_
 exact ⟨rfl, F.toExt (by simp; omega)⟩
theorem packZ_no' : ¬ okPack Pack.zero := by decide
theorem packZ_small' : Pack.zero.Small := by refine ⟨by decide, by decide, ?_⟩; decide
theorem packZ_at' (w : World) : PackAt w (packV nilH nilH nilH nilH 0 nilH nilH nilH) Pack.zero := ⟨nilH, nilH, nilH, nilH, nilH, nilH, nilH, rfl, by decide, Bs.nil _ _, Bs.nil _ _, Bs.nil _ _, Bs.nil _ _, Bs.nil _ _, Bs.nil _ _, Bs.nil _ _⟩
set_option maxHeartbeats 1000000 in
theorem alive24' (w : World) : Calls Tryz.prog 8 #[] w fun e w' => e = .returned (.bool true) ∧ Ext w w' := by
 have F := Chs.refl [] w
 refine vc_enter1 42 Tryz.func8 rfl rfl rfl rfl ?_
 intro Q hret
 refine wc_seq ?_; intro K1 hK1
 refine wc_region ?_
 refine wl_y (y_assign rfl) rfl ?_
 refine wl_nil ?_
 refine wq_then_norm (hK1 ?_)
 refine wc_seq ?_; intro K2 hK2
 refine wc_region ?_
 skip
 refine wl_ef (ef_lit (z := .int .u8 0) Tryz.underlying23 (by kernel_rfl) rfl rfl rfl rfl rfl) rfl ?_
 rintro _ w1 ⟨g1, rfl, D1, hg1, ex⟩
 replace F := F.ext ex
 have H1 := bs_blk' (xs := [1]) (D1.congr rfl) rfl
 refine wl_call Tryz.func34 rfl rfl rfl (wseed_any 1 (by omega) _) rfl ?_
 rintro e w2 ⟨g2, rfl, H2, ex⟩
 refine ⟨_, rfl, ?_⟩
 replace F := F.ext ex
 have H1' := H1.ext ex
 refine wl_call Tryz.func33 rfl rfl rfl (ppack_any _ H1' (by omega) (by omega) H2) rfl ?_
 rintro e w3 ⟨cs, ks, rfl, HP, HK, ex⟩
 refine ⟨_, rfl, ?_⟩
 replace F := F.ext ex
 have HP' := HP; obtain ⟨i, p0, p1, p2, p4, p5, pg, rfl, hsrc, _⟩ := HP'; have HK' := HK; obtain ⟨k0, k1, k2, rfl, _⟩ := HK'; have C3 := Chs.refl [] w3; have z3 := F.size
 refine wl_y (y_move rfl) rfl ?_
 refine wl_y (y_extract rfl rfl) rfl ?_
 refine wl_y (y_extract rfl rfl) rfl ?_
 refine wl_y (y_extract rfl rfl) rfl ?_
 refine wl_ef (ef_alloc (Z := #[.slice none 0 0, .slice none 0 0, .slice none 0 0, .slice none 0 0, .int .u8 0, .slice none 0 0, .slice none 0 0, .slice none 0 0]) (by kernel_rfl)) rfl ?_
 rintro _ wB1 ⟨gB1, rfl, B1, hgB1, ex⟩
 have lB1 := B1.lt; have zB1 := ex.size
 replace F := F.grow ex hgB1
 replace C3 := C3.grow ex hgB1
 refine wl_ef (ef_alloc (Z := #[.slice none 0 0, .slice none 0 0, .slice none 0 0]) (by kernel_rfl)) rfl ?_
 rintro _ wB2 ⟨gB2, rfl, B2, hgB2, ex⟩
 have lB2 := B2.lt; have zB2 := ex.size
 have nB1_2 : gB1 < gB2 := Nat.lt_of_lt_of_le B1.lt hgB2
 replace F := F.grow ex hgB2
 replace C3 := C3.grow ex hgB2
 replace B1 := B1.grow ex hgB2
 refine wl_ef (ef_storeP (o := 0) rfl rfl (by kernel_rfl) B1 (Nat.le_of_ble_eq_true rfl) (all_ones rfl)) rfl ?_
 rintro _ wS1_9 ⟨rfl, D, cg⟩
 have ex := Chs.one cg
 clear cg
 replace F := F.chs ex
 replace C3 := C3.chs ex
 replace B2 := B2.chs ex
 replace B1 := D; clear D
 replace B1 := B1.congr (cs' := packV i p0 p1 p2 (mkP [1] (seedN 1)).leaf.src p4 p5 pg) rfl
 refine wl_ef (ef_storeP (o := 0) rfl rfl (by kernel_rfl) B2 (Nat.le_of_ble_eq_true rfl) (all_ones rfl)) rfl ?_
 rintro _ wS1_10 ⟨rfl, D, cg⟩
 have ex := Chs.one cg
 clear cg
 replace F := F.chs ex
 replace C3 := C3.chs ex
 replace B1 := B1.chs ex
 replace B2 := D; clear D
 replace B2 := B2.congr (cs' := thrV k0 k1 k2) rfl
 refine wl_y (y_assign rfl) rfl ?_
 refine wl_nil ?_
 refine wq_then_norm (hK2 ?_)
 refine wc_seq ?_; intro K3 hK3
 refine wc_region ?_
 refine wl_y (y_build rfl (cells := twoV nilH nilH) (by kernel_rfl)) rfl ?_
 refine wl_y (y_loadx (o := 0) (s := 8) rfl Tryz.underlying29 rfl (by kernel_rfl) B1 rfl) rfl ?_
 refine wl_y (y_loadx (o := 0) (s := 3) rfl Tryz.underlying51 rfl (by kernel_rfl) B2 rfl) rfl ?_
 have X2 := C3.toExt (by simp; omega)
 have okp := mkP_ok (ident := [1]) (seedN 1) (by decide) (by decide)
 refine wl_call Tryz.func13 rfl rfl rfl (wopen_none _ (HP.ext X2) (okPack_small okp) okp rfl) rfl ?_
 rintro e w4 ⟨rfl, ex⟩
 refine ⟨_, rfl, ?_⟩
 replace F := F.ext ex
 replace C3 := C3.ext ex
 replace B1 := B1.ext ex
 replace B2 := B2.ext ex
 have z4 := F.size
 refine wl_y (y_move rfl) rfl ?_
 refine wl_y (y_extract rfl rfl) rfl ?_
 refine wl_y (y_extract rfl rfl) rfl ?_
 refine wl_ef (ef_alloc (Z := #[.slice none 0 0, .int .u64 0, .slice none 0 0, .slice none 0 0, .slice none 0 0, .int .i64 0, .slice none 0 0, .slice none 0 0, .slice none 0 0, .slice none 0 0, .slice none 0 0, .slice none 0 0, .slice none 0 0, .slice none 0 0, .slice none 0 0, .slice none 0 0, .slice none 0 0, .slice none 0 0, .slice none 0 0, .slice none 0 0]) (by kernel_rfl)) rfl ?_
 rintro _ wB4 ⟨gB4, rfl, B4, hgB4, ex⟩
 have lB4 := B4.lt; have zB4 := ex.size
 have nB1_4 : gB1 < gB4 := Nat.lt_of_lt_of_le B1.lt hgB4
 have nB2_4 : gB2 < gB4 := Nat.lt_of_lt_of_le B2.lt hgB4
 replace F := F.grow ex hgB4
 replace C3 := C3.grow ex hgB4
 replace B1 := B1.grow ex hgB4
 replace B2 := B2.grow ex hgB4
 refine wl_ef (ef_storeP (o := 0) rfl rfl (by kernel_rfl) B4 (Nat.le_of_ble_eq_true rfl) (all_ones rfl)) rfl ?_
 rintro _ wS2_8 ⟨rfl, D, cg⟩
 have ex := Chs.one cg
 clear cg
 replace F := F.chs ex
 replace C3 := C3.chs ex
 replace B1 := B1.chs ex
 replace B2 := B2.chs ex
 replace B4 := D; clear D
 skip
 refine wl_y (y_assign rfl) rfl ?_
 refine wl_nil ?_
 refine wq_then_norm (hK3 ?_)
 refine wc_seq ?_; intro K4 hK4
 refine wc_region ?_
 refine wl_y (y_build rfl (cells := twoV nilH nilH) (by kernel_rfl)) rfl ?_
 refine wl_y (y_build rfl (cells := packV nilH nilH nilH nilH 0 nilH nilH nilH) (by kernel_rfl)) rfl ?_
 refine wl_y (y_loadx (o := 0) (s := 3) rfl Tryz.underlying51 rfl (by kernel_rfl) B2 rfl) rfl ?_
 refine wl_call Tryz.func13 rfl rfl rfl (wopen_bad _ rfl (packZ_at' _) packZ_small' packZ_no' rfl) rfl ?_
 rintro e w5 ⟨rfl, ex⟩
 refine ⟨_, rfl, ?_⟩
 replace F := F.ext ex
 replace C3 := C3.ext ex
 replace B1 := B1.ext ex
 replace B2 := B2.ext ex
 replace B4 := B4.ext ex
 have z5 := F.size
 refine wl_y (y_move rfl) rfl ?_
 refine wl_y (y_extract rfl rfl) rfl ?_
 refine wl_y (y_extract rfl rfl) rfl ?_
 refine wl_ef (ef_alloc (Z := #[.slice none 0 0, .int .u64 0, .slice none 0 0, .slice none 0 0, .slice none 0 0, .int .i64 0, .slice none 0 0, .slice none 0 0, .slice none 0 0, .slice none 0 0, .slice none 0 0, .slice none 0 0, .slice none 0 0, .slice none 0 0, .slice none 0 0, .slice none 0 0, .slice none 0 0, .slice none 0 0, .slice none 0 0, .slice none 0 0]) (by kernel_rfl)) rfl ?_
 rintro _ wB6 ⟨gB6, rfl, B6, hgB6, ex⟩
 have lB6 := B6.lt; have zB6 := ex.size
 have nB1_6 : gB1 < gB6 := Nat.lt_of_lt_of_le B1.lt hgB6
 have nB2_6 : gB2 < gB6 := Nat.lt_of_lt_of_le B2.lt hgB6
 have nB4_6 : gB4 < gB6 := Nat.lt_of_lt_of_le B4.lt hgB6
 replace F := F.grow ex hgB6
 replace C3 := C3.grow ex hgB6
 replace B1 := B1.grow ex hgB6
 replace B2 := B2.grow ex hgB6
 replace B4 := B4.grow ex hgB6
 refine wl_ef (ef_storeP (o := 0) rfl rfl (by kernel_rfl) B6 (Nat.le_of_ble_eq_true rfl) (all_ones rfl)) rfl ?_
 rintro _ wS3_8 ⟨rfl, D, cg⟩
 have ex := Chs.one cg
 clear cg
 replace F := F.chs ex
 replace C3 := C3.chs ex
 replace B1 := B1.chs ex
 replace B2 := B2.chs ex
 replace B4 := B4.chs ex
 replace B6 := D; clear D
 refine wl_y (y_assign rfl) rfl ?_
 refine wl_nil ?_
 refine wq_then_norm (hK4 ?_)
 refine wc_seq ?_; intro K5 hK5
 refine wc_region ?_
 refine wl_y (y_move rfl) rfl ?_
 refine wl_y (y_conv rfl Tryz.underlying47 Tryz.underlying3 (show _ = (0 : Int) from rfl)) rfl ?_
 refine wl_y (Y.as (y_eql rfl rfl) (congrArg Value.bool (decide_eq_true (by omega)))) rfl ?_
 refine wl_y (y_move rfl) rfl ?_
 refine wl_gy 32 rfl rfl (y_move rfl) rfl ?_
 refine wl_gy 32 rfl rfl (y_conv rfl Tryz.underlying47 Tryz.underlying3 (show _ = (7 : Int) from rfl)) rfl ?_
 refine wl_gy 32 rfl rfl (Y.as (y_eql rfl rfl) (congrArg Value.bool (decide_eq_true (by omega)))) rfl ?_
 refine wl_y (y_pickt rfl rfl) rfl ?_
 refine wl_y (y_move rfl) rfl ?_
 refine wl_gy 37 rfl rfl (y_move rfl) rfl ?_
 refine wl_gy 37 rfl rfl (y_conv rfl Tryz.underlying47 Tryz.underlying3 (show _ = (3 : Int) from rfl)) rfl ?_
 refine wl_gy 37 rfl rfl (Y.as (y_eql rfl rfl) (congrArg Value.bool (decide_eq_true (by omega)))) rfl ?_
 refine wl_y (y_pickt rfl rfl) rfl ?_
 refine wl_y (y_assign rfl) rfl ?_
 refine wl_nil ?_
 refine wq_then_norm (hK5 ?_)
 refine wc_ret ?_
 refine hret rfl ?_
 exact ⟨rfl, F.toExt (by simp; omega)⟩
theorem infZ_fit : Inf.zero.Fit := ⟨by decide, by decide, by decide, by decide, by decide⟩
theorem sigE_zero {s t ys : List UInt8} {y : Nat} (h : sigE s t = (ys, y)) (hy : y = 0) : s.length = 32 ∧ ys = Sg.sig s t := by
 unfold sigE at h
 split at h
 ·rename_i h1; injection h with h _; exact ⟨h1, h.symm⟩
 ·injection h with _ h; omega
theorem sigE_le {s t ys : List UInt8} {y : Nat} (h : sigE s t = (ys, y)) : y ≤ 1 := by
 unfold sigE at h
 split at h
 ·injection h with _ h; omega
 ·injection h with _ h; omega
set_option maxHeartbeats 2000000 in
theorem welcomeSigns_law (cs : Array Value) (i : Inf) (A : Option Addr) (n c : Nat) (seed : List UInt8) (B : Option Addr) (m d : Nat) (key : List UInt8) (w : World) (HI : InfAc w cs i) (HA : Bs w A n seed) (_hn : n ≤ maxLen) (HB : Bs w B m key) (_hm : m ≤ maxLen) :
  Calls Tryz.prog 6 #[.agg cs, .slice A n c, .slice B m d] w fun e w' => e = .returned (.bool true) ∧ Below w.heap.size w w' := by
 have hsl := HA.1
 have HI0 := HI
 obtain ⟨ys, y, hE⟩ : ∃ ys y, sigE seed (Sg.text labI.data.toList (infT i)) = (ys, y) := ⟨_, _, rfl⟩
 have hy1 := sigE_le hE
 obtain ⟨i0, i1, i2, i3, i4, rfl, hep, hfz, v0, v1, v2, v3, v4⟩ := HI.1
 have hcap := HI0.cap
 have l3 := v3.1; have l4 := v4.1; have l0 := v0.1; have l1 := v1.1; have l2 := v2.1
 have F := Chs.refl [] w
 refine vc_enter1 113 Tryz.func6 rfl rfl rfl rfl ?_
 intro Q hret
 refine wc_seq ?_; intro K1 hK1
 refine wc_region ?_
 refine wl_ef (ef_box rfl rfl) rfl ?_
 rintro _ wB3 ⟨gB3, rfl, B3, hgB3, ex⟩
 have lB3 := B3.lt; have zB3 := ex.size
 replace F := F.grow ex hgB3
 refine wl_y (y_assign rfl) rfl ?_
 refine wl_nil ?_
 refine wq_then_norm (hK1 ?_)
 refine wc_seq ?_; intro K2 hK2
 refine wc_seq ?_; intro K3 hK3
 refine wc_region ?_
 refine wl_call Tryz.func8 rfl rfl rfl (alive24' _) rfl ?_
 rintro e w1 ⟨rfl, ex⟩
 refine ⟨_, rfl, ?_⟩
 replace F := F.ext ex
 replace B3 := B3.ext ex
 refine wl_y (y_not rfl) rfl ?_
 refine wl_nil ?_
 refine wq_then_norm (hK3 ?_)
 refine wc_false rfl rfl ?_
 refine wc_skip ?_
 refine wq_then_norm (hK2 ?_)
 refine wc_seq ?_; intro K4 hK4
 refine wc_seq ?_; intro K5 hK5
 refine wc_region ?_
 refine wl_y (y_fieldAddr (o := 0) (s := 4) (off := 0) (o' := 0) rfl Tryz.underlying42 rfl (by kernel_rfl) rfl rfl) rfl ?_
 refine wl_y (y_loadx (o := 0) (s := 4) rfl Tryz.underlying40 rfl (by kernel_rfl) B3 rfl) rfl ?_
 have X3 := F.toExt (by simp; omega)
 refine wl_call Tryz.func16 rfl rfl rfl (smallCtx20_any _ (InfC.ctx (HI.1.ext X3)).at hep) rfl ?_
 rintro e w2 ⟨rfl, ex⟩
 refine ⟨_, rfl, ?_⟩
 replace F := F.ext ex
 replace B3 := B3.ext ex
 skip
 refine wl_yaskb (y_not rfl) rfl (fun q0 => ?_) (fun q0 => ?_)
 ·skip
  refine wl_y (y_move rfl) rfl ?_
  refine wl_gno 20 rfl rfl rfl rfl ?_
  refine wl_gno 20 rfl rfl rfl rfl ?_
  refine wl_gno 20 rfl rfl rfl rfl ?_
  refine wl_gno 20 rfl rfl rfl rfl ?_
  refine wl_y (y_pickt rfl rfl) rfl ?_
  refine wl_y (y_move rfl) rfl ?_
  refine wl_gno 26 rfl rfl rfl rfl ?_
  refine wl_gno 26 rfl rfl rfl rfl ?_
  refine wl_gno 26 rfl rfl rfl rfl ?_
  refine wl_gno 26 rfl rfl rfl rfl ?_
  refine wl_y (y_pickt rfl rfl) rfl ?_
  refine wl_y (y_move rfl) rfl ?_
  refine wl_gno 32 rfl rfl rfl rfl ?_
  refine wl_gno 32 rfl rfl rfl rfl ?_
  refine wl_gno 32 rfl rfl rfl rfl ?_
  refine wl_y (y_pickt rfl rfl) rfl ?_
  refine wl_y (y_move rfl) rfl ?_
  refine wl_gno 37 rfl rfl rfl rfl ?_
  refine wl_gno 37 rfl rfl rfl rfl ?_
  refine wl_gno 37 rfl rfl rfl rfl ?_
  refine wl_y (y_pickt rfl rfl) rfl ?_
  refine wl_nil ?_
  refine wq_then_norm (hK5 ?_)
  refine wc_true rfl rfl ?_
  refine wc_seq ?_; intro K6 hK6
  refine wc_region ?_
  refine wl_y (y_assign rfl) rfl ?_
  refine wl_nil ?_
  refine wq_then_norm (hK6 ?_)
  refine wc_ret ?_
  refine wq_then_ret ?_
  refine hret rfl ?_
  exact ⟨rfl, F.toExt (by simp; omega)⟩
 ·skip
  refine wl_y (y_move rfl) rfl ?_
  refine wl_gy 20 rfl rfl (y_fieldAddr (o := 4) (s := 1) (off := 0) (o' := 4) rfl Tryz.underlying42 rfl (by kernel_rfl) rfl rfl) rfl ?_
  refine wl_gy 20 rfl rfl (y_load1 rfl Tryz.underlying23 rfl (B3.get (i := 4) rfl)) rfl ?_
  refine wl_gy 20 rfl rfl (y_len_slice rfl Tryz.underlying23) rfl ?_
  refine wl_gyask 20 rfl rfl (y_gtr rfl rfl) rfl (fun q1 => ?_) (fun q1 => ?_)
  ·skip
   refine wl_y (y_pickf rfl rfl) rfl ?_
   refine wl_y (y_move rfl) rfl ?_
   refine wl_gno 26 rfl rfl rfl rfl ?_
   refine wl_gno 26 rfl rfl rfl rfl ?_
   refine wl_gno 26 rfl rfl rfl rfl ?_
   refine wl_gno 26 rfl rfl rfl rfl ?_
   refine wl_y (y_pickt rfl rfl) rfl ?_
   refine wl_y (y_move rfl) rfl ?_
   refine wl_gno 32 rfl rfl rfl rfl ?_
   refine wl_gno 32 rfl rfl rfl rfl ?_
   refine wl_gno 32 rfl rfl rfl rfl ?_
   refine wl_y (y_pickt rfl rfl) rfl ?_
   refine wl_y (y_move rfl) rfl ?_
   refine wl_gno 37 rfl rfl rfl rfl ?_
   refine wl_gno 37 rfl rfl rfl rfl ?_
   refine wl_gno 37 rfl rfl rfl rfl ?_
   refine wl_y (y_pickt rfl rfl) rfl ?_
   refine wl_nil ?_
   refine wq_then_norm (hK5 ?_)
   refine wc_true rfl rfl ?_
   refine wc_seq ?_; intro K7 hK7
   refine wc_region ?_
   refine wl_y (y_assign rfl) rfl ?_
   refine wl_nil ?_
   refine wq_then_norm (hK7 ?_)
   refine wc_ret ?_
   refine wq_then_ret ?_
   refine hret rfl ?_
   exact ⟨rfl, F.toExt (by simp; omega)⟩
  ·skip
   refine wl_y (y_pickf rfl rfl) rfl ?_
   refine wl_y (y_move rfl) rfl ?_
   refine wl_gy 26 rfl rfl (y_fieldAddr (o := 6) (s := 1) (off := 0) (o' := 6) rfl Tryz.underlying42 rfl (by kernel_rfl) rfl rfl) rfl ?_
   refine wl_gy 26 rfl rfl (y_load1 rfl Tryz.underlying23 rfl (B3.get (i := 6) rfl)) rfl ?_
   refine wl_gy 26 rfl rfl (y_len_slice rfl Tryz.underlying23) rfl ?_
   refine wl_gyask 26 rfl rfl (y_gtr rfl rfl) rfl (fun q2 => ?_) (fun q2 => ?_)
   ·skip
    refine wl_y (y_pickf rfl rfl) rfl ?_
    refine wl_y (y_move rfl) rfl ?_
    refine wl_gno 32 rfl rfl rfl rfl ?_
    refine wl_gno 32 rfl rfl rfl rfl ?_
    refine wl_gno 32 rfl rfl rfl rfl ?_
    refine wl_y (y_pickt rfl rfl) rfl ?_
    refine wl_y (y_move rfl) rfl ?_
    refine wl_gno 37 rfl rfl rfl rfl ?_
    refine wl_gno 37 rfl rfl rfl rfl ?_
    refine wl_gno 37 rfl rfl rfl rfl ?_
    refine wl_y (y_pickt rfl rfl) rfl ?_
    refine wl_nil ?_
    refine wq_then_norm (hK5 ?_)
    refine wc_true rfl rfl ?_
    refine wc_seq ?_; intro K8 hK8
    refine wc_region ?_
    refine wl_y (y_assign rfl) rfl ?_
    refine wl_nil ?_
    refine wq_then_norm (hK8 ?_)
    refine wc_ret ?_
    refine wq_then_ret ?_
    refine hret rfl ?_
    exact ⟨rfl, F.toExt (by simp; omega)⟩
   ·skip
    refine wl_y (y_pickf rfl rfl) rfl ?_
    refine wl_y (y_move rfl) rfl ?_
    refine wl_gy 32 rfl rfl (y_move rfl) rfl ?_
    refine wl_gy 32 rfl rfl (y_len_slice rfl Tryz.underlying23) rfl ?_
    refine wl_gyask 32 rfl rfl (y_gtr rfl rfl) rfl (fun q3 => ?_) (fun q3 => ?_)
    ·skip
     refine wl_y (y_pickf rfl rfl) rfl ?_
     refine wl_y (y_move rfl) rfl ?_
     refine wl_gno 37 rfl rfl rfl rfl ?_
     refine wl_gno 37 rfl rfl rfl rfl ?_
     refine wl_gno 37 rfl rfl rfl rfl ?_
     refine wl_y (y_pickt rfl rfl) rfl ?_
     refine wl_nil ?_
     refine wq_then_norm (hK5 ?_)
     refine wc_true rfl rfl ?_
     refine wc_seq ?_; intro K9 hK9
     refine wc_region ?_
     refine wl_y (y_assign rfl) rfl ?_
     refine wl_nil ?_
     refine wq_then_norm (hK9 ?_)
     refine wc_ret ?_
     refine wq_then_ret ?_
     refine hret rfl ?_
     exact ⟨rfl, F.toExt (by simp; omega)⟩
    ·skip
     refine wl_y (y_pickf rfl rfl) rfl ?_
     refine wl_y (y_move rfl) rfl ?_
     refine wl_gy 37 rfl rfl (y_move rfl) rfl ?_
     refine wl_gy 37 rfl rfl (y_len_slice rfl Tryz.underlying23) rfl ?_
     refine wl_gyask 37 rfl rfl (y_gtr rfl rfl) rfl (fun q4 => ?_) (fun q4 => ?_)
     ·skip
      refine wl_y (y_pickf rfl rfl) rfl ?_
      refine wl_nil ?_
      refine wq_then_norm (hK5 ?_)
      refine wc_true rfl rfl ?_
      refine wc_seq ?_; intro K10 hK10
      refine wc_region ?_
      refine wl_y (y_assign rfl) rfl ?_
      refine wl_nil ?_
      refine wq_then_norm (hK10 ?_)
      refine wc_ret ?_
      refine wq_then_ret ?_
      refine hret rfl ?_
      exact ⟨rfl, F.toExt (by simp; omega)⟩
     ·skip
      refine wl_y (y_pickf rfl rfl) rfl ?_
      refine wl_nil ?_
      refine wq_then_norm (hK5 ?_)
      refine wc_false rfl rfl ?_
      refine wc_skip ?_
      refine wq_then_norm (hK4 ?_)
      refine wc_seq ?_; intro K11 hK11
      have hsm : i.ctx.Small := by simpa using q0
      have hfit : i.Fit := ⟨by have := hsm.1; omega, by have := hsm.2.1; omega, by have := hsm.2.2.1; omega, by omega, by omega⟩
      refine wc_region ?_
      refine wl_y (y_loadx (o := 0) (s := 7) rfl Tryz.underlying42 rfl (by kernel_rfl) B3 rfl) rfl ?_
      have X5 := F.toExt (by simp; omega)
      refine wl_call Tryz.func24 rfl rfl rfl (rInfText_any _ (HI.1.ext X5) hsm (by omega)) rfl ?_
      rintro e w3 ⟨A7, k7, c7, rfl, R7, hk7, ex⟩
      refine ⟨_, rfl, ?_⟩
      replace F := F.ext ex
      replace B3 := B3.ext ex
      have KX := kp_out (S := [gB3]) R7.bs (out_cons B3 rfl out_nil)
      refine wl_y (y_assign rfl) rfl ?_
      refine wl_nil ?_
      refine wq_then_norm (hK11 ?_)
      refine wc_seq ?_; intro K12 hK12
      refine wc_seq ?_; intro K13 hK13
      refine wc_join (fun L wj6 => L = [(1, .slice A n c), (3, .pointer (some ⟨gB3, 0, none⟩)), (7, .slice A7 k7 c7), (56, .bool false)] ∧ (Chs [gB3] w wj6 ∧ Blk wj6 gB3 42 (infV i0 i.ctx.ep i1 i2 i3 i.frm i4) ∧ Kp w3.heap.size [gB3] (fun w => Bs w A7 k7 (infT i)) wj6)) ?_ ?_
      ·skip
       replace B3 := B3.congr (cs' := infV i0 i.ctx.ep i1 i2 i3 i.frm i4) rfl
       refine wc_draw (by kernel_rfl) 13 rfl ?_; intro wd6 ex hd6
       replace F := F.ext ex
       replace B3 := B3.ext ex
       replace KX := KX.ext ex
       refine wm_y 0 rfl (by kernel_rfl) (y_loadx (o := 0) (s := 7) rfl Tryz.underlying42 rfl (by kernel_rfl) B3 rfl) rfl ?_
       refine wm_y 1 rfl (by kernel_rfl) (y_move rfl) rfl ?_
       refine wm_y 3 rfl (by kernel_rfl) (y_loadx (o := 0) (s := 7) rfl Tryz.underlying42 rfl (by kernel_rfl) B3 rfl) rfl ?_
       have XA := F.toExt (by simp; omega)
       refine wm_one 2 (by kernel_rfl) ?_; refine om_call rfl Tryz.func25 rfl rfl rfl (wsigned_any _ (InfAc.ext HI0 XA) hsm (by omega) (by omega) (HB.ext XA) (by omega)) rfl ?_
       rintro e w4 ⟨rfl, ex⟩
       refine ⟨_, rfl, .inr ex, ?_⟩
       replace F := F.ext ex
       replace B3 := B3.ext ex
       replace KX := KX.ext ex
       skip
       have XB := F.toExt (by simp; omega)
       refine wm_one 4 (by kernel_rfl) ?_; refine om_call rfl Tryz.func20 rfl rfl rfl (rInfo_any _ (HI.1.ext XB)) rfl ?_
       rintro e w5 ⟨rfl, ex⟩
       refine ⟨_, rfl, .inr ex, ?_⟩
       replace F := F.ext ex
       replace B3 := B3.ext ex
       replace KX := KX.ext ex
       skip
       refine wm_yaskb 5 rfl (by kernel_rfl) (y_move rfl) rfl (fun q5 => ?_) (fun q5 => ?_)
       ·skip
        refine wm_gy 6 rfl (by kernel_rfl) 49 rfl rfl (y_move rfl) rfl ?_
        refine wm_gy 7 rfl (by kernel_rfl) 49 rfl rfl (y_move rfl) rfl ?_
        refine wm_gy 8 rfl (by kernel_rfl) 49 rfl rfl (y_fieldAddr (o := 6) (s := 1) (off := 0) (o' := 6) rfl Tryz.underlying42 rfl (by kernel_rfl) rfl rfl) rfl ?_
        refine wm_gy 9 rfl (by kernel_rfl) 49 rfl rfl (y_load1 rfl Tryz.underlying23 rfl (B3.get (i := 6) rfl)) rfl ?_
        have XC := F.toExt (by simp; omega)
        refine wm_one 10 (by kernel_rfl) ?_; refine om_gcall rfl 49 rfl rfl Tryz.func26 rfl rfl rfl (Check_any B m d key labI A7 k7 c7 (infT i) i4.A i4.n i4.c i.sig _ (HB.ext XC) KX.out (Bs.ext v4 XC) (by omega) labI_size (by omega) (by omega) hcap) rfl ?_
        rintro e w5 ⟨rfl, ex⟩
        refine ⟨_, rfl, .inr ex, ?_⟩
        replace F := F.ext ex
        replace B3 := B3.ext ex
        replace KX := KX.ext ex
        skip
        refine wm_y 11 rfl (by kernel_rfl) (y_pickt rfl rfl) rfl ?_
        refine wm_y 12 rfl (by kernel_rfl) (Y.as (y_neqb rfl rfl Tryz.underlying4) (congrArg Value.bool (show _ = false from by unfold signedI; rw [q5, Bool.true_and]; simp))) rfl ?_
        refine wm_done (by kernel_rfl) ?_
        refine wq_nop ?_
        exact wq_join _ ⟨rfl, F, B3, KX⟩ ⟨rfl, rfl, rfl, rfl, trivial⟩
       ·skip
        refine wm_gno 6 rfl (by kernel_rfl) 49 rfl rfl rfl rfl ?_
        refine wm_gno 7 rfl (by kernel_rfl) 49 rfl rfl rfl rfl ?_
        refine wm_gno 8 rfl (by kernel_rfl) 49 rfl rfl rfl rfl ?_
        refine wm_gno 9 rfl (by kernel_rfl) 49 rfl rfl rfl rfl ?_
        refine wm_gno 10 rfl (by kernel_rfl) 49 rfl rfl rfl rfl ?_
        refine wm_y 11 rfl (by kernel_rfl) (y_pickf rfl rfl) rfl ?_
        refine wm_y 12 rfl (by kernel_rfl) (Y.as (y_neqb rfl rfl Tryz.underlying4) (congrArg Value.bool (show _ = false from by unfold signedI; rw [q5, Bool.false_and]; rfl))) rfl ?_
        refine wm_done (by kernel_rfl) ?_
        refine wq_nop ?_
        exact wq_join _ ⟨rfl, F, B3, KX⟩ ⟨rfl, rfl, rfl, rfl, trivial⟩
      rintro L wj6 ⟨rfl, F, B3, KX⟩
      refine wq_then_norm (hK13 ?_)
      refine wc_false rfl rfl ?_
      refine wc_skip ?_
      refine wq_then_norm (hK12 ?_)
      refine wc_seq ?_; intro K14 hK14
      refine wc_region ?_
      refine wl_y (y_loadx (o := 0) (s := 7) rfl Tryz.underlying42 rfl (by kernel_rfl) B3 rfl) rfl ?_
      refine wl_y (y_move rfl) rfl ?_
      have XD := F.toExt (by simp; omega)
      refine wl_call Tryz.func27 rfl rfl rfl (wsign_any _ (HI.1.ext XD) hfit hsm (by omega) (HA.ext XD) (by omega)) rfl ?_
      rintro e w6 ⟨cs6, rfl, G6, ex⟩
      refine ⟨_, rfl, ?_⟩
      replace F := F.ext ex
      replace B3 := B3.ext ex
      replace KX := KX.ext ex
      have G6' := G6; obtain ⟨⟨j0, j1, j2, j3, j4, rfl, _⟩, _⟩ := G6'; have KG := inf_out (S := [gB3]) G6.1 (out_cons B3 rfl out_nil); have z6 := F.size
      refine wl_y (y_move rfl) rfl ?_
      refine wl_y (y_extract rfl rfl) rfl ?_
      refine wl_y (y_extract rfl rfl) rfl ?_
      refine wl_ef (ef_alloc (Z := #[.slice none 0 0, .int .u64 0, .slice none 0 0, .slice none 0 0, .slice none 0 0, .int .i64 0, .slice none 0 0]) (by kernel_rfl)) rfl ?_
      rintro _ wB8 ⟨gB8, rfl, B8, hgB8, ex⟩
      have lB8 := B8.lt; have zB8 := ex.size
      have nB3_8 : gB3 < gB8 := Nat.lt_of_lt_of_le B3.lt hgB8
      replace F := F.grow ex hgB8
      replace B3 := B3.grow ex hgB8
      replace KX := KX.grow ex hgB8
      replace KG := KG.grow ex hgB8
      refine wl_ef (ef_storeP (o := 0) rfl rfl (by kernel_rfl) B8 (Nat.le_of_ble_eq_true rfl) (all_ones rfl)) rfl ?_
      rintro _ wS8_7 ⟨rfl, D, cg⟩
      have ex := Chs.one cg
      clear cg
      replace F := F.chs ex
      replace B3 := B3.chs ex
      replace KX := KX.chs ex
      replace KG := KG.chs ex
      replace B8 := D; clear D
      replace B8 := B8.congr (cs' := infV j0 (signI i seed).1.ctx.ep j1 j2 j3 (signI i seed).1.frm j4) rfl
      refine wl_y (y_assign rfl) rfl ?_
      refine wl_nil ?_
      refine wq_then_norm (hK14 ?_)
      refine wc_seq ?_; intro K15 hK15
      refine wc_region ?_
      have m3 := B3.lt; have m8 := B8.lt
      refine wl_ef (ef_make (n := 64) (z := .int .u8 0) (bytes := 1) rfl rfl Tryz.underlying23 (by kernel_rfl) rfl rfl rfl rfl (by omega) (by omega)) rfl ?_
      rintro _ w7 ⟨g63, rfl, D63, hg63, ex⟩
      replace F := F.ext ex
      replace B3 := B3.ext ex
      replace KX := KX.ext ex
      replace KG := KG.ext ex
      replace B8 := B8.ext ex
      have J9 : Kp w7.heap.size [gB8, gB3] (fun w => Bs w (some ⟨g63, 0, none⟩) 64 (List.replicate 64 0)) w7 := Kp.bs (zeros64 D63 (by rfl)) (fun _ g hg o e => by injection e with e; injection e with e _ _; simp at hg; omega)
      refine wl_y (y_fieldAddr (o := 6) (s := 1) (off := 0) (o' := 6) rfl Tryz.underlying42 rfl (by kernel_rfl) rfl rfl) rfl ?_
      refine wl_ef (ef_storeB (i := 6) rfl rfl rfl (by kernel_rfl) B3 (Nat.le_of_ble_eq_true rfl)) rfl ?_
      rintro _ wS9_2 ⟨rfl, D, cg⟩
      have ex := Chs.one cg
      clear cg
      replace F := F.chs ex
      replace KX := KX.chs ex
      replace KG := KG.chs ex
      replace B8 := B8.chs ex
      replace J9 := J9.chs ex
      replace B3 := D; clear D
      replace B3 := B3.congr (cs' := infV i0 i.ctx.ep i1 i2 i3 i.frm ⟨some ⟨g63, 0, none⟩, 64, 64⟩) rfl
      refine wl_nil ?_
      refine wq_then_norm (hK15 ?_)
      refine wc_seq ?_; intro K16 hK16
      refine wc_seq ?_; intro K17 hK17
      refine wc_region ?_
      refine wl_y (y_loadx (o := 0) (s := 7) rfl Tryz.underlying42 rfl (by kernel_rfl) B3 rfl) rfl ?_
      have XE := F.toExt (by simp; omega)
      have HZ : InfAt _ (infV i0 i.ctx.ep i1 i2 i3 i.frm ⟨some ⟨g63, 0, none⟩, 64, 64⟩) (i.put (List.replicate 64 0)) := ⟨i0, i1, i2, i3, _, rfl, hep, hfz, Bs.ext v0 XE, Bs.ext v1 XE, Bs.ext v2 XE, Bs.ext v3 XE, J9.out⟩
      refine wl_call Tryz.func20 rfl rfl rfl (rInfo_any _ HZ) rfl ?_
      rintro e w8 ⟨rfl, ex⟩
      refine ⟨_, rfl, ?_⟩
      replace F := F.ext ex
      replace B3 := B3.ext ex
      replace KX := KX.ext ex
      replace KG := KG.ext ex
      replace B8 := B8.ext ex
      replace J9 := J9.ext ex
      skip
      refine wl_y (y_not rfl) rfl ?_
      refine wl_nil ?_
      refine wq_then_norm (hK17 ?_)
      refine wc_cond rfl (fun hc4 => ?_) (fun hc4 => ?_)
      ·skip
       refine wc_seq ?_; intro K18 hK18
       have hno : ¬ okInf (i.put (List.replicate 64 0)) := by simpa using hc4
       have e1 : signI i seed = (Inf.zero, 3) := by unfold signI; rw [if_pos hno]
       have f1 : (signI i seed).2 = 3 := by rw [e1]
       have f2 : (signI i seed).1 = Inf.zero := by rw [e1]
       refine wc_region ?_
       refine wl_y (y_move rfl) rfl ?_
       refine wl_y (y_conv rfl Tryz.underlying47 Tryz.underlying3 (i64_ok (by omega) (by omega))) rfl ?_
       refine wl_y (Y.as (y_eql rfl rfl) (congrArg Value.bool (decide_eq_true (by omega)))) rfl ?_
       refine wl_y (y_move rfl) rfl ?_
       refine wl_gy 71 rfl rfl (y_loadx (o := 0) (s := 7) rfl Tryz.underlying42 rfl (by kernel_rfl) B8 rfl) rfl ?_
       refine wl_gy 71 rfl rfl (y_build rfl (cells := zInfV) (by kernel_rfl)) rfl ?_
       refine wl_gcall 71 rfl rfl Tryz.func28 rfl rfl rfl (sameInf_any _ KG.out (InfAc.zero _).1 (by rw [f2]; exact infZ_fit) infZ_fit) rfl ?_
       rintro e w9 ⟨rfl, ex⟩
       refine ⟨_, rfl, ?_⟩
       replace F := F.ext ex
       replace B3 := B3.ext ex
       replace KX := KX.ext ex
       replace KG := KG.ext ex
       replace B8 := B8.ext ex
       replace J9 := J9.ext ex
       rw [decide_eq_true f2]
       refine wl_y (y_pickt rfl rfl) rfl ?_
       refine wl_y (y_assign rfl) rfl ?_
       refine wl_nil ?_
       refine wq_then_norm (hK18 ?_)
       refine wc_ret ?_
       refine wq_then_ret ?_
       refine hret rfl ?_
       exact ⟨rfl, F.toExt (by simp; omega)⟩
      ·skip
       refine wc_skip ?_
       refine wq_then_norm (hK16 ?_)
       refine wc_seq ?_; intro K19 hK19
       have okw : okInf (i.put (List.replicate 64 0)) := by simpa using hc4
       refine wc_region ?_
       refine wl_y (y_move rfl) rfl ?_
       refine wl_y (y_move rfl) rfl ?_
       have XF := F.toExt (by simp; omega)
       refine wl_call Tryz.func29 rfl rfl rfl (label_at _ (HA.ext XF) KX.out (by omega) labI_size (by omega) hE) rfl ?_
       rintro e w8 ⟨A12, k12, c12, rfl, H12, hc12, ex⟩
       refine ⟨_, rfl, ?_⟩
       replace F := F.ext ex
       replace B3 := B3.ext ex
       replace KX := KX.ext ex
       replace KG := KG.ext ex
       replace B8 := B8.ext ex
       replace J9 := J9.ext ex
       have J12 := kp_out (S := [gB8, gB3]) H12 (out_cons B8 rfl (out_cons B3 rfl out_nil))
       refine wl_y (y_move rfl) rfl ?_
       refine wl_y (y_extract rfl rfl) rfl ?_
       refine wl_y (y_extract rfl rfl) rfl ?_
       refine wl_y (y_assign rfl) rfl ?_
       refine wl_y (y_assign rfl) rfl ?_
       refine wl_nil ?_
       refine wq_then_norm (hK19 ?_)
       refine wc_seq ?_; intro K20 hK20
       refine wc_seq ?_; intro K21 hK21
       refine wc_region ?_
       refine wl_y (y_move rfl) rfl ?_
       refine wl_y (y_conv rfl Tryz.underlying47 Tryz.underlying3 (i64_ok (by omega) (by omega))) rfl ?_
       refine wl_y (y_neq rfl rfl) rfl ?_
       refine wl_nil ?_
       refine wq_then_norm (hK21 ?_)
       refine wc_dec rfl (fun hc5 => ?_) (fun hc5 => ?_)
       ·skip
        refine wc_seq ?_; intro K22 hK22
        have e1 : signI i seed = (Inf.zero, y) := by unfold signI; rw [hE, if_neg (fun h => h okw), if_pos (show y ≠ 0 by omega)]
        have f1 : (signI i seed).2 = y := by rw [e1]
        have f2 : (signI i seed).1 = Inf.zero := by rw [e1]
        refine wc_region ?_
        refine wl_y (y_move rfl) rfl ?_
        refine wl_y (y_conv rfl Tryz.underlying47 Tryz.underlying3 (i64_ok (by omega) (by omega))) rfl ?_
        refine wl_y (Y.as (y_eql rfl rfl) (congrArg Value.bool (decide_eq_true (by omega)))) rfl ?_
        refine wl_y (y_move rfl) rfl ?_
        refine wl_gy 88 rfl rfl (y_loadx (o := 0) (s := 7) rfl Tryz.underlying42 rfl (by kernel_rfl) B8 rfl) rfl ?_
        refine wl_gy 88 rfl rfl (y_build rfl (cells := zInfV) (by kernel_rfl)) rfl ?_
        refine wl_gcall 88 rfl rfl Tryz.func28 rfl rfl rfl (sameInf_any _ KG.out (InfAc.zero _).1 (by rw [f2]; exact infZ_fit) infZ_fit) rfl ?_
        rintro e w9 ⟨rfl, ex⟩
        refine ⟨_, rfl, ?_⟩
        replace F := F.ext ex
        replace B3 := B3.ext ex
        replace KX := KX.ext ex
        replace KG := KG.ext ex
        replace B8 := B8.ext ex
        replace J9 := J9.ext ex
        replace J12 := J12.ext ex
        rw [decide_eq_true f2]
        refine wl_y (y_pickt rfl rfl) rfl ?_
        refine wl_y (y_assign rfl) rfl ?_
        refine wl_nil ?_
        refine wq_then_norm (hK22 ?_)
        refine wc_ret ?_
        refine wq_then_ret ?_
        refine hret rfl ?_
        exact ⟨rfl, F.toExt (by simp; omega)⟩
       ·skip
        refine wc_skip ?_
        refine wq_then_norm (hK20 ?_)
        refine wc_seq ?_; intro K23 hK23
        have hy0 : y = 0 := by omega
        have e1 : signI i seed = (i.put ys, 0) := by unfold signI; rw [hE, if_neg (fun h => h okw), if_neg (show ¬ y ≠ 0 by omega)]
        have f1 : (signI i seed).2 = 0 := by rw [e1]
        have f2 : (signI i seed).1 = i.put ys := by rw [e1]
        obtain ⟨h32, hys⟩ := sigE_zero hE hy0
        have hyl : ys.length = 64 := by rw [hys]; exact Sg.sig_length _ _
        have hsgn : signedI (signI i seed).1 (Sg.pub seed) = true := by
         rw [f2]
         unfold signedI
         have o : okInf (i.put ys) := ⟨okw.1, okw.2.1, okw.2.2.1, okw.2.2.2.1, okw.2.2.2.2.1, hyl⟩
         rw [decide_eq_true o, Bool.true_and]
         show Sg.holds (Sg.pub seed) (Sg.text labI.data.toList (infT i)) ys = true
         rw [hys]; exact Sg.holds_sig _ _
        have hpf : (i.put ys).Fit := ⟨hfit.1, hfit.2.1, hfit.2.2.1, hfit.2.2.2.1, by show ys.length ≤ _; omega⟩
        refine wc_region ?_
        refine wl_y (y_move rfl) rfl ?_
        refine wl_y (y_fieldAddr (o := 6) (s := 1) (off := 0) (o' := 6) rfl Tryz.underlying42 rfl (by kernel_rfl) rfl rfl) rfl ?_
        refine wl_ef (ef_storeB (i := 6) rfl rfl rfl (by kernel_rfl) B3 (Nat.le_of_ble_eq_true rfl)) rfl ?_
        rintro _ wS15_2 ⟨rfl, D, cg⟩
        have ex := Chs.one cg
        clear cg
        replace F := F.chs ex
        replace KX := KX.chs ex
        replace KG := KG.chs ex
        replace B8 := B8.chs ex
        replace J9 := J9.chs ex
        replace J12 := J12.chs ex
        replace B3 := D; clear D
        replace B3 := B3.congr (cs' := infV i0 i.ctx.ep i1 i2 i3 i.frm ⟨A12, k12, c12⟩) rfl
        refine wl_nil ?_
        refine wq_then_norm (hK23 ?_)
        refine wc_seq ?_; intro K24 hK24
        refine wc_region ?_
        refine wl_y (y_move rfl) rfl ?_
        have XG := F.toExt (by simp; omega)
        refine wl_call Tryz.func30 rfl rfl rfl (Public_t (c := c) (HA.ext XG) h32) rfl ?_
        rintro e w9 ⟨A16, c16, rfl, H16, hc16, ex⟩
        refine ⟨_, rfl, ?_⟩
        replace F := F.ext ex
        replace B3 := B3.ext ex
        replace KX := KX.ext ex
        replace KG := KG.ext ex
        replace B8 := B8.ext ex
        replace J9 := J9.ext ex
        replace J12 := J12.ext ex
        skip
        refine wl_y (y_move rfl) rfl ?_
        refine wl_y (y_extract rfl rfl) rfl ?_
        refine wl_y (y_extract rfl rfl) rfl ?_
        refine wl_y (y_assign rfl) rfl ?_
        refine wl_y (y_assign rfl) rfl ?_
        refine wl_nil ?_
        refine wq_then_norm (hK24 ?_)
        refine wc_seq ?_; intro K25 hK25
        refine wc_region ?_
        refine wl_y (y_move rfl) rfl ?_
        refine wl_y (y_conv rfl Tryz.underlying47 Tryz.underlying3 (i64_ok (by omega) (by omega))) rfl ?_
        refine wl_y (Y.as (y_eql rfl rfl) (congrArg Value.bool (decide_eq_true (by omega)))) rfl ?_
        refine wl_y (y_move rfl) rfl ?_
        refine wl_gy 103 rfl rfl (y_loadx (o := 0) (s := 7) rfl Tryz.underlying42 rfl (by kernel_rfl) B8 rfl) rfl ?_
        refine wl_gy 103 rfl rfl (y_loadx (o := 0) (s := 7) rfl Tryz.underlying42 rfl (by kernel_rfl) B3 rfl) rfl ?_
        have XH := F.toExt (by simp; omega)
        have HY : InfAt _ (infV i0 i.ctx.ep i1 i2 i3 i.frm ⟨A12, k12, c12⟩) (i.put ys) := ⟨i0, i1, i2, i3, ⟨A12, k12, c12⟩, rfl, hep, hfz, Bs.ext v0 XH, Bs.ext v1 XH, Bs.ext v2 XH, Bs.ext v3 XH, J12.out⟩
        refine wl_gcall 103 rfl rfl Tryz.func28 rfl rfl rfl (sameInf_any _ KG.out HY (by rw [f2]; exact hpf) hpf) rfl ?_
        rintro e w10 ⟨rfl, ex⟩
        refine ⟨_, rfl, ?_⟩
        replace F := F.ext ex
        replace B3 := B3.ext ex
        replace KX := KX.ext ex
        replace KG := KG.ext ex
        replace B8 := B8.ext ex
        replace J9 := J9.ext ex
        replace J12 := J12.ext ex
        replace H16 := H16.ext ex
        rw [decide_eq_true f2]
        refine wl_y (y_pickt rfl rfl) rfl ?_
        refine wl_y (y_move rfl) rfl ?_
        refine wl_gy 108 rfl rfl (y_loadx (o := 0) (s := 7) rfl Tryz.underlying42 rfl (by kernel_rfl) B8 rfl) rfl ?_
        refine wl_gy 108 rfl rfl (y_move rfl) rfl ?_
        refine wl_gcall 108 rfl rfl Tryz.func25 rfl rfl rfl (wsigned_any _ ⟨KG.out, G6.2⟩ (by rw [f2]; exact hsm) (by rw [f2]; show i.tag.length ≤ 1000; omega) (by rw [f2]; show ys.length ≤ 1000; omega) H16 (by omega)) rfl ?_
        rintro e w11 ⟨rfl, ex⟩
        refine ⟨_, rfl, ?_⟩
        replace F := F.ext ex
        replace B3 := B3.ext ex
        replace KX := KX.ext ex
        replace KG := KG.ext ex
        replace B8 := B8.ext ex
        replace J9 := J9.ext ex
        replace J12 := J12.ext ex
        replace H16 := H16.ext ex
        rw [hsgn]
        refine wl_y (y_pickt rfl rfl) rfl ?_
        refine wl_y (y_assign rfl) rfl ?_
        refine wl_nil ?_
        refine wq_then_norm (hK25 ?_)
        refine wc_ret ?_
        refine hret rfl ?_
        exact ⟨rfl, F.toExt (by simp; omega)⟩
end Go.Proofs.YtjllhimhiekchaaGreat
