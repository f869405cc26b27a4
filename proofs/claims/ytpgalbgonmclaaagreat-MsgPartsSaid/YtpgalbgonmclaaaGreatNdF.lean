/- Nodes of bytes; the reference's vectors at a place. -/
import Derived.Test.YtpgalbgonmclaaaGreatNdE
namespace Go.Proofs.YtpgalbgonmclaaaGreat
open Go.RowKit
attribute [local irreducible] Y Ef WL WC WK WQ WM OpM WN WF OpN WJ OpJ
open Wire Nd
namespace Nd
end Nd
/-- The reference's item: a vector, as it is taken. -/
def itemV (kd sz : Int) (n : Nat) (h : Hd) : Array Value := #[.int .i64 kd, .int .i64 sz, .int .u64 (n : Int), .slice h.A h.n h.c, .slice none 0 0]
theorem rtakeV_any {A : Option Addr} {n c at_ : Nat} {b : List UInt8} (w : World) (HA : Bs w A n b) (hc : n ≤ c) (hn : n ≤ 1000000) (hat : at_ ≤ n) :
    Calls Tryz.prog 106 #[.slice A n c, .int .i64 (at_ : Int), .agg (itemV 1 0 0 nilH)] w fun e w' => ∃ h, e = .returned (.tuple #[.agg (itemV 1 0 0 h), .int .i64 (((vecAt b at_).2.1 : Nat) : Int), .int .i64 (((vecAt b at_).2.2 : Nat) : Int)]) ∧ Sub A n b h.A h.n (vecAt b at_).1 ∧ h.n ≤ h.c ∧ Ext w w' := by
  have F := Chs.refl [] w
  have J0 : Kp w.heap.size [] (fun w => Bs w A n b) w := Kp.bs HA (by simp)
  refine vc_enterctt (s := 5) 186 Tryz.func106 rfl rfl rfl Tryz.underlying147 rfl (by kernel_rfl) rfl ?_
  intro Q hret
  refine wc_seq ?_; intro K1 hK1
  refine wc_region ?_
  refine wl_ef (ef_box rfl rfl) rfl ?_
  rintro _ wB5 ⟨gB5, rfl, B5, hgB5, ex⟩
  have lB5 := B5.lt; have zB5 := ex.size
  replace F := F.ext ex
  replace J0 := J0.ext ex
  refine wl_ef (ef_alloc (Z := #[.int .i64 0, .int .i64 0, .int .u64 0, .slice none 0 0, .slice none 0 0]) (by kernel_rfl)) rfl ?_
  rintro _ wB6 ⟨gB6, rfl, B6, hgB6, ex⟩
  have lB6 := B6.lt; have zB6 := ex.size
  replace F := F.grow ex hgB6
  replace J0 := J0.grow ex hgB6
  replace B5 := B5.grow ex hgB6
  refine wl_y (y_assign rfl) rfl ?_
  refine wl_y (y_assign rfl) rfl ?_
  refine wl_nil ?_
  refine wq_then_norm (hK1 ?_)
  refine wc_seq ?_; intro K2 hK2
  refine wc_region ?_
  refine wl_y (y_fieldAddr (o := 0) (s := 1) (off := 0) (o' := 0) rfl Tryz.underlying147 rfl (by kernel_rfl) rfl rfl) rfl ?_
  refine wl_y (y_load1 rfl Tryz.underlying3 rfl (B5.get (i := 0) rfl)) rfl ?_
  refine wl_y (y_fieldAddr (o := 1) (s := 1) (off := 0) (o' := 1) rfl Tryz.underlying147 rfl (by kernel_rfl) rfl rfl) rfl ?_
  refine wl_y (y_load1 rfl Tryz.underlying3 rfl (B5.get (i := 1) rfl)) rfl ?_
  refine wl_y (y_build rfl (cells := itemV 1 0 0 nilH) (by kernel_rfl)) rfl ?_
  refine wl_ef (ef_alloc (Z := #[.int .i64 0, .int .i64 0, .int .u64 0, .slice none 0 0, .slice none 0 0]) (by kernel_rfl)) rfl ?_
  rintro _ wB9 ⟨gB9, rfl, B9, hgB9, ex⟩
  have lB9 := B9.lt; have zB9 := ex.size
  have nB6_9 : gB6 < gB9 := Nat.lt_of_lt_of_le B6.lt hgB9
  replace F := F.grow ex hgB9
  replace J0 := J0.grow ex hgB9
  replace B5 := B5.grow ex hgB9
  replace B6 := B6.grow ex hgB9
  refine wl_ef (ef_storeP (o := 0) rfl rfl (by kernel_rfl) B9 (Nat.le_of_ble_eq_true rfl) (all_ones rfl)) rfl ?_
  rintro _ wS1_6 ⟨rfl, D, cg⟩
  have ex := Chs.one cg
  clear cg
  replace F := F.chs ex
  replace J0 := J0.chs ex
  replace B5 := B5.chs ex
  replace B6 := B6.chs ex
  replace B9 := D; clear D
  replace B9 := B9.congr (cs' := itemV 1 0 0 nilH) rfl
  refine wl_nil ?_
  refine wq_then_norm (hK2 ?_)
  refine wc_seq ?_; intro K3 hK3
  refine wc_seq ?_; intro K4 hK4
  refine wc_region ?_
  refine wl_y (y_fieldAddr (o := 0) (s := 1) (off := 0) (o' := 0) rfl Tryz.underlying147 rfl (by kernel_rfl) rfl rfl) rfl ?_
  refine wl_y (y_load1 rfl Tryz.underlying3 rfl (B5.get (i := 0) rfl)) rfl ?_
  refine wl_nil ?_
  refine wq_then_norm (hK4 ?_)
  refine wc_block ?_
  refine wc_seq ?_; intro K5 hK5
  refine wc_region ?_
  refine wl_y (Y.as (y_eql rfl rfl) (congrArg Value.bool (decide_eq_false (by omega)))) rfl ?_
  refine wl_y (y_assign rfl) rfl ?_
  refine wl_nil ?_
  refine wq_then_norm (hK5 ?_)
  refine wc_false rfl rfl ?_
  refine wc_seq ?_; intro K6 hK6
  refine wc_region ?_
  refine wl_y (Y.as (y_eql rfl rfl) (congrArg Value.bool (decide_eq_true rfl))) rfl ?_
  refine wl_y (y_assign rfl) rfl ?_
  refine wl_nil ?_
  refine wq_then_norm (hK6 ?_)
  refine wc_true rfl rfl ?_
  refine wc_seq ?_; intro K7 hK7
  refine wc_region ?_
  refine wl_y (y_move rfl) rfl ?_
  refine wl_y (y_move rfl) rfl ?_
  refine wl_call Tryz.func129 rfl rfl rfl (readVec_any J0.out hc hn hat) rfl ?_
  rintro e w1 ⟨A1, k1, c1, rfl, hsub, hcap, ex⟩
  refine ⟨_, rfl, ?_⟩
  replace F := F.ext ex
  replace J0 := J0.ext ex
  replace B5 := B5.ext ex
  replace B6 := B6.ext ex
  replace B9 := B9.ext ex
  skip
  refine wl_y (y_move rfl) rfl ?_
  refine wl_y (y_extract rfl rfl) rfl ?_
  refine wl_y (y_extract rfl rfl) rfl ?_
  refine wl_y (y_extract rfl rfl) rfl ?_
  refine wl_y (y_assign rfl) rfl ?_
  refine wl_y (y_assign rfl) rfl ?_
  refine wl_y (y_assign rfl) rfl ?_
  refine wl_nil ?_
  refine wq_then_norm (hK7 ?_)
  refine wc_seq ?_; intro K8 hK8
  refine wc_region ?_
  refine wl_y (y_move rfl) rfl ?_
  refine wl_y (y_fieldAddr (o := 3) (s := 1) (off := 0) (o' := 3) rfl Tryz.underlying147 rfl (by kernel_rfl) rfl rfl) rfl ?_
  refine wl_ef (ef_storeB (i := 3) rfl rfl rfl (by kernel_rfl) B9 (Nat.le_of_ble_eq_true rfl)) rfl ?_
  rintro _ wS15_2 ⟨rfl, D, cg⟩
  have ex := Chs.one cg
  clear cg
  replace F := F.chs ex
  replace J0 := J0.chs ex
  replace B5 := B5.chs ex
  replace B6 := B6.chs ex
  replace B9 := D; clear D
  replace B9 := B9.congr (cs' := itemV 1 0 0 ⟨A1, k1, c1⟩) rfl
  refine wl_nil ?_
  refine wq_then_norm (hK8 ?_)
  refine wc_seq ?_; intro K9 hK9
  refine wc_region ?_
  refine wl_y (y_loadw rfl Tryz.underlying147 rfl (by kernel_rfl) B9) rfl ?_
  refine wl_y (y_move rfl) rfl ?_
  refine wl_y (y_move rfl) rfl ?_
  refine wl_ef (ef_storeP (o := 0) rfl rfl (by kernel_rfl) B6 (Nat.le_of_ble_eq_true rfl) (all_ones rfl)) rfl ?_
  rintro _ wS16_3 ⟨rfl, D, cg⟩
  have ex := Chs.one cg
  clear cg
  replace F := F.chs ex
  replace J0 := J0.chs ex
  replace B5 := B5.chs ex
  replace B9 := B9.chs ex
  replace B6 := D; clear D
  replace B6 := B6.congr (cs' := itemV 1 0 0 ⟨A1, k1, c1⟩) rfl
  refine wl_y (y_assign rfl) rfl ?_
  refine wl_y (y_assign rfl) rfl ?_
  refine wl_nil ?_
  refine wq_then_norm (hK9 ?_)
  refine wc_ret ?_
  refine wq_blk_ret ?_
  refine wq_then_ret ?_
  refine hret rfl rfl rfl B6 rfl ?_
  exact ⟨⟨A1, k1, c1⟩, rfl, hsub, hcap, (F.drop (by omega)).drop (by omega) |>.toExt (by simp)⟩
end Go.Proofs.YtpgalbgonmclaaaGreat
