/- Nodes of bytes; the reference's vectors at a place. -/
import Derived.Test.YtopimmomkapdoaaGreatNdE
namespace Go.Proofs.YtopimmomkapdoaaGreat
open Go.RowKit
attribute [local irreducible] Y Ef WL WC WK WQ WM OpM WN WF OpN WJ OpJ
open Wire Nd
namespace Nd
/-- A node of bytes, or an error. -/
def nodeOf (b : List UInt8) : Node × Nat :=
  if (nodeX (.ok b)).1.2 ≠ 0 then (Node.zero, (nodeX (.ok b)).1.2)
  else if endX (nodeX (.ok b)).2 ≠ 0 then (Node.zero, endX (nodeX (.ok b)).2)
  else ((nodeX (.ok b)).1.1, 0)
end Nd
theorem nodeOf_any {A : Option Addr} {n c : Nat} {b : List UInt8} (w : World) (HA : Bs w A n b) (hc : n ≤ c) :
    Calls Tryz.prog 18 #[.slice A n c] w fun e w' => ∃ cs, e = .returned (.tuple #[.agg cs, .int .u8 (((nodeOf b).2 : Nat) : Int)]) ∧ NodeF w.heap.size w' cs (nodeOf b).1 ∧ Ext w w' := by
  have F := Chs.refl [] w
  have J0 : Kp w.heap.size [] (fun w => Bs w A n b) w := Kp.bs HA (by simp)
  refine vc_enterct (s := 10) 23 Tryz.func18 rfl rfl rfl Tryz.underlying31 rfl (by kernel_rfl) rfl ?_
  intro Q hret
  refine wc_seq ?_; intro K1 hK1
  refine wc_region ?_
  refine wl_ef (ef_alloc (Z := #[.int .u8 0, .slice none 0 0, .slice none 0 0, .slice none 0 0, .int .u8 0, .slice none 0 0, .slice none 0 0, .slice none 0 0, .slice none 0 0, .slice none 0 0]) (by kernel_rfl)) rfl ?_
  rintro _ wB2 ⟨gB2, rfl, B2, hgB2, ex⟩
  have lB2 := B2.lt; have zB2 := ex.size
  replace F := F.grow ex hgB2
  replace J0 := J0.grow ex hgB2
  refine wl_y (y_assign rfl) rfl ?_
  refine wl_nil ?_
  refine wq_then_norm (hK1 ?_)
  refine wc_seq ?_; intro K2 hK2
  refine wc_region ?_
  refine wl_y (y_move rfl) rfl ?_
  refine wl_call Tryz.func37 rfl rfl rfl (newReader_any A n c b _ hc J0) rfl ?_
  rintro e w1 ⟨g4, rfl, hg4, R, ex⟩
  refine ⟨_, rfl, ?_⟩
  replace F := F.grow ex hg4
  replace J0 := J0.grow ex hg4
  replace B2 := B2.grow ex hg4
  have l4 := R.lt
  have z1 := F.size
  refine wl_y (y_assign rfl) rfl ?_
  refine wl_nil ?_
  refine wq_then_norm (hK2 ?_)
  refine wc_seq ?_; intro K3 hK3
  refine wc_region ?_
  refine wl_y (y_move rfl) rfl ?_
  refine wl_call Tryz.func38 rfl rfl rfl (take16_any _ R) rfl ?_
  rintro e w2 ⟨cs, rfl, HN, R2, ex⟩
  refine ⟨_, rfl, ?_⟩
  replace F := F.chs ex
  replace J0 := J0.chs ex
  replace B2 := B2.chs ex
  have l4b := R2.lt
  have J2 := HN.kk (S := [g4, gB2]) (by simp; omega)
  obtain ⟨h0, h1, h2, h4, h5, p0, p1, p2, rfl, hk, hs, b0, b1, b2, b4, b5, q0, q1, q2⟩ := HN
  refine wl_y (y_move rfl) rfl ?_
  refine wl_y (y_extract rfl rfl) rfl ?_
  refine wl_y (y_extract rfl rfl) rfl ?_
  refine wl_ef (ef_alloc (Z := #[.int .u8 0, .slice none 0 0, .slice none 0 0, .slice none 0 0, .int .u8 0, .slice none 0 0, .slice none 0 0, .slice none 0 0, .slice none 0 0, .slice none 0 0]) (by kernel_rfl)) rfl ?_
  rintro _ wB5 ⟨gB5, rfl, B5, hgB5, ex⟩
  have lB5 := B5.lt; have zB5 := ex.size
  have nB2_5 : gB2 < gB5 := Nat.lt_of_lt_of_le B2.lt hgB5
  replace F := F.grow ex hgB5
  replace J0 := J0.grow ex hgB5
  replace B2 := B2.grow ex hgB5
  replace R2 := R2.grow ex hgB5
  replace J2 := J2.grow ex hgB5
  refine wl_ef (ef_storeP (o := 0) rfl rfl (by kernel_rfl) B5 (Nat.le_of_ble_eq_true rfl) (all_ones rfl)) rfl ?_
  rintro _ wS2_6 ⟨rfl, D, cg⟩
  have ex := Chs.one cg
  clear cg
  replace F := F.chs ex
  replace J0 := J0.chs ex
  replace B2 := B2.chs ex
  replace R2 := R2.chs ex
  replace J2 := J2.chs ex
  replace B5 := D; clear D
  replace B5 := B5.congr (cs' := nodeV (nodeX (.ok b)).1.1.kind h0 h1 h2 (nodeX (.ok b)).1.1.leaf.src h4 h5 p0 p1 p2) rfl
  refine wl_y (y_assign rfl) rfl ?_
  refine wl_nil ?_
  refine wq_then_norm (hK3 ?_)
  refine wc_seq ?_; intro K4 hK4
  refine wc_seq ?_; intro K5 hK5
  refine wc_region ?_
  refine wl_y (y_move rfl) rfl ?_
  refine wl_y (y_eql rfl rfl) rfl ?_
  refine wl_nil ?_
  refine wq_then_norm (hK5 ?_)
  refine wc_dec rfl (fun hc1 => ?_) (fun hc1 => ?_)
  · skip
    refine wc_region ?_
    refine wl_y (y_move rfl) rfl ?_
    refine wl_call Tryz.func39 rfl rfl rfl (rEnd_any _ R2) rfl ?_
    rintro e w3 ⟨rfl, ex⟩
    refine ⟨_, rfl, ?_⟩
    replace F := F.ext ex
    replace J0 := J0.ext ex
    replace B2 := B2.ext ex
    replace R2 := R2.ext ex
    replace J2 := J2.ext ex
    replace B5 := B5.ext ex
    skip
    refine wl_y (y_assign rfl) rfl ?_
    refine wl_nil ?_
    refine wq_then_norm (hK4 ?_)
    refine wc_seq ?_; intro K6 hK6
    refine wc_seq ?_; intro K7 hK7
    refine wc_region ?_
    refine wl_y (y_move rfl) rfl ?_
    refine wl_y (y_neq rfl rfl) rfl ?_
    refine wl_nil ?_
    refine wq_then_norm (hK7 ?_)
    refine wc_dec rfl (fun hc2 => ?_) (fun hc2 => ?_)
    · skip
      refine wc_seq ?_; intro K8 hK8
      have e1 : nodeOf b = (Node.zero, endX (nodeX (.ok b)).2) := by unfold nodeOf; rw [if_neg (by omega), if_pos (by omega)]
      refine wc_region ?_
      refine wl_y (y_build rfl (cells := zNodeV) (by kernel_rfl)) rfl ?_
      refine wl_y (y_move rfl) rfl ?_
      refine wl_ef (ef_storeP (o := 0) rfl rfl (by kernel_rfl) B2 (Nat.le_of_ble_eq_true rfl) (all_ones rfl)) rfl ?_
      rintro _ wS6_2 ⟨rfl, D, cg⟩
      have ex := Chs.one cg
      clear cg
      replace F := F.chs ex
      replace J0 := J0.chs ex
      replace R2 := R2.chs ex
      replace J2 := J2.chs ex
      replace B5 := B5.chs ex
      replace B2 := D; clear D
      replace B2 := B2.congr (cs' := zNodeV) rfl
      refine wl_y (y_assign rfl) rfl ?_
      refine wl_nil ?_
      refine wq_then_norm (hK8 ?_)
      refine wc_ret ?_
      refine wq_then_ret ?_
      refine hret rfl rfl B2 rfl ?_
      rw [e1]; exact ⟨zNodeV, rfl, NodeF.zero _ _, ((F.drop (by omega)).drop (by omega)).drop (by omega) |>.toExt (by simp)⟩
    · skip
      refine wc_skip ?_
      refine wq_then_norm (hK6 ?_)
      refine wc_seq ?_; intro K9 hK9
      have e1 : nodeOf b = ((nodeX (.ok b)).1.1, 0) := by unfold nodeOf; rw [if_neg (by omega), if_neg (by omega)]
      refine wc_region ?_
      refine wl_y (y_loadw rfl Tryz.underlying31 rfl (by kernel_rfl) B5) rfl ?_
      refine wl_ef (ef_storeP (o := 0) rfl rfl (by kernel_rfl) B2 (Nat.le_of_ble_eq_true rfl) (all_ones rfl)) rfl ?_
      rintro _ wS7_1 ⟨rfl, D, cg⟩
      have ex := Chs.one cg
      clear cg
      replace F := F.chs ex
      replace J0 := J0.chs ex
      replace R2 := R2.chs ex
      replace J2 := J2.chs ex
      replace B5 := B5.chs ex
      replace B2 := D; clear D
      replace B2 := B2.congr (cs' := nodeV (nodeX (.ok b)).1.1.kind h0 h1 h2 (nodeX (.ok b)).1.1.leaf.src h4 h5 p0 p1 p2) rfl
      refine wl_y (y_assign rfl) rfl ?_
      refine wl_nil ?_
      refine wq_then_norm (hK9 ?_)
      refine wc_ret ?_
      refine hret rfl rfl B2 rfl ?_
      rw [e1]; exact ⟨_, rfl, J2.out.mono (by omega), ((F.drop (by omega)).drop (by omega)).drop (by omega) |>.toExt (by simp)⟩
  · skip
    refine wc_skip ?_
    refine wq_then_norm (hK4 ?_)
    refine wc_seq ?_; intro K10 hK10
    refine wc_seq ?_; intro K11 hK11
    refine wc_region ?_
    refine wl_y (y_move rfl) rfl ?_
    refine wl_y (y_neq rfl rfl) rfl ?_
    refine wl_nil ?_
    refine wq_then_norm (hK11 ?_)
    refine wc_yes rfl (by omega) ?_
    refine wc_seq ?_; intro K12 hK12
    have e1 : nodeOf b = (Node.zero, (nodeX (.ok b)).1.2) := by unfold nodeOf; rw [if_pos (by omega)]
    refine wc_region ?_
    refine wl_y (y_build rfl (cells := zNodeV) (by kernel_rfl)) rfl ?_
    refine wl_y (y_move rfl) rfl ?_
    refine wl_ef (ef_storeP (o := 0) rfl rfl (by kernel_rfl) B2 (Nat.le_of_ble_eq_true rfl) (all_ones rfl)) rfl ?_
    rintro _ wS6_2 ⟨rfl, D, cg⟩
    have ex := Chs.one cg
    clear cg
    replace F := F.chs ex
    replace J0 := J0.chs ex
    replace R2 := R2.chs ex
    replace J2 := J2.chs ex
    replace B5 := B5.chs ex
    replace B2 := D; clear D
    replace B2 := B2.congr (cs' := zNodeV) rfl
    refine wl_y (y_assign rfl) rfl ?_
    refine wl_nil ?_
    refine wq_then_norm (hK12 ?_)
    refine wc_ret ?_
    refine wq_then_ret ?_
    refine hret rfl rfl B2 rfl ?_
    rw [e1]; exact ⟨zNodeV, rfl, NodeF.zero _ _, ((F.drop (by omega)).drop (by omega)).drop (by omega) |>.toExt (by simp)⟩
end Go.Proofs.YtopimmomkapdoaaGreat
