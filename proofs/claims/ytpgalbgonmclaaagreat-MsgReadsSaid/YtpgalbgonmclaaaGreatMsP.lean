/- Packages, proposals, commits and messages held against each other: what the reference answers. -/
import Derived.Test.YtpgalbgonmclaaaGreatMsN
namespace Go.Proofs.YtpgalbgonmclaaaGreat
open Go.RowKit
attribute [local irreducible] Y Ef WL WC WK WQ WM OpM WN WF OpN
open Nd Wire
theorem pack_eq {a b : Pack} : a = b ↔ a.init = b.init ∧ a.leaf = b.leaf ∧ a.sig = b.sig := by
  constructor
  · rintro rfl; simp
  · cases a; cases b; simp_all
instance (a b : Pack) : Decidable (a = b) := decidable_of_iff _ pack_eq.symm
theorem prop_eq {a b : Prop20} : a = b ↔ a.kind = b.kind ∧ a.pack = b.pack ∧ a.leaf = b.leaf ∧ a.at_ = b.at_ := by
  constructor
  · rintro rfl; simp
  · cases a; cases b; simp_all
instance (a b : Prop20) : Decidable (a = b) := decidable_of_iff _ prop_eq.symm
theorem bxd_eq {a b : Bxd} : a = b ↔ a.enc = b.enc ∧ a.box = b.box := by
  constructor
  · rintro rfl; simp
  · cases a; cases b; simp_all
instance : DecidableEq Bxd := fun a b => decidable_of_iff _ bxd_eq.symm
theorem stp_eq {a b : Stp} : a = b ↔ a.box = b.box ∧ a.to = b.to := by
  constructor
  · rintro rfl; simp
  · cases a; cases b; simp_all
instance : DecidableEq Stp := fun a b => decidable_of_iff _ stp_eq.symm
theorem item_eq {a b : Item20} : a = b ↔ a.ref = b.ref ∧ a.prop = b.prop := by
  constructor
  · rintro rfl; simp
  · cases a; cases b; simp_all
instance : DecidableEq Item20 := fun a b => decidable_of_iff _ item_eq.symm
theorem com_eq {a b : Com20} : a = b ↔ a.items = b.items ∧ a.has = b.has ∧ a.way.leaf = b.way.leaf ∧ a.way.steps = b.way.steps := by
  constructor
  · rintro rfl; simp
  · obtain ⟨i, h, l, s⟩ := a
    obtain ⟨i', h', l', s'⟩ := b
    rintro ⟨h1, h2, h3, h4⟩
    simp only at h1 h2 h3 h4
    subst h1; subst h2; subst h3; subst h4; rfl
instance (a b : Com20) : Decidable (a = b) := decidable_of_iff _ com_eq.symm
def Ctx.Fit (c : Ctx) : Prop := c.grp.length ≤ 1000000 ∧ c.tree.length ≤ 1000000 ∧ c.trans.length ≤ 1000000
def sameCont (a b : Mess) : Prop := a.group = b.group ∧ a.epoch = b.epoch ∧ a.frm = b.frm ∧ a.kind = b.kind ∧ a.prop = b.prop ∧ a.com = b.com
instance (a b : Mess) : Decidable (sameCont a b) := by unfold sameCont; infer_instance
theorem mess_eq {a b : Mess} : a = b ↔ sameCont a b ∧ a.sig = b.sig ∧ a.tag = b.tag ∧ a.member = b.member := by
  unfold sameCont
  constructor
  · rintro rfl; simp
  · cases a; cases b; simp_all
instance (a b : Mess) : Decidable (a = b) := decidable_of_iff _ mess_eq.symm
theorem ctx_eq {a b : Ctx} : a = b ↔ a.grp = b.grp ∧ a.ep = b.ep ∧ a.tree = b.tree ∧ a.trans = b.trans := by
  constructor
  · rintro rfl; simp
  · cases a; cases b; simp_all
instance (a b : Ctx) : Decidable (a = b) := decidable_of_iff _ ctx_eq.symm
theorem take_eq_snoc {α : Type} {xs ys : List α} {i : Nat} {x y : α} (hx : xs[i]? = some x) (hy : ys[i]? = some y) (h : xs.take i = ys.take i) (e : x = y) : xs.take (i + 1) = ys.take (i + 1) := by
  rw [take_snoc hx, take_snoc hy, h, e]
theorem eq_of_take {α : Type} {xs ys : List α} {i : Nat} (h : xs.take i = ys.take i) (hx : xs.length ≤ i) (hy : ys.length ≤ i) : xs = ys := by
  rwa [List.take_of_length_le hx, List.take_of_length_le hy] at h
theorem at_eq {α : Type} {xs ys : List α} {i : Nat} {x y : α} (hx : xs[i]? = some x) (hy : ys[i]? = some y) (h : xs = ys) : x = y := by
  subst h; rw [hx] at hy; injection hy
section
variable {cs ds : Array Value}
theorem samePack_any {a b : Pack} (w : World) (H : PackAt w cs a) (K : PackAt w ds b) (hf : a.Fit) (hg : b.Fit) :
    Calls Tryz.prog 13 #[.agg cs, .agg ds] w fun e w' => e = .returned (.bool (decide (a = b))) ∧ Ext w w' := by
  have HL := H.leaf
  have KL := K.leaf
  obtain ⟨i, h0, h1, h2, h4, h5, g, rfl, _, a0, _, _, _, _, _, a1⟩ := H
  obtain ⟨i', k0, k1, k2, k4, k5, g', rfl, _, b0, _, _, _, _, _, b1⟩ := K
  have l0 := a0.1; have l1 := a1.1; have m0 := b0.1; have m1 := b1.1
  have f0 := hf.1; have f1 := hf.2.2; have g0 := hg.1; have g1 := hg.2.2
  have E := Ext.refl w
  refine vc_enter1 24 Tryz.func13 rfl rfl rfl rfl ?_
  intro Q hret
  refine wc_seq ?_; intro K1 hK1
  refine wc_region ?_
  refine wl_ef (ef_box rfl rfl) rfl ?_
  rintro _ wB2 ⟨gB2, rfl, B2, hgB2, ex⟩
  have lB2 := B2.lt; have zB2 := ex.size
  replace E := E.ext ex
  refine wl_ef (ef_box rfl rfl) rfl ?_
  rintro _ wB3 ⟨gB3, rfl, B3, hgB3, ex⟩
  have lB3 := B3.lt; have zB3 := ex.size
  replace E := E.ext ex
  replace B2 := B2.ext ex
  refine wl_y (y_assign rfl) rfl ?_
  refine wl_nil ?_
  refine wq_then_norm (hK1 ?_)
  refine wc_seq ?_; intro K2 hK2
  refine wc_region ?_
  refine wl_y (y_fieldAddr (o := 0) (s := 1) (off := 0) (o' := 0) rfl Tryz.underlying27 rfl (by kernel_rfl) rfl rfl) rfl ?_
  refine wl_y (y_load1 rfl Tryz.underlying22 rfl (B2.get (i := 0) rfl)) rfl ?_
  refine wl_y (y_fieldAddr (o := 0) (s := 1) (off := 0) (o' := 0) rfl Tryz.underlying27 rfl (by kernel_rfl) rfl rfl) rfl ?_
  refine wl_y (y_load1 rfl Tryz.underlying22 rfl (B3.get (i := 0) rfl)) rfl ?_
  refine wl_call Tryz.func28 rfl rfl rfl (sm_any (Bs.ext a0 E) (Bs.ext b0 E) (by omega) (by omega)) rfl ?_
  rintro e w2 ⟨rfl, ex⟩
  refine ⟨_, rfl, ?_⟩
  replace E := E.ext ex
  replace B2 := B2.ext ex
  replace B3 := B3.ext ex
  skip
  refine wl_yask (y_move rfl) rfl (fun q0 => ?_) (fun q0 => ?_)
  · skip
    refine wl_gy 10 rfl rfl (y_fieldAddr (o := 1) (s := 6) (off := 0) (o' := 1) rfl Tryz.underlying27 rfl (by kernel_rfl) rfl rfl) rfl ?_
    refine wl_gy 10 rfl rfl (y_loadx (o := 1) (s := 6) rfl Tryz.underlying25 rfl (by kernel_rfl) B2 rfl) rfl ?_
    refine wl_gy 10 rfl rfl (y_fieldAddr (o := 1) (s := 6) (off := 0) (o' := 1) rfl Tryz.underlying27 rfl (by kernel_rfl) rfl rfl) rfl ?_
    refine wl_gy 10 rfl rfl (y_loadx (o := 1) (s := 6) rfl Tryz.underlying25 rfl (by kernel_rfl) B3 rfl) rfl ?_
    refine wl_gcall 10 rfl rfl Tryz.func49 rfl rfl rfl (rsameLeaf_any _ (HL.ext E) (KL.ext E) hf.2.1 hg.2.1) rfl ?_
    rintro e w3 ⟨rfl, ex⟩
    refine ⟨_, rfl, ?_⟩
    replace E := E.ext ex
    replace B2 := B2.ext ex
    replace B3 := B3.ext ex
    skip
    refine wl_y (y_pickt rfl rfl) rfl ?_
    refine wl_yask (y_move rfl) rfl (fun q1 => ?_) (fun q1 => ?_)
    · skip
      refine wl_gy 17 rfl rfl (y_fieldAddr (o := 7) (s := 1) (off := 0) (o' := 7) rfl Tryz.underlying27 rfl (by kernel_rfl) rfl rfl) rfl ?_
      refine wl_gy 17 rfl rfl (y_load1 rfl Tryz.underlying22 rfl (B2.get (i := 7) rfl)) rfl ?_
      refine wl_gy 17 rfl rfl (y_fieldAddr (o := 7) (s := 1) (off := 0) (o' := 7) rfl Tryz.underlying27 rfl (by kernel_rfl) rfl rfl) rfl ?_
      refine wl_gy 17 rfl rfl (y_load1 rfl Tryz.underlying22 rfl (B3.get (i := 7) rfl)) rfl ?_
      refine wl_gcall 17 rfl rfl Tryz.func28 rfl rfl rfl (sm_any (Bs.ext a1 E) (Bs.ext b1 E) (by omega) (by omega)) rfl ?_
      rintro e w4 ⟨rfl, ex⟩
      refine ⟨_, rfl, ?_⟩
      replace E := E.ext ex
      replace B2 := B2.ext ex
      replace B3 := B3.ext ex
      skip
      refine wl_y (y_pickt rfl rfl) rfl ?_
      refine wl_y (y_assign rfl) rfl ?_
      refine wl_nil ?_
      refine wq_then_norm (hK2 ?_)
      refine wc_ret ?_
      refine hret rfl ?_
      exact ⟨ret_bool ⟨fun h => pack_eq.2 ⟨q0, q1, h⟩, fun h => by rw [h]⟩, E⟩
    · skip
      refine wl_gno 17 rfl rfl rfl rfl ?_
      refine wl_gno 17 rfl rfl rfl rfl ?_
      refine wl_gno 17 rfl rfl rfl rfl ?_
      refine wl_gno 17 rfl rfl rfl rfl ?_
      refine wl_gno 17 rfl rfl rfl rfl ?_
      refine wl_y (y_pickf rfl rfl) rfl ?_
      refine wl_y (y_assign rfl) rfl ?_
      refine wl_nil ?_
      refine wq_then_norm (hK2 ?_)
      refine wc_ret ?_
      refine hret rfl ?_
      exact ⟨ret_no fun h => q1 (by rw [h]), E⟩
  · skip
    refine wl_gno 10 rfl rfl rfl rfl ?_
    refine wl_gno 10 rfl rfl rfl rfl ?_
    refine wl_gno 10 rfl rfl rfl rfl ?_
    refine wl_gno 10 rfl rfl rfl rfl ?_
    refine wl_gno 10 rfl rfl rfl rfl ?_
    refine wl_y (y_pickf rfl rfl) rfl ?_
    refine wl_y (y_move rfl) rfl ?_
    refine wl_gno 17 rfl rfl rfl rfl ?_
    refine wl_gno 17 rfl rfl rfl rfl ?_
    refine wl_gno 17 rfl rfl rfl rfl ?_
    refine wl_gno 17 rfl rfl rfl rfl ?_
    refine wl_gno 17 rfl rfl rfl rfl ?_
    refine wl_y (y_pickf rfl rfl) rfl ?_
    refine wl_y (y_assign rfl) rfl ?_
    refine wl_nil ?_
    refine wq_then_norm (hK2 ?_)
    refine wc_ret ?_
    refine hret rfl ?_
    exact ⟨ret_no fun h => q0 (by rw [h]), E⟩
theorem sameProp_any {a b : Prop20} (w : World) (H : PropAt w cs a) (K : PropAt w ds b) (hf : a.Fit) (hg : b.Fit) :
    Calls Tryz.prog 14 #[.agg cs, .agg ds] w fun e w' => e = .returned (.bool (decide (a = b))) ∧ Ext w w' := by
  have HP := H.pack
  have KP := K.pack
  have HL := H.leaf
  have KL := K.leaf
  obtain ⟨i, h0, h1, h2, h4, h5, g, l0, l1, l2, l4, l5, rfl, _⟩ := H
  obtain ⟨i', k0, k1, k2, k4, k5, g', m0, m1, m2, m4, m5, rfl, _⟩ := K
  have E := Ext.refl w
  refine vc_enter1 31 Tryz.func14 rfl rfl rfl rfl ?_
  intro Q hret
  refine wc_seq ?_; intro K1 hK1
  refine wc_region ?_
  refine wl_ef (ef_box rfl rfl) rfl ?_
  rintro _ wB2 ⟨gB2, rfl, B2, hgB2, ex⟩
  have lB2 := B2.lt; have zB2 := ex.size
  replace E := E.ext ex
  refine wl_ef (ef_box rfl rfl) rfl ?_
  rintro _ wB3 ⟨gB3, rfl, B3, hgB3, ex⟩
  have lB3 := B3.lt; have zB3 := ex.size
  replace E := E.ext ex
  replace B2 := B2.ext ex
  refine wl_y (y_assign rfl) rfl ?_
  refine wl_nil ?_
  refine wq_then_norm (hK1 ?_)
  refine wc_seq ?_; intro K2 hK2
  refine wc_region ?_
  refine wl_y (y_fieldAddr (o := 0) (s := 1) (off := 0) (o' := 0) rfl Tryz.underlying32 rfl (by kernel_rfl) rfl rfl) rfl ?_
  refine wl_y (y_load1 rfl Tryz.underlying5 rfl (B2.get (i := 0) rfl)) rfl ?_
  refine wl_y (y_fieldAddr (o := 0) (s := 1) (off := 0) (o' := 0) rfl Tryz.underlying32 rfl (by kernel_rfl) rfl rfl) rfl ?_
  refine wl_y (y_load1 rfl Tryz.underlying5 rfl (B3.get (i := 0) rfl)) rfl ?_
  refine wl_y (y_eql rfl rfl) rfl ?_
  refine wl_yask (y_move rfl) rfl (fun q0 => ?_) (fun q0 => ?_)
  · skip
    refine wl_gy 10 rfl rfl (y_fieldAddr (o := 1) (s := 8) (off := 0) (o' := 1) rfl Tryz.underlying32 rfl (by kernel_rfl) rfl rfl) rfl ?_
    refine wl_gy 10 rfl rfl (y_loadx (o := 1) (s := 8) rfl Tryz.underlying27 rfl (by kernel_rfl) B2 rfl) rfl ?_
    refine wl_gy 10 rfl rfl (y_fieldAddr (o := 1) (s := 8) (off := 0) (o' := 1) rfl Tryz.underlying32 rfl (by kernel_rfl) rfl rfl) rfl ?_
    refine wl_gy 10 rfl rfl (y_loadx (o := 1) (s := 8) rfl Tryz.underlying27 rfl (by kernel_rfl) B3 rfl) rfl ?_
    refine wl_gcall 10 rfl rfl Tryz.func13 rfl rfl rfl (samePack_any _ (HP.ext E) (KP.ext E) hf.1 hg.1) rfl ?_
    rintro e w2 ⟨rfl, ex⟩
    refine ⟨_, rfl, ?_⟩
    replace E := E.ext ex
    replace B2 := B2.ext ex
    replace B3 := B3.ext ex
    skip
    refine wl_y (y_pickt rfl rfl) rfl ?_
    refine wl_yask (y_move rfl) rfl (fun q1 => ?_) (fun q1 => ?_)
    · skip
      refine wl_gy 17 rfl rfl (y_fieldAddr (o := 9) (s := 6) (off := 0) (o' := 9) rfl Tryz.underlying32 rfl (by kernel_rfl) rfl rfl) rfl ?_
      refine wl_gy 17 rfl rfl (y_loadx (o := 9) (s := 6) rfl Tryz.underlying25 rfl (by kernel_rfl) B2 rfl) rfl ?_
      refine wl_gy 17 rfl rfl (y_fieldAddr (o := 9) (s := 6) (off := 0) (o' := 9) rfl Tryz.underlying32 rfl (by kernel_rfl) rfl rfl) rfl ?_
      refine wl_gy 17 rfl rfl (y_loadx (o := 9) (s := 6) rfl Tryz.underlying25 rfl (by kernel_rfl) B3 rfl) rfl ?_
      refine wl_gcall 17 rfl rfl Tryz.func49 rfl rfl rfl (rsameLeaf_any _ (HL.ext E) (KL.ext E) hf.2 hg.2) rfl ?_
      rintro e w3 ⟨rfl, ex⟩
      refine ⟨_, rfl, ?_⟩
      replace E := E.ext ex
      replace B2 := B2.ext ex
      replace B3 := B3.ext ex
      skip
      refine wl_y (y_pickt rfl rfl) rfl ?_
      refine wl_yask (y_move rfl) rfl (fun q2 => ?_) (fun q2 => ?_)
      · skip
        refine wl_gy 24 rfl rfl (y_fieldAddr (o := 15) (s := 1) (off := 0) (o' := 15) rfl Tryz.underlying32 rfl (by kernel_rfl) rfl rfl) rfl ?_
        refine wl_gy 24 rfl rfl (y_load1 rfl Tryz.underlying3 rfl (B2.get (i := 15) rfl)) rfl ?_
        refine wl_gy 24 rfl rfl (y_fieldAddr (o := 15) (s := 1) (off := 0) (o' := 15) rfl Tryz.underlying32 rfl (by kernel_rfl) rfl rfl) rfl ?_
        refine wl_gy 24 rfl rfl (y_load1 rfl Tryz.underlying3 rfl (B3.get (i := 15) rfl)) rfl ?_
        refine wl_gy 24 rfl rfl (y_eql rfl rfl) rfl ?_
        refine wl_y (y_pickt rfl rfl) rfl ?_
        refine wl_y (y_assign rfl) rfl ?_
        refine wl_nil ?_
        refine wq_then_norm (hK2 ?_)
        refine wc_ret ?_
        refine hret rfl ?_
        exact ⟨ret_bool ⟨fun h => prop_eq.2 ⟨by omega, q1, q2, h⟩, fun h => by rw [h]⟩, E⟩
      · skip
        refine wl_gno 24 rfl rfl rfl rfl ?_
        refine wl_gno 24 rfl rfl rfl rfl ?_
        refine wl_gno 24 rfl rfl rfl rfl ?_
        refine wl_gno 24 rfl rfl rfl rfl ?_
        refine wl_gno 24 rfl rfl rfl rfl ?_
        refine wl_y (y_pickf rfl rfl) rfl ?_
        refine wl_y (y_assign rfl) rfl ?_
        refine wl_nil ?_
        refine wq_then_norm (hK2 ?_)
        refine wc_ret ?_
        refine hret rfl ?_
        exact ⟨ret_no fun h => q2 (by rw [h]), E⟩
    · skip
      refine wl_gno 17 rfl rfl rfl rfl ?_
      refine wl_gno 17 rfl rfl rfl rfl ?_
      refine wl_gno 17 rfl rfl rfl rfl ?_
      refine wl_gno 17 rfl rfl rfl rfl ?_
      refine wl_gno 17 rfl rfl rfl rfl ?_
      refine wl_y (y_pickf rfl rfl) rfl ?_
      refine wl_y (y_move rfl) rfl ?_
      refine wl_gno 24 rfl rfl rfl rfl ?_
      refine wl_gno 24 rfl rfl rfl rfl ?_
      refine wl_gno 24 rfl rfl rfl rfl ?_
      refine wl_gno 24 rfl rfl rfl rfl ?_
      refine wl_gno 24 rfl rfl rfl rfl ?_
      refine wl_y (y_pickf rfl rfl) rfl ?_
      refine wl_y (y_assign rfl) rfl ?_
      refine wl_nil ?_
      refine wq_then_norm (hK2 ?_)
      refine wc_ret ?_
      refine hret rfl ?_
      exact ⟨ret_no fun h => q1 (by rw [h]), E⟩
  · skip
    refine wl_gno 10 rfl rfl rfl rfl ?_
    refine wl_gno 10 rfl rfl rfl rfl ?_
    refine wl_gno 10 rfl rfl rfl rfl ?_
    refine wl_gno 10 rfl rfl rfl rfl ?_
    refine wl_gno 10 rfl rfl rfl rfl ?_
    refine wl_y (y_pickf rfl rfl) rfl ?_
    refine wl_y (y_move rfl) rfl ?_
    refine wl_gno 17 rfl rfl rfl rfl ?_
    refine wl_gno 17 rfl rfl rfl rfl ?_
    refine wl_gno 17 rfl rfl rfl rfl ?_
    refine wl_gno 17 rfl rfl rfl rfl ?_
    refine wl_gno 17 rfl rfl rfl rfl ?_
    refine wl_y (y_pickf rfl rfl) rfl ?_
    refine wl_y (y_move rfl) rfl ?_
    refine wl_gno 24 rfl rfl rfl rfl ?_
    refine wl_gno 24 rfl rfl rfl rfl ?_
    refine wl_gno 24 rfl rfl rfl rfl ?_
    refine wl_gno 24 rfl rfl rfl rfl ?_
    refine wl_gno 24 rfl rfl rfl rfl ?_
    refine wl_y (y_pickf rfl rfl) rfl ?_
    refine wl_y (y_assign rfl) rfl ?_
    refine wl_nil ?_
    refine wq_then_norm (hK2 ?_)
    refine wc_ret ?_
    refine hret rfl ?_
    exact ⟨ret_no fun h => q0 (by rw [h]), E⟩
set_option maxHeartbeats 2000000 in
theorem sameCom_any {a b : Com20} (w : World) (H : ComAt w cs a) (K : ComAt w ds b) (hf : a.Fit) (hg : b.Fit) :
    Calls Tryz.prog 15 #[.agg cs, .agg ds] w fun e w' => e = .returned (.bool (decide (a = b))) ∧ Ext w w' := by
  obtain ⟨it, h0, h1, h2, q, h4, h5, t, rfl, a1, HW⟩ := H
  obtain ⟨it', j0, j1, j2, q', j4, j5, t', rfl, b1, KW⟩ := K
  have HL := HW.parts
  have KL := KW.parts
  have n1 := a1.1; have n2 := HL.2.1; have n3 := b1.1; have n4 := KL.2.1
  have fi1 := hf.1; have fi2 := hf.2.2.2.1
  have E := Ext.refl w
  refine vc_enter1 154 Tryz.func15 rfl rfl rfl rfl ?_
  intro Q hret
  refine wc_seq ?_; intro K1 hK1
  refine wc_region ?_
  refine wl_ef (ef_box rfl rfl) rfl ?_
  rintro _ wB2 ⟨gB2, rfl, B2, hgB2, ex⟩
  have lB2 := B2.lt; have zB2 := ex.size
  replace E := E.ext ex
  refine wl_ef (ef_box rfl rfl) rfl ?_
  rintro _ wB3 ⟨gB3, rfl, B3, hgB3, ex⟩
  have lB3 := B3.lt; have zB3 := ex.size
  replace E := E.ext ex
  replace B2 := B2.ext ex
  refine wl_y (y_assign rfl) rfl ?_
  refine wl_nil ?_
  refine wq_then_norm (hK1 ?_)
  refine wc_seq ?_; intro K2 hK2
  refine wc_seq ?_; intro K3 hK3
  refine wc_region ?_
  refine wl_y (y_fieldAddr (o := 0) (s := 1) (off := 0) (o' := 0) rfl Tryz.underlying40 rfl (by kernel_rfl) rfl rfl) rfl ?_
  refine wl_y (y_load1 rfl Tryz.underlying35 rfl (B2.get (i := 0) rfl)) rfl ?_
  refine wl_y (y_len_slice rfl Tryz.underlying35) rfl ?_
  refine wl_y (y_fieldAddr (o := 0) (s := 1) (off := 0) (o' := 0) rfl Tryz.underlying40 rfl (by kernel_rfl) rfl rfl) rfl ?_
  refine wl_y (y_load1 rfl Tryz.underlying35 rfl (B3.get (i := 0) rfl)) rfl ?_
  refine wl_y (y_len_slice rfl Tryz.underlying35) rfl ?_
  refine wl_y (y_neq rfl rfl) rfl ?_
  refine wl_yask (y_move rfl) rfl (fun p0 => ?_) (fun p0 => ?_)
  · skip
    refine wl_gno 17 rfl rfl rfl rfl ?_
    refine wl_gno 17 rfl rfl rfl rfl ?_
    refine wl_gno 17 rfl rfl rfl rfl ?_
    refine wl_gno 17 rfl rfl rfl rfl ?_
    refine wl_gno 17 rfl rfl rfl rfl ?_
    refine wl_y (y_pickt rfl rfl) rfl ?_
    refine wl_y (y_move rfl) rfl ?_
    refine wl_gno 24 rfl rfl rfl rfl ?_
    refine wl_gno 24 rfl rfl rfl rfl ?_
    refine wl_gno 24 rfl rfl rfl rfl ?_
    refine wl_gno 24 rfl rfl rfl rfl ?_
    refine wl_gno 24 rfl rfl rfl rfl ?_
    refine wl_gno 24 rfl rfl rfl rfl ?_
    refine wl_gno 24 rfl rfl rfl rfl ?_
    refine wl_gno 24 rfl rfl rfl rfl ?_
    refine wl_y (y_pickt rfl rfl) rfl ?_
    refine wl_y (y_move rfl) rfl ?_
    refine wl_gno 34 rfl rfl rfl rfl ?_
    refine wl_gno 34 rfl rfl rfl rfl ?_
    refine wl_gno 34 rfl rfl rfl rfl ?_
    refine wl_gno 34 rfl rfl rfl rfl ?_
    refine wl_gno 34 rfl rfl rfl rfl ?_
    refine wl_gno 34 rfl rfl rfl rfl ?_
    refine wl_gno 34 rfl rfl rfl rfl ?_
    refine wl_gno 34 rfl rfl rfl rfl ?_
    refine wl_gno 34 rfl rfl rfl rfl ?_
    refine wl_y (y_pickt rfl rfl) rfl ?_
    refine wl_nil ?_
    refine wq_then_norm (hK3 ?_)
    refine wc_true rfl rfl ?_
    refine wc_seq ?_; intro K4 hK4
    refine wc_region ?_
    refine wl_y (y_assign rfl) rfl ?_
    refine wl_nil ?_
    refine wq_then_norm (hK4 ?_)
    refine wc_ret ?_
    refine wq_then_ret ?_
    refine hret rfl ?_
    exact ⟨ret_no fun h => p0 (by rw [← n1, ← n3, h]), E⟩
  · skip
    refine wl_gy 17 rfl rfl (y_fieldAddr (o := 1) (s := 1) (off := 0) (o' := 1) rfl Tryz.underlying40 rfl (by kernel_rfl) rfl rfl) rfl ?_
    refine wl_gy 17 rfl rfl (y_load1 rfl Tryz.underlying4 rfl (B2.get (i := 1) rfl)) rfl ?_
    refine wl_gy 17 rfl rfl (y_fieldAddr (o := 1) (s := 1) (off := 0) (o' := 1) rfl Tryz.underlying40 rfl (by kernel_rfl) rfl rfl) rfl ?_
    refine wl_gy 17 rfl rfl (y_load1 rfl Tryz.underlying4 rfl (B3.get (i := 1) rfl)) rfl ?_
    refine wl_gy 17 rfl rfl (y_neqb rfl rfl Tryz.underlying4) rfl ?_
    refine wl_y (y_pickf rfl rfl) rfl ?_
    refine wl_yaskb (y_move rfl) rfl (fun p1 => ?_) (fun p1 => ?_)
    · skip
      refine wl_gno 24 rfl rfl rfl rfl ?_
      refine wl_gno 24 rfl rfl rfl rfl ?_
      refine wl_gno 24 rfl rfl rfl rfl ?_
      refine wl_gno 24 rfl rfl rfl rfl ?_
      refine wl_gno 24 rfl rfl rfl rfl ?_
      refine wl_gno 24 rfl rfl rfl rfl ?_
      refine wl_gno 24 rfl rfl rfl rfl ?_
      refine wl_gno 24 rfl rfl rfl rfl ?_
      refine wl_y (y_pickt rfl rfl) rfl ?_
      refine wl_y (y_move rfl) rfl ?_
      refine wl_gno 34 rfl rfl rfl rfl ?_
      refine wl_gno 34 rfl rfl rfl rfl ?_
      refine wl_gno 34 rfl rfl rfl rfl ?_
      refine wl_gno 34 rfl rfl rfl rfl ?_
      refine wl_gno 34 rfl rfl rfl rfl ?_
      refine wl_gno 34 rfl rfl rfl rfl ?_
      refine wl_gno 34 rfl rfl rfl rfl ?_
      refine wl_gno 34 rfl rfl rfl rfl ?_
      refine wl_gno 34 rfl rfl rfl rfl ?_
      refine wl_y (y_pickt rfl rfl) rfl ?_
      refine wl_nil ?_
      refine wq_then_norm (hK3 ?_)
      refine wc_true rfl rfl ?_
      refine wc_seq ?_; intro K5 hK5
      refine wc_region ?_
      refine wl_y (y_assign rfl) rfl ?_
      refine wl_nil ?_
      refine wq_then_norm (hK5 ?_)
      refine wc_ret ?_
      refine wq_then_ret ?_
      refine hret rfl ?_
      exact ⟨ret_no fun h => (by rw [h] at p1; simp at p1), E⟩
    · skip
      refine wl_gy 24 rfl rfl (y_fieldAddr (o := 2) (s := 7) (off := 0) (o' := 2) rfl Tryz.underlying40 rfl (by kernel_rfl) rfl rfl) rfl ?_
      refine wl_gy 24 rfl rfl (y_fieldAddr (o := 0) (s := 6) (off := 2) (o' := 2) rfl Tryz.underlying38 rfl (by kernel_rfl) rfl rfl) rfl ?_
      refine wl_gy 24 rfl rfl (y_loadx (o := 2) (s := 6) rfl Tryz.underlying25 rfl (by kernel_rfl) B2 rfl) rfl ?_
      refine wl_gy 24 rfl rfl (y_fieldAddr (o := 2) (s := 7) (off := 0) (o' := 2) rfl Tryz.underlying40 rfl (by kernel_rfl) rfl rfl) rfl ?_
      refine wl_gy 24 rfl rfl (y_fieldAddr (o := 0) (s := 6) (off := 2) (o' := 2) rfl Tryz.underlying38 rfl (by kernel_rfl) rfl rfl) rfl ?_
      refine wl_gy 24 rfl rfl (y_loadx (o := 2) (s := 6) rfl Tryz.underlying25 rfl (by kernel_rfl) B3 rfl) rfl ?_
      refine wl_gcall 24 rfl rfl Tryz.func49 rfl rfl rfl (rsameLeaf_any _ (HL.1.ext E) (KL.1.ext E) hf.2.2.1 hg.2.2.1) rfl ?_
      rintro e w2 ⟨rfl, ex⟩
      refine ⟨_, rfl, ?_⟩
      replace E := E.ext ex
      replace B2 := B2.ext ex
      replace B3 := B3.ext ex
      skip
      refine wl_gy 24 rfl rfl (y_not rfl) rfl ?_
      refine wl_y (y_pickf rfl rfl) rfl ?_
      refine wl_yaskb (y_move rfl) rfl (fun p2 => ?_) (fun p2 => ?_)
      · skip
        refine wl_gno 34 rfl rfl rfl rfl ?_
        refine wl_gno 34 rfl rfl rfl rfl ?_
        refine wl_gno 34 rfl rfl rfl rfl ?_
        refine wl_gno 34 rfl rfl rfl rfl ?_
        refine wl_gno 34 rfl rfl rfl rfl ?_
        refine wl_gno 34 rfl rfl rfl rfl ?_
        refine wl_gno 34 rfl rfl rfl rfl ?_
        refine wl_gno 34 rfl rfl rfl rfl ?_
        refine wl_gno 34 rfl rfl rfl rfl ?_
        refine wl_y (y_pickt rfl rfl) rfl ?_
        refine wl_nil ?_
        refine wq_then_norm (hK3 ?_)
        refine wc_true rfl rfl ?_
        refine wc_seq ?_; intro K6 hK6
        refine wc_region ?_
        refine wl_y (y_assign rfl) rfl ?_
        refine wl_nil ?_
        refine wq_then_norm (hK6 ?_)
        refine wc_ret ?_
        refine wq_then_ret ?_
        refine hret rfl ?_
        exact ⟨ret_no fun h => (by rw [h, decide_eq_true rfl] at p2; cases p2), E⟩
      · skip
        refine wl_gy 34 rfl rfl (y_fieldAddr (o := 2) (s := 7) (off := 0) (o' := 2) rfl Tryz.underlying40 rfl (by kernel_rfl) rfl rfl) rfl ?_
        refine wl_gy 34 rfl rfl (y_fieldAddr (o := 6) (s := 1) (off := 2) (o' := 8) rfl Tryz.underlying38 rfl (by kernel_rfl) rfl rfl) rfl ?_
        refine wl_gy 34 rfl rfl (y_load1 rfl Tryz.underlying36 rfl (B2.get (i := 8) rfl)) rfl ?_
        refine wl_gy 34 rfl rfl (y_len_slice rfl Tryz.underlying36) rfl ?_
        refine wl_gy 34 rfl rfl (y_fieldAddr (o := 2) (s := 7) (off := 0) (o' := 2) rfl Tryz.underlying40 rfl (by kernel_rfl) rfl rfl) rfl ?_
        refine wl_gy 34 rfl rfl (y_fieldAddr (o := 6) (s := 1) (off := 2) (o' := 8) rfl Tryz.underlying38 rfl (by kernel_rfl) rfl rfl) rfl ?_
        refine wl_gy 34 rfl rfl (y_load1 rfl Tryz.underlying36 rfl (B3.get (i := 8) rfl)) rfl ?_
        refine wl_gy 34 rfl rfl (y_len_slice rfl Tryz.underlying36) rfl ?_
        refine wl_gy 34 rfl rfl (y_neq rfl rfl) rfl ?_
        refine wl_y (y_pickf rfl rfl) rfl ?_
        refine wl_nil ?_
        refine wq_then_norm (hK3 ?_)
        refine wc_dec rfl (fun hc1 => ?_) (fun hc1 => ?_)
        · skip
          refine wc_seq ?_; intro K7 hK7
          refine wc_region ?_
          refine wl_y (y_assign rfl) rfl ?_
          refine wl_nil ?_
          refine wq_then_norm (hK7 ?_)
          refine wc_ret ?_
          refine wq_then_ret ?_
          refine hret rfl ?_
          exact ⟨ret_no fun h => hc1 (by rw [← n2, ← n4, h]), E⟩
        · skip
          refine wc_skip ?_
          refine wq_then_norm (hK2 ?_)
          refine wc_seq ?_; intro K8 hK8
          refine wc_seq ?_; intro K9 hK9
          have p1' : a.has = b.has := by simpa using p1
          have p2' : a.way.leaf = b.way.leaf := by simpa using p2
          refine wc_region ?_
          refine wl_y (y_assign rfl) rfl ?_
          refine wl_nil ?_
          refine wq_then_norm (hK9 ?_)
          refine wc_block ?_
          refine wc_loop (fun n' L wr => ∃ (i : Nat), L = [(2, .pointer (some ⟨gB2, 0, none⟩)), (3, .pointer (some ⟨gB3, 0, none⟩)), (5, .int .i64 (i : Int))] ∧ n' = it.n - i ∧ (i ≤ it.n ∧ Ext w2 wr ∧ Ext w wr ∧ a.items.take i = b.items.take i)) _ _ ⟨0, rfl, rfl, by omega, Ext.refl _, E, by simp⟩ ⟨rfl, rfl, (by first | rfl | exact congrArg some (int_val (by omega))), trivial⟩ ?_
          rintro KL1 n' L wr ⟨i, rfl, rfl, hi, X, E, heq⟩ hL1
          replace B2 := B2.ext X; replace B3 := B3.ext X
          refine wc_seq ?_; intro K10 hK10
          refine wc_seq ?_; intro K11 hK11
          refine wc_region ?_
          refine wl_y (y_move rfl) rfl ?_
          refine wl_y (y_fieldAddr (o := 0) (s := 1) (off := 0) (o' := 0) rfl Tryz.underlying40 rfl (by kernel_rfl) rfl rfl) rfl ?_
          refine wl_y (y_load1 rfl Tryz.underlying35 rfl (B2.get (i := 0) rfl)) rfl ?_
          refine wl_y (y_len_slice rfl Tryz.underlying35) rfl ?_
          refine wl_y (y_lss rfl rfl) rfl ?_
          refine wl_nil ?_
          refine wq_then_norm (hK11 ?_)
          refine wc_dec rfl (fun hc2 => ?_) (fun hc2 => ?_)
          · skip
            refine wc_skip ?_
            refine wq_then_norm (hK10 ?_)
            refine wc_seq ?_; intro K12 hK12
            refine wc_block ?_
            refine wc_seq ?_; intro K13 hK13
            obtain ⟨b1_, o1, cs1, x, e1, _, hx, _, hR, hcx⟩ := a1.get2 (by omega) (i := i) (by omega)
            obtain ⟨b2_, o2, cs2, y, e2, _, hy, _, hS, hcy⟩ := b1.get2 (by omega) (i := i) (by omega)
            obtain ⟨r, j, k0, k1, k2, p, k4, k5, g, m0, m1, m2, u, m4, m5, rfl, hr, HP⟩ := hR
            obtain ⟨r', j', k0', k1', k2', pp, k4', k5', g', m0', m1', m2', u', m4', m5', rfl, hr', KP⟩ := hS
            have fx := hf.2.1 x (ix_mem hx); have fy := hg.2.1 y (ix_mem hy)
            have l5 := hr.1; have l6 := hr'.1; have f0 := fx.1; have f1 := fy.1
            refine wc_draw (by kernel_rfl) 30 rfl ?_; intro wd6 ex hd6
            replace X := X.ext ex
            replace E := E.ext ex
            replace B2 := B2.ext ex
            replace B3 := B3.ext ex
            refine wm_y 0 rfl (by kernel_rfl) (y_fieldAddr (o := 0) (s := 1) (off := 0) (o' := 0) rfl Tryz.underlying40 rfl (by kernel_rfl) rfl rfl) rfl ?_
            refine wm_y 1 rfl (by kernel_rfl) (y_load1 rfl Tryz.underlying35 rfl (B2.get (i := 0) rfl)) rfl ?_
            refine wm_y 2 rfl (by kernel_rfl) (y_move rfl) rfl ?_
            refine wm_y 3 rfl (by kernel_rfl) (y_ixsE (s := 17) (j := i) e1 rfl rfl Tryz.underlying35 (by kernel_rfl) rfl (by omega)) rfl ?_
            refine wm_y 4 rfl (by kernel_rfl) (y_fieldAddr (o := 0) (s := 1) rfl Tryz.underlying95 rfl (by kernel_rfl) rfl rfl) rfl ?_
            refine wm_y 5 rfl (by kernel_rfl) (y_load1 rfl Tryz.underlying22 rfl (E.cellE (hcx 0 _ rfl))) rfl ?_
            refine wm_y 6 rfl (by kernel_rfl) (y_fieldAddr (o := 0) (s := 1) (off := 0) (o' := 0) rfl Tryz.underlying40 rfl (by kernel_rfl) rfl rfl) rfl ?_
            refine wm_y 7 rfl (by kernel_rfl) (y_load1 rfl Tryz.underlying35 rfl (B3.get (i := 0) rfl)) rfl ?_
            refine wm_y 8 rfl (by kernel_rfl) (y_move rfl) rfl ?_
            refine wm_y 9 rfl (by kernel_rfl) (y_ixsE (s := 17) (j := i) e2 rfl rfl Tryz.underlying35 (by kernel_rfl) rfl (by omega)) rfl ?_
            refine wm_y 10 rfl (by kernel_rfl) (y_fieldAddr (o := 0) (s := 1) rfl Tryz.underlying95 rfl (by kernel_rfl) rfl rfl) rfl ?_
            refine wm_y 11 rfl (by kernel_rfl) (y_load1 rfl Tryz.underlying22 rfl (E.cellE (hcy 0 _ rfl))) rfl ?_
            refine wm_one 12 (by kernel_rfl) ?_; refine om_call rfl Tryz.func28 rfl rfl rfl (sm_any (Bs.ext hr E) (Bs.ext hr' E) (by omega) (by omega)) rfl ?_
            rintro e w3 ⟨rfl, ex⟩
            refine ⟨_, rfl, .inr ex, ?_⟩
            replace X := X.ext ex
            replace E := E.ext ex
            replace B2 := B2.ext ex
            replace B3 := B3.ext ex
            skip
            refine wm_y 13 rfl (by kernel_rfl) (y_not rfl) rfl ?_
            refine wm_yaskb 14 rfl (by kernel_rfl) (y_move rfl) rfl (fun v0 => ?_) (fun v0 => ?_)
            · skip
              refine wm_gno 15 rfl (by kernel_rfl) 66 rfl rfl rfl rfl ?_
              refine wm_gno 16 rfl (by kernel_rfl) 66 rfl rfl rfl rfl ?_
              refine wm_gno 17 rfl (by kernel_rfl) 66 rfl rfl rfl rfl ?_
              refine wm_gno 18 rfl (by kernel_rfl) 66 rfl rfl rfl rfl ?_
              refine wm_gno 19 rfl (by kernel_rfl) 66 rfl rfl rfl rfl ?_
              refine wm_gno 20 rfl (by kernel_rfl) 66 rfl rfl rfl rfl ?_
              refine wm_gno 21 rfl (by kernel_rfl) 66 rfl rfl rfl rfl ?_
              refine wm_gno 22 rfl (by kernel_rfl) 66 rfl rfl rfl rfl ?_
              refine wm_gno 23 rfl (by kernel_rfl) 66 rfl rfl rfl rfl ?_
              refine wm_gno 24 rfl (by kernel_rfl) 66 rfl rfl rfl rfl ?_
              refine wm_gno 25 rfl (by kernel_rfl) 66 rfl rfl rfl rfl ?_
              refine wm_gno 26 rfl (by kernel_rfl) 66 rfl rfl rfl rfl ?_
              refine wm_gno 27 rfl (by kernel_rfl) 66 rfl rfl rfl rfl ?_
              refine wm_gno 28 rfl (by kernel_rfl) 66 rfl rfl rfl rfl ?_
              refine wm_y 29 rfl (by kernel_rfl) (y_pickt rfl rfl) rfl ?_
              refine wm_done (by kernel_rfl) ?_
              refine wq_nop ?_
              refine wq_then_norm (hK13 ?_)
              refine wc_true rfl rfl ?_
              refine wc_seq ?_; intro K14 hK14
              refine wc_region ?_
              refine wl_y (y_assign rfl) rfl ?_
              refine wl_nil ?_
              refine wq_then_norm (hK14 ?_)
              refine wc_ret ?_
              refine wq_blk_ret ?_
              refine wq_then_ret ?_
              refine wq_then_ret ?_
              refine wq_blk_ret ?_
              refine wq_then_ret ?_
              refine hret rfl ?_
              exact ⟨ret_no fun h => (by rw [decide_eq_true (item_eq.1 (at_eq hx hy (com_eq.1 h).1)).1] at v0; cases v0), E⟩
            · skip
              refine wm_gy 15 rfl (by kernel_rfl) 66 rfl rfl (y_fieldAddr (o := 0) (s := 1) (off := 0) (o' := 0) rfl Tryz.underlying40 rfl (by kernel_rfl) rfl rfl) rfl ?_
              refine wm_gy 16 rfl (by kernel_rfl) 66 rfl rfl (y_load1 rfl Tryz.underlying35 rfl (B2.get (i := 0) rfl)) rfl ?_
              refine wm_gy 17 rfl (by kernel_rfl) 66 rfl rfl (y_move rfl) rfl ?_
              refine wm_gy 18 rfl (by kernel_rfl) 66 rfl rfl (y_ixsE (s := 17) (j := i) e1 rfl rfl Tryz.underlying35 (by kernel_rfl) rfl (by omega)) rfl ?_
              refine wm_gy 19 rfl (by kernel_rfl) 66 rfl rfl (y_fieldAddr (o := 1) (s := 16) rfl Tryz.underlying95 rfl (by kernel_rfl) rfl rfl) rfl ?_
              refine wm_gy 20 rfl (by kernel_rfl) 66 rfl rfl (y_loadp (cs := propV x.prop.kind j k0 k1 k2 p k4 k5 g m0 m1 m2 u m4 m5 x.prop.at_) rfl Tryz.underlying32 rfl (by kernel_rfl) fun j' v hv => by rw [Addr.add_plain, Nat.add_assoc, Nat.add_comm 1 j']; exact E.cellE (hcx (j' + 1) v (itm_prop hv))) rfl ?_
              refine wm_gy 21 rfl (by kernel_rfl) 66 rfl rfl (y_fieldAddr (o := 0) (s := 1) (off := 0) (o' := 0) rfl Tryz.underlying40 rfl (by kernel_rfl) rfl rfl) rfl ?_
              refine wm_gy 22 rfl (by kernel_rfl) 66 rfl rfl (y_load1 rfl Tryz.underlying35 rfl (B3.get (i := 0) rfl)) rfl ?_
              refine wm_gy 23 rfl (by kernel_rfl) 66 rfl rfl (y_move rfl) rfl ?_
              refine wm_gy 24 rfl (by kernel_rfl) 66 rfl rfl (y_ixsE (s := 17) (j := i) e2 rfl rfl Tryz.underlying35 (by kernel_rfl) rfl (by omega)) rfl ?_
              refine wm_gy 25 rfl (by kernel_rfl) 66 rfl rfl (y_fieldAddr (o := 1) (s := 16) rfl Tryz.underlying95 rfl (by kernel_rfl) rfl rfl) rfl ?_
              refine wm_gy 26 rfl (by kernel_rfl) 66 rfl rfl (y_loadp (cs := propV y.prop.kind j' k0' k1' k2' pp k4' k5' g' m0' m1' m2' u' m4' m5' y.prop.at_) rfl Tryz.underlying32 rfl (by kernel_rfl) fun j' v hv => by rw [Addr.add_plain, Nat.add_assoc, Nat.add_comm 1 j']; exact E.cellE (hcy (j' + 1) v (itm_prop hv))) rfl ?_
              refine wm_one 27 (by kernel_rfl) ?_; refine om_gcall rfl 66 rfl rfl Tryz.func14 rfl rfl rfl (sameProp_any _ (HP.ext E) (KP.ext E) fx.2 fy.2) rfl ?_
              rintro e w4 ⟨rfl, ex⟩
              refine ⟨_, rfl, .inr ex, ?_⟩
              replace X := X.ext ex
              replace E := E.ext ex
              replace B2 := B2.ext ex
              replace B3 := B3.ext ex
              skip
              refine wm_gy 28 rfl (by kernel_rfl) 66 rfl rfl (y_not rfl) rfl ?_
              refine wm_y 29 rfl (by kernel_rfl) (y_pickf rfl rfl) rfl ?_
              refine wm_done (by kernel_rfl) ?_
              refine wq_nop ?_
              refine wq_then_norm (hK13 ?_)
              refine wc_cond rfl (fun hc3 => ?_) (fun hc3 => ?_)
              · skip
                refine wc_seq ?_; intro K15 hK15
                refine wc_region ?_
                refine wl_y (y_assign rfl) rfl ?_
                refine wl_nil ?_
                refine wq_then_norm (hK15 ?_)
                refine wc_ret ?_
                refine wq_blk_ret ?_
                refine wq_then_ret ?_
                refine wq_then_ret ?_
                refine wq_blk_ret ?_
                refine wq_then_ret ?_
                refine hret rfl ?_
                exact ⟨ret_no fun h => (by rw [decide_eq_true (item_eq.1 (at_eq hx hy (com_eq.1 h).1)).2] at hc3; cases hc3), E⟩
              · skip
                refine wc_skip ?_
                refine wq_blk_norm ?_
                refine wq_then_norm (hK12 ?_)
                refine wc_region ?_
                refine wl_y (y_move rfl) rfl ?_
                refine wl_y (y_add rfl rfl (i64_ok (by omega) (by omega))) rfl ?_
                refine wl_y (y_assign rfl) rfl ?_
                refine wl_nil ?_
                refine wq_then_norm ?_
                refine hL1 _ _ ⟨i + 1, rfl, rfl, by omega, X, E, take_eq_snoc hx hy heq (item_eq.2 ⟨by simpa using v0, by simpa using hc3⟩)⟩ (by omega) ⟨rfl, rfl, (by first | rfl | exact congrArg some (int_val (by omega))), trivial⟩
          · skip
            refine wc_exit ?_
            refine wq_then_exit ?_
            refine wq_then_exit ?_
            refine wq_blk_hit ?_
            refine wq_then_norm (hK8 ?_)
            refine wc_seq ?_; intro K16 hK16
            refine wc_seq ?_; intro K17 hK17
            have q1 := eq_of_take heq (by omega) (by omega)
            have X2 := Ext.refl wr
            have B2r := B2; have B3r := B3
            refine wc_region ?_
            refine wl_y (y_assign rfl) rfl ?_
            refine wl_nil ?_
            refine wq_then_norm (hK17 ?_)
            refine wc_block ?_
            refine wc_loop (fun n' L wq => ∃ (i : Nat), L = [(2, .pointer (some ⟨gB2, 0, none⟩)), (3, .pointer (some ⟨gB3, 0, none⟩)), (6, .int .i64 (i : Int))] ∧ n' = t.n - i ∧ (i ≤ t.n ∧ Ext wr wq ∧ Ext w wq ∧ a.way.steps.take i = b.way.steps.take i)) _ _ ⟨0, rfl, rfl, by omega, X2, E, by simp⟩ ⟨rfl, rfl, (by first | rfl | exact congrArg some (int_val (by omega))), trivial⟩ ?_
            rintro KL2 n' L wq ⟨i, rfl, rfl, hi2, X, E, heq2⟩ hL2
            have B2 := B2r.ext X; have B3 := B3r.ext X
            refine wc_seq ?_; intro K18 hK18
            refine wc_seq ?_; intro K19 hK19
            refine wc_region ?_
            refine wl_y (y_move rfl) rfl ?_
            refine wl_y (y_fieldAddr (o := 2) (s := 7) (off := 0) (o' := 2) rfl Tryz.underlying40 rfl (by kernel_rfl) rfl rfl) rfl ?_
            refine wl_y (y_fieldAddr (o := 6) (s := 1) (off := 2) (o' := 8) rfl Tryz.underlying38 rfl (by kernel_rfl) rfl rfl) rfl ?_
            refine wl_y (y_load1 rfl Tryz.underlying36 rfl (B2.get (i := 8) rfl)) rfl ?_
            refine wl_y (y_len_slice rfl Tryz.underlying36) rfl ?_
            refine wl_y (y_lss rfl rfl) rfl ?_
            refine wl_nil ?_
            refine wq_then_norm (hK19 ?_)
            refine wc_dec rfl (fun hc4 => ?_) (fun hc4 => ?_)
            · skip
              obtain ⟨b1_, o1, cs1, x, e1, _, hx, hcz, hR, hcx⟩ := HL.2.get2 (by omega) (i := i) (by omega)
              obtain ⟨b2_, o2, cs2, y, e2, _, hy, hcw, hS, hcy⟩ := KL.2.get2 (by omega) (i := i) (by omega)
              obtain ⟨g0, g1, rfl, u0, u1⟩ := hR
              obtain ⟨d0, d1, rfl, v0, v1⟩ := hS
              have fx := hf.2.2.2.2 x (ix_mem hx); have fy := hg.2.2.2.2 y (ix_mem hy)
              have l5 := u0.1; have l6 := u1.1; have l7 := v0.1; have l8 := v1.1
              have f0 := fx.1; have f1 := fy.1; have f2 := fx.2.1; have f3 := fy.2.1
              refine wc_skip ?_
              refine wq_then_norm (hK18 ?_)
              refine wc_seq ?_; intro K20 hK20
              refine wc_block ?_
              refine wc_seq ?_; intro K21 hK21
              refine wc_join (fun L wj11 => ∃ (p7 p8 : Nat), L = [(2, .pointer (some ⟨gB2, 0, none⟩)), (3, .pointer (some ⟨gB3, 0, none⟩)), (6, .int .i64 (i : Int)), (7, .pointer (some ⟨p7, 0, none⟩)), (8, .pointer (some ⟨p8, 0, none⟩))] ∧ (Ext wr wj11 ∧ Ext w wj11 ∧ Blk wj11 p7 98 (twoV g0 g1) ∧ Blk wj11 p8 98 (twoV d0 d1))) ?_ ?_
              · skip
                refine wc_drawB (by kernel_rfl) 16 rfl ?_; intro wd11 ex hd11
                replace X := X.ext ex
                replace E := E.ext ex
                replace B2 := B2.ext ex
                replace B3 := B3.ext ex
                have X_0 := X
                have E_0 := E
                have B2_0 := B2
                have B3_0 := B3
                have X0 := Ext.refl wd11
                refine wn_y 0 rfl (by kernel_rfl) (y_fieldAddr (o := 2) (s := 7) (off := 0) (o' := 2) rfl Tryz.underlying40 rfl (by kernel_rfl) rfl rfl) rfl ?_
                refine wn_y 1 rfl (by kernel_rfl) (y_fieldAddr (o := 6) (s := 1) (off := 2) (o' := 8) rfl Tryz.underlying38 rfl (by kernel_rfl) rfl rfl) rfl ?_
                refine wn_y 2 rfl (by kernel_rfl) (y_load1 rfl Tryz.underlying36 rfl (B2_0.get (i := 8) rfl)) rfl ?_
                refine wn_y 3 rfl (by kernel_rfl) (y_move rfl) rfl ?_
                refine wn_y 4 rfl (by kernel_rfl) (y_ixsE (s := 2) (j := i) e1 rfl rfl Tryz.underlying36 (by kernel_rfl) rfl (by omega)) rfl ?_
                refine wn_y 5 rfl (by kernel_rfl) (y_loadp (cs := twoV g0 g1) rfl Tryz.underlying98 rfl (by kernel_rfl) fun j v hv => by rw [Addr.add_plain]; exact E_0.cellE (hcx j v hv)) rfl ?_
                refine wn_y 6 rfl (by kernel_rfl) (y_fieldAddr (o := 2) (s := 7) (off := 0) (o' := 2) rfl Tryz.underlying40 rfl (by kernel_rfl) rfl rfl) rfl ?_
                refine wn_y 7 rfl (by kernel_rfl) (y_fieldAddr (o := 6) (s := 1) (off := 2) (o' := 8) rfl Tryz.underlying38 rfl (by kernel_rfl) rfl rfl) rfl ?_
                refine wn_y 8 rfl (by kernel_rfl) (y_load1 rfl Tryz.underlying36 rfl (B3_0.get (i := 8) rfl)) rfl ?_
                refine wn_y 9 rfl (by kernel_rfl) (y_move rfl) rfl ?_
                refine wn_y 10 rfl (by kernel_rfl) (y_ixsE (s := 2) (j := i) e2 rfl rfl Tryz.underlying36 (by kernel_rfl) rfl (by omega)) rfl ?_
                refine wn_y 11 rfl (by kernel_rfl) (y_loadp (cs := twoV d0 d1) rfl Tryz.underlying98 rfl (by kernel_rfl) fun j v hv => by rw [Addr.add_plain]; exact E_0.cellE (hcy j v hv)) rfl ?_
                refine wf_start (fl := [flA 12 7 98 (twoV nilH nilH), flA 13 8 98 (twoV nilH nilH)]) rfl ?_
                refine wf_land2 ⟨(fall (flA_runs rfl (by kernel_rfl)) (fall (flA_runs rfl (by kernel_rfl)) fall_nil)), by decide, by decide, (fall (⟨rfl, by decide⟩) (fall (⟨rfl, by decide⟩) fall_nil)), (fall (mem_of_has (by kernel_rfl)) (fall (mem_of_has (by kernel_rfl)) fall_nil))⟩ (by kernel_rfl) ?_
                rintro _ _ wl11 ex ⟨⟨g7, rfl, Bg7⟩, hg7⟩ ⟨⟨g8, rfl, Bg8⟩, hg8⟩ farg7_g8
                replace hg7 := hg7 g7 rfl
                replace hg8 := hg8 g8 rfl
                have neg7_g8 : g7 ≠ g8 := fun e => farg7_g8 g7 rfl (by rw [e]; rfl)
                replace X := X.ext ex
                replace E := E.ext ex
                replace B2 := B2.ext ex
                replace B3 := B3.ext ex
                replace X0 := X0.ext ex
                refine wn_one 14 (by kernel_rfl) ?_
                refine on_ef rfl (ef_storeW rfl rfl (by kernel_rfl) Bg7 rfl (all_ones rfl)) rfl ?_
                rintro _ wn11_14 ⟨rfl, Bg7, cg⟩
                replace X0 := X0.chg cg hg7
                refine ⟨X0, ?_⟩
                replace X := X_0.ext X0
                replace E := E_0.ext X0
                replace B2 := B2_0.ext X0
                replace B3 := B3_0.ext X0
                replace Bg8 := Bg8.chg cg (by omega)
                refine wn_one 15 (by kernel_rfl) ?_
                refine on_ef rfl (ef_storeW rfl rfl (by kernel_rfl) Bg8 rfl (all_ones rfl)) rfl ?_
                rintro _ wn11_15 ⟨rfl, Bg8, cg⟩
                replace X0 := X0.chg cg hg8
                refine ⟨X0, ?_⟩
                replace X := X_0.ext X0
                replace E := E_0.ext X0
                replace B2 := B2_0.ext X0
                replace B3 := B3_0.ext X0
                replace Bg7 := Bg7.chg cg (by omega)
                refine wn_done (by kernel_rfl) ?_
                refine wq_nop ?_
                exact wq_join _ ⟨g7, g8, rfl, X, E, Bg7, Bg8⟩ ⟨rfl, rfl, (by first | rfl | exact congrArg some (int_val (by omega))), rfl, rfl, trivial⟩
              rintro L wj11 ⟨p7, p8, rfl, X, E, C7, C8⟩
              have B2 := B2r.ext X; have B3 := B3r.ext X
              refine wq_then_norm (hK21 ?_)
              refine wc_seq ?_; intro K22 hK22
              refine wc_seq ?_; intro K23 hK23
              refine wc_region ?_
              refine wl_y (y_fieldAddr (o := 0) (s := 1) (off := 0) (o' := 0) rfl Tryz.underlying98 rfl (by kernel_rfl) rfl rfl) rfl ?_
              refine wl_y (y_load1 rfl Tryz.underlying22 rfl (C7.get (i := 0) rfl)) rfl ?_
              refine wl_y (y_fieldAddr (o := 0) (s := 1) (off := 0) (o' := 0) rfl Tryz.underlying98 rfl (by kernel_rfl) rfl rfl) rfl ?_
              refine wl_y (y_load1 rfl Tryz.underlying22 rfl (C8.get (i := 0) rfl)) rfl ?_
              refine wl_call Tryz.func28 rfl rfl rfl (sm_any (Bs.ext u0 E) (Bs.ext v0 E) (by omega) (by omega)) rfl ?_
              rintro e w3 ⟨rfl, ex⟩
              refine ⟨_, rfl, ?_⟩
              replace X := X.ext ex
              replace E := E.ext ex
              replace B2 := B2.ext ex
              replace B3 := B3.ext ex
              replace C7 := C7.ext ex
              replace C8 := C8.ext ex
              skip
              refine wl_y (y_not rfl) rfl ?_
              refine wl_yaskb (y_move rfl) rfl (fun z0 => ?_) (fun z0 => ?_)
              · skip
                refine wl_gno 108 rfl rfl rfl rfl ?_
                refine wl_gno 108 rfl rfl rfl rfl ?_
                refine wl_gno 108 rfl rfl rfl rfl ?_
                refine wl_gno 108 rfl rfl rfl rfl ?_
                refine wl_gno 108 rfl rfl rfl rfl ?_
                refine wl_gno 108 rfl rfl rfl rfl ?_
                refine wl_gno 108 rfl rfl rfl rfl ?_
                refine wl_y (y_pickt rfl rfl) rfl ?_
                refine wl_nil ?_
                refine wq_then_norm (hK23 ?_)
                refine wc_true rfl rfl ?_
                refine wc_seq ?_; intro K24 hK24
                refine wc_region ?_
                refine wl_y (y_assign rfl) rfl ?_
                refine wl_nil ?_
                refine wq_then_norm (hK24 ?_)
                refine wc_ret ?_
                refine wq_then_ret ?_
                refine wq_blk_ret ?_
                refine wq_then_ret ?_
                refine wq_then_ret ?_
                refine wq_blk_ret ?_
                refine wq_then_ret ?_
                refine hret rfl ?_
                exact ⟨ret_no fun h => (by rw [decide_eq_true (stp_eq.1 (at_eq hx hy (com_eq.1 h).2.2.2)).1] at z0; cases z0), E⟩
              · skip
                refine wl_gy 108 rfl rfl (y_fieldAddr (o := 1) (s := 1) (off := 0) (o' := 1) rfl Tryz.underlying98 rfl (by kernel_rfl) rfl rfl) rfl ?_
                refine wl_gy 108 rfl rfl (y_load1 rfl Tryz.underlying96 rfl (C7.get (i := 1) rfl)) rfl ?_
                refine wl_gy 108 rfl rfl (y_len_slice rfl Tryz.underlying96) rfl ?_
                refine wl_gy 108 rfl rfl (y_fieldAddr (o := 1) (s := 1) (off := 0) (o' := 1) rfl Tryz.underlying98 rfl (by kernel_rfl) rfl rfl) rfl ?_
                refine wl_gy 108 rfl rfl (y_load1 rfl Tryz.underlying96 rfl (C8.get (i := 1) rfl)) rfl ?_
                refine wl_gy 108 rfl rfl (y_len_slice rfl Tryz.underlying96) rfl ?_
                refine wl_gy 108 rfl rfl (y_neq rfl rfl) rfl ?_
                refine wl_y (y_pickf rfl rfl) rfl ?_
                refine wl_nil ?_
                refine wq_then_norm (hK23 ?_)
                refine wc_dec rfl (fun hc5 => ?_) (fun hc5 => ?_)
                · skip
                  refine wc_seq ?_; intro K25 hK25
                  refine wc_region ?_
                  refine wl_y (y_assign rfl) rfl ?_
                  refine wl_nil ?_
                  refine wq_then_norm (hK25 ?_)
                  refine wc_ret ?_
                  refine wq_then_ret ?_
                  refine wq_blk_ret ?_
                  refine wq_then_ret ?_
                  refine wq_then_ret ?_
                  refine wq_blk_ret ?_
                  refine wq_then_ret ?_
                  refine hret rfl ?_
                  exact ⟨ret_no fun h => hc5 (by have := congrArg List.length (stp_eq.1 (at_eq hx hy (com_eq.1 h).2.2.2)).2; omega), E⟩
                · skip
                  refine wc_skip ?_
                  refine wq_then_norm (hK22 ?_)
                  refine wc_seq ?_; intro K26 hK26
                  have Y := Ext.refl w3
                  have C7r := C7; have C8r := C8; have Xr := X; have Er := E
                  refine wc_region ?_
                  refine wl_y (y_assign rfl) rfl ?_
                  refine wl_nil ?_
                  refine wq_then_norm (hK26 ?_)
                  refine wc_block ?_
                  refine wc_loop (fun n' L wt => ∃ (k : Nat), L = [(2, .pointer (some ⟨gB2, 0, none⟩)), (3, .pointer (some ⟨gB3, 0, none⟩)), (6, .int .i64 (i : Int)), (7, .pointer (some ⟨p7, 0, none⟩)), (8, .pointer (some ⟨p8, 0, none⟩)), (9, .int .i64 (k : Int))] ∧ n' = g1.n - k ∧ (k ≤ g1.n ∧ Ext w3 wt ∧ x.to.take k = y.to.take k)) _ _ ⟨0, rfl, rfl, by omega, Y, by simp⟩ ⟨rfl, rfl, (by first | rfl | exact congrArg some (int_val (by omega))), rfl, rfl, (by first | rfl | exact congrArg some (int_val (by omega))), trivial⟩ ?_
                  rintro KL3 n' L wt ⟨k, rfl, rfl, hk, Y, heq3⟩ hL3
                  have C7 := C7r.ext Y; have C8 := C8r.ext Y; have X := Xr.ext Y; have E := Er.ext Y
                  refine wc_seq ?_; intro K27 hK27
                  refine wc_seq ?_; intro K28 hK28
                  refine wc_region ?_
                  refine wl_y (y_move rfl) rfl ?_
                  refine wl_y (y_fieldAddr (o := 1) (s := 1) (off := 0) (o' := 1) rfl Tryz.underlying98 rfl (by kernel_rfl) rfl rfl) rfl ?_
                  refine wl_y (y_load1 rfl Tryz.underlying96 rfl (C7.get (i := 1) rfl)) rfl ?_
                  refine wl_y (y_len_slice rfl Tryz.underlying96) rfl ?_
                  refine wl_y (y_lss rfl rfl) rfl ?_
                  refine wl_nil ?_
                  refine wq_then_norm (hK28 ?_)
                  refine wc_dec rfl (fun hc6 => ?_) (fun hc6 => ?_)
                  · skip
                    refine wc_skip ?_
                    refine wq_then_norm (hK27 ?_)
                    refine wc_seq ?_; intro K29 hK29
                    refine wc_block ?_
                    refine wc_seq ?_; intro K30 hK30
                    obtain ⟨b3_, o3, cs3, z, e3, _, hz, _, hT, hcz⟩ := u1.get2 (by omega) (i := k) (by omega)
                    obtain ⟨b4_, o4, cs4, v, e4, _, hv, _, hU, hcv⟩ := v1.get2 (by omega) (i := k) (by omega)
                    obtain ⟨s0, s1, rfl, t0, t1⟩ := hT
                    obtain ⟨r0, r1, rfl, y0, y1⟩ := hU
                    have fz := fx.2.2 z (ix_mem hz); have fv := fy.2.2 v (ix_mem hv)
                    have j1 := t0.1; have j2 := t1.1; have j3 := y0.1; have j4 := y1.1; have j5 := fz.1; have j6 := fz.2; have j7 := fv.1; have j8 := fv.2
                    refine wc_draw (by kernel_rfl) 30 rfl ?_; intro wd17 ex hd17
                    replace Y := Y.ext ex
                    replace E := E.ext ex
                    replace X := X.ext ex
                    replace C7 := C7.ext ex
                    replace C8 := C8.ext ex
                    refine wm_y 0 rfl (by kernel_rfl) (y_fieldAddr (o := 1) (s := 1) (off := 0) (o' := 1) rfl Tryz.underlying98 rfl (by kernel_rfl) rfl rfl) rfl ?_
                    refine wm_y 1 rfl (by kernel_rfl) (y_load1 rfl Tryz.underlying96 rfl (C7.get (i := 1) rfl)) rfl ?_
                    refine wm_y 2 rfl (by kernel_rfl) (y_move rfl) rfl ?_
                    refine wm_y 3 rfl (by kernel_rfl) (y_ixsE (s := 2) (j := k) e3 rfl rfl Tryz.underlying96 (by kernel_rfl) rfl (by omega)) rfl ?_
                    refine wm_y 4 rfl (by kernel_rfl) (y_fieldAddr (o := 0) (s := 1) rfl Tryz.underlying100 rfl (by kernel_rfl) rfl rfl) rfl ?_
                    refine wm_y 5 rfl (by kernel_rfl) (y_load1 rfl Tryz.underlying22 rfl (E.cellE (hcz 0 _ rfl))) rfl ?_
                    refine wm_y 6 rfl (by kernel_rfl) (y_fieldAddr (o := 1) (s := 1) (off := 0) (o' := 1) rfl Tryz.underlying98 rfl (by kernel_rfl) rfl rfl) rfl ?_
                    refine wm_y 7 rfl (by kernel_rfl) (y_load1 rfl Tryz.underlying96 rfl (C8.get (i := 1) rfl)) rfl ?_
                    refine wm_y 8 rfl (by kernel_rfl) (y_move rfl) rfl ?_
                    refine wm_y 9 rfl (by kernel_rfl) (y_ixsE (s := 2) (j := k) e4 rfl rfl Tryz.underlying96 (by kernel_rfl) rfl (by omega)) rfl ?_
                    refine wm_y 10 rfl (by kernel_rfl) (y_fieldAddr (o := 0) (s := 1) rfl Tryz.underlying100 rfl (by kernel_rfl) rfl rfl) rfl ?_
                    refine wm_y 11 rfl (by kernel_rfl) (y_load1 rfl Tryz.underlying22 rfl (E.cellE (hcv 0 _ rfl))) rfl ?_
                    refine wm_one 12 (by kernel_rfl) ?_; refine om_call rfl Tryz.func28 rfl rfl rfl (sm_any (Bs.ext t0 E) (Bs.ext y0 E) (by omega) (by omega)) rfl ?_
                    rintro e w4 ⟨rfl, ex⟩
                    refine ⟨_, rfl, .inr ex, ?_⟩
                    replace Y := Y.ext ex
                    replace E := E.ext ex
                    replace X := X.ext ex
                    replace C7 := C7.ext ex
                    replace C8 := C8.ext ex
                    skip
                    refine wm_y 13 rfl (by kernel_rfl) (y_not rfl) rfl ?_
                    refine wm_yaskb 14 rfl (by kernel_rfl) (y_move rfl) rfl (fun a0 => ?_) (fun a0 => ?_)
                    · skip
                      refine wm_gno 15 rfl (by kernel_rfl) 138 rfl rfl rfl rfl ?_
                      refine wm_gno 16 rfl (by kernel_rfl) 138 rfl rfl rfl rfl ?_
                      refine wm_gno 17 rfl (by kernel_rfl) 138 rfl rfl rfl rfl ?_
                      refine wm_gno 18 rfl (by kernel_rfl) 138 rfl rfl rfl rfl ?_
                      refine wm_gno 19 rfl (by kernel_rfl) 138 rfl rfl rfl rfl ?_
                      refine wm_gno 20 rfl (by kernel_rfl) 138 rfl rfl rfl rfl ?_
                      refine wm_gno 21 rfl (by kernel_rfl) 138 rfl rfl rfl rfl ?_
                      refine wm_gno 22 rfl (by kernel_rfl) 138 rfl rfl rfl rfl ?_
                      refine wm_gno 23 rfl (by kernel_rfl) 138 rfl rfl rfl rfl ?_
                      refine wm_gno 24 rfl (by kernel_rfl) 138 rfl rfl rfl rfl ?_
                      refine wm_gno 25 rfl (by kernel_rfl) 138 rfl rfl rfl rfl ?_
                      refine wm_gno 26 rfl (by kernel_rfl) 138 rfl rfl rfl rfl ?_
                      refine wm_gno 27 rfl (by kernel_rfl) 138 rfl rfl rfl rfl ?_
                      refine wm_gno 28 rfl (by kernel_rfl) 138 rfl rfl rfl rfl ?_
                      refine wm_y 29 rfl (by kernel_rfl) (y_pickt rfl rfl) rfl ?_
                      refine wm_done (by kernel_rfl) ?_
                      refine wq_nop ?_
                      refine wq_then_norm (hK30 ?_)
                      refine wc_true rfl rfl ?_
                      refine wc_seq ?_; intro K31 hK31
                      refine wc_region ?_
                      refine wl_y (y_assign rfl) rfl ?_
                      refine wl_nil ?_
                      refine wq_then_norm (hK31 ?_)
                      refine wc_ret ?_
                      refine wq_blk_ret ?_
                      refine wq_then_ret ?_
                      refine wq_then_ret ?_
                      refine wq_blk_ret ?_
                      refine wq_blk_ret ?_
                      refine wq_then_ret ?_
                      refine wq_then_ret ?_
                      refine wq_blk_ret ?_
                      refine wq_then_ret ?_
                      refine hret rfl ?_
                      exact ⟨ret_no fun h => (by rw [decide_eq_true (bxd_eq.1 (at_eq hz hv (stp_eq.1 (at_eq hx hy (com_eq.1 h).2.2.2)).2)).1] at a0; cases a0), E⟩
                    · skip
                      refine wm_gy 15 rfl (by kernel_rfl) 138 rfl rfl (y_fieldAddr (o := 1) (s := 1) (off := 0) (o' := 1) rfl Tryz.underlying98 rfl (by kernel_rfl) rfl rfl) rfl ?_
                      refine wm_gy 16 rfl (by kernel_rfl) 138 rfl rfl (y_load1 rfl Tryz.underlying96 rfl (C7.get (i := 1) rfl)) rfl ?_
                      refine wm_gy 17 rfl (by kernel_rfl) 138 rfl rfl (y_move rfl) rfl ?_
                      refine wm_gy 18 rfl (by kernel_rfl) 138 rfl rfl (y_ixsE (s := 2) (j := k) e3 rfl rfl Tryz.underlying96 (by kernel_rfl) rfl (by omega)) rfl ?_
                      refine wm_gy 19 rfl (by kernel_rfl) 138 rfl rfl (y_fieldAddr (o := 1) (s := 1) rfl Tryz.underlying100 rfl (by kernel_rfl) rfl rfl) rfl ?_
                      refine wm_gy 20 rfl (by kernel_rfl) 138 rfl rfl (y_load1 rfl Tryz.underlying22 rfl (E.cellE (hcz 1 _ rfl))) rfl ?_
                      refine wm_gy 21 rfl (by kernel_rfl) 138 rfl rfl (y_fieldAddr (o := 1) (s := 1) (off := 0) (o' := 1) rfl Tryz.underlying98 rfl (by kernel_rfl) rfl rfl) rfl ?_
                      refine wm_gy 22 rfl (by kernel_rfl) 138 rfl rfl (y_load1 rfl Tryz.underlying96 rfl (C8.get (i := 1) rfl)) rfl ?_
                      refine wm_gy 23 rfl (by kernel_rfl) 138 rfl rfl (y_move rfl) rfl ?_
                      refine wm_gy 24 rfl (by kernel_rfl) 138 rfl rfl (y_ixsE (s := 2) (j := k) e4 rfl rfl Tryz.underlying96 (by kernel_rfl) rfl (by omega)) rfl ?_
                      refine wm_gy 25 rfl (by kernel_rfl) 138 rfl rfl (y_fieldAddr (o := 1) (s := 1) rfl Tryz.underlying100 rfl (by kernel_rfl) rfl rfl) rfl ?_
                      refine wm_gy 26 rfl (by kernel_rfl) 138 rfl rfl (y_load1 rfl Tryz.underlying22 rfl (E.cellE (hcv 1 _ rfl))) rfl ?_
                      refine wm_one 27 (by kernel_rfl) ?_; refine om_gcall rfl 138 rfl rfl Tryz.func28 rfl rfl rfl (sm_any (Bs.ext t1 E) (Bs.ext y1 E) (by omega) (by omega)) rfl ?_
                      rintro e w5 ⟨rfl, ex⟩
                      refine ⟨_, rfl, .inr ex, ?_⟩
                      replace Y := Y.ext ex
                      replace E := E.ext ex
                      replace X := X.ext ex
                      replace C7 := C7.ext ex
                      replace C8 := C8.ext ex
                      skip
                      refine wm_gy 28 rfl (by kernel_rfl) 138 rfl rfl (y_not rfl) rfl ?_
                      refine wm_y 29 rfl (by kernel_rfl) (y_pickf rfl rfl) rfl ?_
                      refine wm_done (by kernel_rfl) ?_
                      refine wq_nop ?_
                      refine wq_then_norm (hK30 ?_)
                      refine wc_cond rfl (fun hc7 => ?_) (fun hc7 => ?_)
                      · skip
                        refine wc_seq ?_; intro K32 hK32
                        refine wc_region ?_
                        refine wl_y (y_assign rfl) rfl ?_
                        refine wl_nil ?_
                        refine wq_then_norm (hK32 ?_)
                        refine wc_ret ?_
                        refine wq_blk_ret ?_
                        refine wq_then_ret ?_
                        refine wq_then_ret ?_
                        refine wq_blk_ret ?_
                        refine wq_blk_ret ?_
                        refine wq_then_ret ?_
                        refine wq_then_ret ?_
                        refine wq_blk_ret ?_
                        refine wq_then_ret ?_
                        refine hret rfl ?_
                        exact ⟨ret_no fun h => (by rw [decide_eq_true (bxd_eq.1 (at_eq hz hv (stp_eq.1 (at_eq hx hy (com_eq.1 h).2.2.2)).2)).2] at hc7; cases hc7), E⟩
                      · skip
                        refine wc_skip ?_
                        refine wq_blk_norm ?_
                        refine wq_then_norm (hK29 ?_)
                        refine wc_region ?_
                        refine wl_y (y_move rfl) rfl ?_
                        refine wl_y (y_add rfl rfl (i64_ok (by omega) (by omega))) rfl ?_
                        refine wl_y (y_assign rfl) rfl ?_
                        refine wl_nil ?_
                        refine wq_then_norm ?_
                        refine hL3 _ _ ⟨k + 1, rfl, rfl, by omega, Y, take_eq_snoc hz hv heq3 (bxd_eq.2 ⟨by simpa using a0, by simpa using hc7⟩)⟩ (by omega) ⟨rfl, rfl, (by first | rfl | exact congrArg some (int_val (by omega))), rfl, rfl, (by first | rfl | exact congrArg some (int_val (by omega))), trivial⟩
                  · skip
                    refine wc_exit ?_
                    refine wq_then_exit ?_
                    refine wq_then_exit ?_
                    refine wq_blk_hit ?_
                    refine wq_blk_norm ?_
                    refine wq_then_norm (hK20 ?_)
                    refine wc_region ?_
                    refine wl_y (y_move rfl) rfl ?_
                    refine wl_y (y_add rfl rfl (i64_ok (by omega) (by omega))) rfl ?_
                    refine wl_y (y_assign rfl) rfl ?_
                    refine wl_nil ?_
                    refine wq_then_norm ?_
                    refine hL2 _ _ ⟨i + 1, rfl, rfl, by omega, X, E, take_eq_snoc hx hy heq2 (stp_eq.2 ⟨by simpa using z0, eq_of_take heq3 (by omega) (by omega)⟩)⟩ (by omega) ⟨rfl, rfl, (by first | rfl | exact congrArg some (int_val (by omega))), trivial⟩
            · skip
              refine wc_exit ?_
              refine wq_then_exit ?_
              refine wq_then_exit ?_
              refine wq_blk_hit ?_
              refine wq_then_norm (hK16 ?_)
              refine wc_seq ?_; intro K33 hK33
              refine wc_region ?_
              refine wl_y (y_assign rfl) rfl ?_
              refine wl_nil ?_
              refine wq_then_norm (hK33 ?_)
              refine wc_ret ?_
              refine hret rfl ?_
              exact ⟨ret_yes (com_eq.2 ⟨q1, p1', p2', eq_of_take heq2 (by omega) (by omega)⟩), E⟩
theorem sameCont_any {a b : Mess} (w : World) (H : MsgAt w cs a) (K : MsgAt w ds b) (hf : a.Fit) (hg : b.Fit) :
    Calls Tryz.prog 58 #[.agg cs, .agg ds] w fun e w' => e = .returned (.bool (decide (sameCont a b))) ∧ Ext w w' := by
  obtain ⟨gr, i, h0, h1, h2, s, h4, h5, g, l0, l1, l2, t, l4, l5, it, c0, c1, c2, q, c4, c5, ct, sg, tg, mb, rfl, a1, a2, a3, D, F, J, S, T, M⟩ := H
  obtain ⟨gr', i', h0', h1', h2', s', h4', h5', g', l0', l1', l2', t', l4', l5', it', c0', c1', c2', q', c4', c5', ct', sg', tg', mb', rfl, a1', a2', a3', D', F', J', S', T', M'⟩ := K
  have n1 := D.1; have n2 := D'.1
  have f0 := hf.1; have f1 := hg.1
  have E := Ext.refl w
  refine vc_enter1 45 Tryz.func58 rfl rfl rfl rfl ?_
  intro Q hret
  refine wc_seq ?_; intro K1 hK1
  refine wc_region ?_
  refine wl_ef (ef_box rfl rfl) rfl ?_
  rintro _ wB2 ⟨gB2, rfl, B2, hgB2, ex⟩
  have lB2 := B2.lt; have zB2 := ex.size
  replace E := E.ext ex
  refine wl_ef (ef_box rfl rfl) rfl ?_
  rintro _ wB3 ⟨gB3, rfl, B3, hgB3, ex⟩
  have lB3 := B3.lt; have zB3 := ex.size
  replace E := E.ext ex
  replace B2 := B2.ext ex
  refine wl_y (y_assign rfl) rfl ?_
  refine wl_nil ?_
  refine wq_then_norm (hK1 ?_)
  refine wc_seq ?_; intro K2 hK2
  refine wc_region ?_
  refine wl_y (y_fieldAddr (o := 0) (s := 1) (off := 0) (o' := 0) rfl Tryz.underlying55 rfl (by kernel_rfl) rfl rfl) rfl ?_
  refine wl_y (y_load1 rfl Tryz.underlying22 rfl (B2.get (i := 0) rfl)) rfl ?_
  refine wl_y (y_fieldAddr (o := 0) (s := 1) (off := 0) (o' := 0) rfl Tryz.underlying55 rfl (by kernel_rfl) rfl rfl) rfl ?_
  refine wl_y (y_load1 rfl Tryz.underlying22 rfl (B3.get (i := 0) rfl)) rfl ?_
  refine wl_call Tryz.func28 rfl rfl rfl (sm_any (Bs.ext D E) (Bs.ext D' E) (by omega) (by omega)) rfl ?_
  rintro e w2 ⟨rfl, ex⟩
  refine ⟨_, rfl, ?_⟩
  replace E := E.ext ex
  replace B2 := B2.ext ex
  replace B3 := B3.ext ex
  skip
  refine wl_yask (y_move rfl) rfl (fun q0 => ?_) (fun q0 => ?_)
  · skip
    refine wl_gy 10 rfl rfl (y_fieldAddr (o := 1) (s := 1) (off := 0) (o' := 1) rfl Tryz.underlying55 rfl (by kernel_rfl) rfl rfl) rfl ?_
    refine wl_gy 10 rfl rfl (y_load1 rfl Tryz.underlying53 rfl (B2.get (i := 1) rfl)) rfl ?_
    refine wl_gy 10 rfl rfl (y_fieldAddr (o := 1) (s := 1) (off := 0) (o' := 1) rfl Tryz.underlying55 rfl (by kernel_rfl) rfl rfl) rfl ?_
    refine wl_gy 10 rfl rfl (y_load1 rfl Tryz.underlying53 rfl (B3.get (i := 1) rfl)) rfl ?_
    refine wl_gy 10 rfl rfl (y_eql rfl rfl) rfl ?_
    refine wl_y (y_pickt rfl rfl) rfl ?_
    refine wl_yask (y_move rfl) rfl (fun q1 => ?_) (fun q1 => ?_)
    · skip
      refine wl_gy 17 rfl rfl (y_fieldAddr (o := 2) (s := 1) (off := 0) (o' := 2) rfl Tryz.underlying55 rfl (by kernel_rfl) rfl rfl) rfl ?_
      refine wl_gy 17 rfl rfl (y_load1 rfl Tryz.underlying3 rfl (B2.get (i := 2) rfl)) rfl ?_
      refine wl_gy 17 rfl rfl (y_fieldAddr (o := 2) (s := 1) (off := 0) (o' := 2) rfl Tryz.underlying55 rfl (by kernel_rfl) rfl rfl) rfl ?_
      refine wl_gy 17 rfl rfl (y_load1 rfl Tryz.underlying3 rfl (B3.get (i := 2) rfl)) rfl ?_
      refine wl_gy 17 rfl rfl (y_eql rfl rfl) rfl ?_
      refine wl_y (y_pickt rfl rfl) rfl ?_
      refine wl_yask (y_move rfl) rfl (fun q2 => ?_) (fun q2 => ?_)
      · skip
        refine wl_gy 24 rfl rfl (y_fieldAddr (o := 3) (s := 1) (off := 0) (o' := 3) rfl Tryz.underlying55 rfl (by kernel_rfl) rfl rfl) rfl ?_
        refine wl_gy 24 rfl rfl (y_load1 rfl Tryz.underlying5 rfl (B2.get (i := 3) rfl)) rfl ?_
        refine wl_gy 24 rfl rfl (y_fieldAddr (o := 3) (s := 1) (off := 0) (o' := 3) rfl Tryz.underlying55 rfl (by kernel_rfl) rfl rfl) rfl ?_
        refine wl_gy 24 rfl rfl (y_load1 rfl Tryz.underlying5 rfl (B3.get (i := 3) rfl)) rfl ?_
        refine wl_gy 24 rfl rfl (y_eql rfl rfl) rfl ?_
        refine wl_y (y_pickt rfl rfl) rfl ?_
        refine wl_yask (y_move rfl) rfl (fun q3 => ?_) (fun q3 => ?_)
        · skip
          refine wl_gy 31 rfl rfl (y_fieldAddr (o := 4) (s := 16) (off := 0) (o' := 4) rfl Tryz.underlying55 rfl (by kernel_rfl) rfl rfl) rfl ?_
          refine wl_gy 31 rfl rfl (y_loadx (o := 4) (s := 16) rfl Tryz.underlying32 rfl (by kernel_rfl) B2 rfl) rfl ?_
          refine wl_gy 31 rfl rfl (y_fieldAddr (o := 4) (s := 16) (off := 0) (o' := 4) rfl Tryz.underlying55 rfl (by kernel_rfl) rfl rfl) rfl ?_
          refine wl_gy 31 rfl rfl (y_loadx (o := 4) (s := 16) rfl Tryz.underlying32 rfl (by kernel_rfl) B3 rfl) rfl ?_
          refine wl_gcall 31 rfl rfl Tryz.func14 rfl rfl rfl (sameProp_any _ (F.ext E) (F'.ext E) hf.2.1 hg.2.1) rfl ?_
          rintro e w3 ⟨rfl, ex⟩
          refine ⟨_, rfl, ?_⟩
          replace E := E.ext ex
          replace B2 := B2.ext ex
          replace B3 := B3.ext ex
          skip
          refine wl_y (y_pickt rfl rfl) rfl ?_
          refine wl_yask (y_move rfl) rfl (fun q4 => ?_) (fun q4 => ?_)
          · skip
            refine wl_gy 38 rfl rfl (y_fieldAddr (o := 20) (s := 9) (off := 0) (o' := 20) rfl Tryz.underlying55 rfl (by kernel_rfl) rfl rfl) rfl ?_
            refine wl_gy 38 rfl rfl (y_loadx (o := 20) (s := 9) rfl Tryz.underlying40 rfl (by kernel_rfl) B2 rfl) rfl ?_
            refine wl_gy 38 rfl rfl (y_fieldAddr (o := 20) (s := 9) (off := 0) (o' := 20) rfl Tryz.underlying55 rfl (by kernel_rfl) rfl rfl) rfl ?_
            refine wl_gy 38 rfl rfl (y_loadx (o := 20) (s := 9) rfl Tryz.underlying40 rfl (by kernel_rfl) B3 rfl) rfl ?_
            refine wl_gcall 38 rfl rfl Tryz.func15 rfl rfl rfl (sameCom_any _ (J.ext E) (J'.ext E) hf.2.2.1 hg.2.2.1) rfl ?_
            rintro e w4 ⟨rfl, ex⟩
            refine ⟨_, rfl, ?_⟩
            replace E := E.ext ex
            replace B2 := B2.ext ex
            replace B3 := B3.ext ex
            skip
            refine wl_y (y_pickt rfl rfl) rfl ?_
            refine wl_y (y_assign rfl) rfl ?_
            refine wl_nil ?_
            refine wq_then_norm (hK2 ?_)
            refine wc_ret ?_
            refine hret rfl ?_
            exact ⟨ret_bool ⟨fun h => ⟨q0, by omega, q2, by omega, q4, h⟩, fun h => h.2.2.2.2.2⟩, E⟩
          · skip
            refine wl_gno 38 rfl rfl rfl rfl ?_
            refine wl_gno 38 rfl rfl rfl rfl ?_
            refine wl_gno 38 rfl rfl rfl rfl ?_
            refine wl_gno 38 rfl rfl rfl rfl ?_
            refine wl_gno 38 rfl rfl rfl rfl ?_
            refine wl_y (y_pickf rfl rfl) rfl ?_
            refine wl_y (y_assign rfl) rfl ?_
            refine wl_nil ?_
            refine wq_then_norm (hK2 ?_)
            refine wc_ret ?_
            refine hret rfl ?_
            exact ⟨ret_no fun h => q4 h.2.2.2.2.1, E⟩
        · skip
          refine wl_gno 31 rfl rfl rfl rfl ?_
          refine wl_gno 31 rfl rfl rfl rfl ?_
          refine wl_gno 31 rfl rfl rfl rfl ?_
          refine wl_gno 31 rfl rfl rfl rfl ?_
          refine wl_gno 31 rfl rfl rfl rfl ?_
          refine wl_y (y_pickf rfl rfl) rfl ?_
          refine wl_y (y_move rfl) rfl ?_
          refine wl_gno 38 rfl rfl rfl rfl ?_
          refine wl_gno 38 rfl rfl rfl rfl ?_
          refine wl_gno 38 rfl rfl rfl rfl ?_
          refine wl_gno 38 rfl rfl rfl rfl ?_
          refine wl_gno 38 rfl rfl rfl rfl ?_
          refine wl_y (y_pickf rfl rfl) rfl ?_
          refine wl_y (y_assign rfl) rfl ?_
          refine wl_nil ?_
          refine wq_then_norm (hK2 ?_)
          refine wc_ret ?_
          refine hret rfl ?_
          exact ⟨ret_no fun h => by have := h.2.2.2.1; omega, E⟩
      · skip
        refine wl_gno 24 rfl rfl rfl rfl ?_
        refine wl_gno 24 rfl rfl rfl rfl ?_
        refine wl_gno 24 rfl rfl rfl rfl ?_
        refine wl_gno 24 rfl rfl rfl rfl ?_
        refine wl_gno 24 rfl rfl rfl rfl ?_
        refine wl_y (y_pickf rfl rfl) rfl ?_
        refine wl_y (y_move rfl) rfl ?_
        refine wl_gno 31 rfl rfl rfl rfl ?_
        refine wl_gno 31 rfl rfl rfl rfl ?_
        refine wl_gno 31 rfl rfl rfl rfl ?_
        refine wl_gno 31 rfl rfl rfl rfl ?_
        refine wl_gno 31 rfl rfl rfl rfl ?_
        refine wl_y (y_pickf rfl rfl) rfl ?_
        refine wl_y (y_move rfl) rfl ?_
        refine wl_gno 38 rfl rfl rfl rfl ?_
        refine wl_gno 38 rfl rfl rfl rfl ?_
        refine wl_gno 38 rfl rfl rfl rfl ?_
        refine wl_gno 38 rfl rfl rfl rfl ?_
        refine wl_gno 38 rfl rfl rfl rfl ?_
        refine wl_y (y_pickf rfl rfl) rfl ?_
        refine wl_y (y_assign rfl) rfl ?_
        refine wl_nil ?_
        refine wq_then_norm (hK2 ?_)
        refine wc_ret ?_
        refine hret rfl ?_
        exact ⟨ret_no fun h => q2 h.2.2.1, E⟩
    · skip
      refine wl_gno 17 rfl rfl rfl rfl ?_
      refine wl_gno 17 rfl rfl rfl rfl ?_
      refine wl_gno 17 rfl rfl rfl rfl ?_
      refine wl_gno 17 rfl rfl rfl rfl ?_
      refine wl_gno 17 rfl rfl rfl rfl ?_
      refine wl_y (y_pickf rfl rfl) rfl ?_
      refine wl_y (y_move rfl) rfl ?_
      refine wl_gno 24 rfl rfl rfl rfl ?_
      refine wl_gno 24 rfl rfl rfl rfl ?_
      refine wl_gno 24 rfl rfl rfl rfl ?_
      refine wl_gno 24 rfl rfl rfl rfl ?_
      refine wl_gno 24 rfl rfl rfl rfl ?_
      refine wl_y (y_pickf rfl rfl) rfl ?_
      refine wl_y (y_move rfl) rfl ?_
      refine wl_gno 31 rfl rfl rfl rfl ?_
      refine wl_gno 31 rfl rfl rfl rfl ?_
      refine wl_gno 31 rfl rfl rfl rfl ?_
      refine wl_gno 31 rfl rfl rfl rfl ?_
      refine wl_gno 31 rfl rfl rfl rfl ?_
      refine wl_y (y_pickf rfl rfl) rfl ?_
      refine wl_y (y_move rfl) rfl ?_
      refine wl_gno 38 rfl rfl rfl rfl ?_
      refine wl_gno 38 rfl rfl rfl rfl ?_
      refine wl_gno 38 rfl rfl rfl rfl ?_
      refine wl_gno 38 rfl rfl rfl rfl ?_
      refine wl_gno 38 rfl rfl rfl rfl ?_
      refine wl_y (y_pickf rfl rfl) rfl ?_
      refine wl_y (y_assign rfl) rfl ?_
      refine wl_nil ?_
      refine wq_then_norm (hK2 ?_)
      refine wc_ret ?_
      refine hret rfl ?_
      exact ⟨ret_no fun h => by have := h.2.1; omega, E⟩
  · skip
    refine wl_gno 10 rfl rfl rfl rfl ?_
    refine wl_gno 10 rfl rfl rfl rfl ?_
    refine wl_gno 10 rfl rfl rfl rfl ?_
    refine wl_gno 10 rfl rfl rfl rfl ?_
    refine wl_gno 10 rfl rfl rfl rfl ?_
    refine wl_y (y_pickf rfl rfl) rfl ?_
    refine wl_y (y_move rfl) rfl ?_
    refine wl_gno 17 rfl rfl rfl rfl ?_
    refine wl_gno 17 rfl rfl rfl rfl ?_
    refine wl_gno 17 rfl rfl rfl rfl ?_
    refine wl_gno 17 rfl rfl rfl rfl ?_
    refine wl_gno 17 rfl rfl rfl rfl ?_
    refine wl_y (y_pickf rfl rfl) rfl ?_
    refine wl_y (y_move rfl) rfl ?_
    refine wl_gno 24 rfl rfl rfl rfl ?_
    refine wl_gno 24 rfl rfl rfl rfl ?_
    refine wl_gno 24 rfl rfl rfl rfl ?_
    refine wl_gno 24 rfl rfl rfl rfl ?_
    refine wl_gno 24 rfl rfl rfl rfl ?_
    refine wl_y (y_pickf rfl rfl) rfl ?_
    refine wl_y (y_move rfl) rfl ?_
    refine wl_gno 31 rfl rfl rfl rfl ?_
    refine wl_gno 31 rfl rfl rfl rfl ?_
    refine wl_gno 31 rfl rfl rfl rfl ?_
    refine wl_gno 31 rfl rfl rfl rfl ?_
    refine wl_gno 31 rfl rfl rfl rfl ?_
    refine wl_y (y_pickf rfl rfl) rfl ?_
    refine wl_y (y_move rfl) rfl ?_
    refine wl_gno 38 rfl rfl rfl rfl ?_
    refine wl_gno 38 rfl rfl rfl rfl ?_
    refine wl_gno 38 rfl rfl rfl rfl ?_
    refine wl_gno 38 rfl rfl rfl rfl ?_
    refine wl_gno 38 rfl rfl rfl rfl ?_
    refine wl_y (y_pickf rfl rfl) rfl ?_
    refine wl_y (y_assign rfl) rfl ?_
    refine wl_nil ?_
    refine wq_then_norm (hK2 ?_)
    refine wc_ret ?_
    refine hret rfl ?_
    exact ⟨ret_no fun h => q0 h.1, E⟩
theorem sameMsg_any {a b : Mess} (w : World) (H : MsgAt w cs a) (K : MsgAt w ds b) (hf : a.Fit) (hg : b.Fit) :
    Calls Tryz.prog 18 #[.agg cs, .agg ds] w fun e w' => e = .returned (.bool (decide (a = b))) ∧ Ext w w' := by
  have HM := H
  have KM := K
  obtain ⟨gr, i, h0, h1, h2, s, h4, h5, g, l0, l1, l2, t, l4, l5, it, c0, c1, c2, q, c4, c5, ct, sg, tg, mb, rfl, a1, a2, a3, D, F, J, S, T, M⟩ := H
  obtain ⟨gr', i', h0', h1', h2', s', h4', h5', g', l0', l1', l2', t', l4', l5', it', c0', c1', c2', q', c4', c5', ct', sg', tg', mb', rfl, a1', a2', a3', D', F', J', S', T', M'⟩ := K
  have n1 := S.1; have n2 := S'.1; have n3 := T.1; have n4 := T'.1; have n5 := M.1; have n6 := M'.1
  obtain ⟨f0, _, _, f3, f4, f5⟩ := id hf
  obtain ⟨g0, _, _, g3, g4, g5⟩ := id hg
  have E := Ext.refl w
  refine vc_enter1 29 Tryz.func18 rfl rfl rfl rfl ?_
  intro Q hret
  refine wc_seq ?_; intro K1 hK1
  refine wc_region ?_
  refine wl_ef (ef_box rfl rfl) rfl ?_
  rintro _ wB2 ⟨gB2, rfl, B2, hgB2, ex⟩
  have lB2 := B2.lt; have zB2 := ex.size
  replace E := E.ext ex
  refine wl_ef (ef_box rfl rfl) rfl ?_
  rintro _ wB3 ⟨gB3, rfl, B3, hgB3, ex⟩
  have lB3 := B3.lt; have zB3 := ex.size
  replace E := E.ext ex
  replace B2 := B2.ext ex
  refine wl_y (y_assign rfl) rfl ?_
  refine wl_nil ?_
  refine wq_then_norm (hK1 ?_)
  refine wc_seq ?_; intro K2 hK2
  refine wc_region ?_
  refine wl_y (y_loadx (o := 0) (s := 32) rfl Tryz.underlying55 rfl (by kernel_rfl) B2 rfl) rfl ?_
  refine wl_y (y_loadx (o := 0) (s := 32) rfl Tryz.underlying55 rfl (by kernel_rfl) B3 rfl) rfl ?_
  refine wl_call Tryz.func58 rfl rfl rfl (sameCont_any _ (HM.ext E) (KM.ext E) hf hg) rfl ?_
  rintro e w2 ⟨rfl, ex⟩
  refine ⟨_, rfl, ?_⟩
  replace E := E.ext ex
  replace B2 := B2.ext ex
  replace B3 := B3.ext ex
  skip
  refine wl_yask (y_move rfl) rfl (fun q0 => ?_) (fun q0 => ?_)
  · skip
    refine wl_gy 8 rfl rfl (y_fieldAddr (o := 29) (s := 1) (off := 0) (o' := 29) rfl Tryz.underlying55 rfl (by kernel_rfl) rfl rfl) rfl ?_
    refine wl_gy 8 rfl rfl (y_load1 rfl Tryz.underlying22 rfl (B2.get (i := 29) rfl)) rfl ?_
    refine wl_gy 8 rfl rfl (y_fieldAddr (o := 29) (s := 1) (off := 0) (o' := 29) rfl Tryz.underlying55 rfl (by kernel_rfl) rfl rfl) rfl ?_
    refine wl_gy 8 rfl rfl (y_load1 rfl Tryz.underlying22 rfl (B3.get (i := 29) rfl)) rfl ?_
    refine wl_gcall 8 rfl rfl Tryz.func28 rfl rfl rfl (sm_any (Bs.ext S E) (Bs.ext S' E) (by omega) (by omega)) rfl ?_
    rintro e w3 ⟨rfl, ex⟩
    refine ⟨_, rfl, ?_⟩
    replace E := E.ext ex
    replace B2 := B2.ext ex
    replace B3 := B3.ext ex
    skip
    refine wl_y (y_pickt rfl rfl) rfl ?_
    refine wl_yask (y_move rfl) rfl (fun q1 => ?_) (fun q1 => ?_)
    · skip
      refine wl_gy 15 rfl rfl (y_fieldAddr (o := 30) (s := 1) (off := 0) (o' := 30) rfl Tryz.underlying55 rfl (by kernel_rfl) rfl rfl) rfl ?_
      refine wl_gy 15 rfl rfl (y_load1 rfl Tryz.underlying22 rfl (B2.get (i := 30) rfl)) rfl ?_
      refine wl_gy 15 rfl rfl (y_fieldAddr (o := 30) (s := 1) (off := 0) (o' := 30) rfl Tryz.underlying55 rfl (by kernel_rfl) rfl rfl) rfl ?_
      refine wl_gy 15 rfl rfl (y_load1 rfl Tryz.underlying22 rfl (B3.get (i := 30) rfl)) rfl ?_
      refine wl_gcall 15 rfl rfl Tryz.func28 rfl rfl rfl (sm_any (Bs.ext T E) (Bs.ext T' E) (by omega) (by omega)) rfl ?_
      rintro e w4 ⟨rfl, ex⟩
      refine ⟨_, rfl, ?_⟩
      replace E := E.ext ex
      replace B2 := B2.ext ex
      replace B3 := B3.ext ex
      skip
      refine wl_y (y_pickt rfl rfl) rfl ?_
      refine wl_yask (y_move rfl) rfl (fun q2 => ?_) (fun q2 => ?_)
      · skip
        refine wl_gy 22 rfl rfl (y_fieldAddr (o := 31) (s := 1) (off := 0) (o' := 31) rfl Tryz.underlying55 rfl (by kernel_rfl) rfl rfl) rfl ?_
        refine wl_gy 22 rfl rfl (y_load1 rfl Tryz.underlying22 rfl (B2.get (i := 31) rfl)) rfl ?_
        refine wl_gy 22 rfl rfl (y_fieldAddr (o := 31) (s := 1) (off := 0) (o' := 31) rfl Tryz.underlying55 rfl (by kernel_rfl) rfl rfl) rfl ?_
        refine wl_gy 22 rfl rfl (y_load1 rfl Tryz.underlying22 rfl (B3.get (i := 31) rfl)) rfl ?_
        refine wl_gcall 22 rfl rfl Tryz.func28 rfl rfl rfl (sm_any (Bs.ext M E) (Bs.ext M' E) (by omega) (by omega)) rfl ?_
        rintro e w5 ⟨rfl, ex⟩
        refine ⟨_, rfl, ?_⟩
        replace E := E.ext ex
        replace B2 := B2.ext ex
        replace B3 := B3.ext ex
        skip
        refine wl_y (y_pickt rfl rfl) rfl ?_
        refine wl_y (y_assign rfl) rfl ?_
        refine wl_nil ?_
        refine wq_then_norm (hK2 ?_)
        refine wc_ret ?_
        refine hret rfl ?_
        exact ⟨ret_bool ⟨fun h => mess_eq.2 ⟨q0, q1, q2, h⟩, fun h => (mess_eq.1 h).2.2.2⟩, E⟩
      · skip
        refine wl_gno 22 rfl rfl rfl rfl ?_
        refine wl_gno 22 rfl rfl rfl rfl ?_
        refine wl_gno 22 rfl rfl rfl rfl ?_
        refine wl_gno 22 rfl rfl rfl rfl ?_
        refine wl_gno 22 rfl rfl rfl rfl ?_
        refine wl_y (y_pickf rfl rfl) rfl ?_
        refine wl_y (y_assign rfl) rfl ?_
        refine wl_nil ?_
        refine wq_then_norm (hK2 ?_)
        refine wc_ret ?_
        refine hret rfl ?_
        exact ⟨ret_no fun h => q2 (mess_eq.1 h).2.2.1, E⟩
    · skip
      refine wl_gno 15 rfl rfl rfl rfl ?_
      refine wl_gno 15 rfl rfl rfl rfl ?_
      refine wl_gno 15 rfl rfl rfl rfl ?_
      refine wl_gno 15 rfl rfl rfl rfl ?_
      refine wl_gno 15 rfl rfl rfl rfl ?_
      refine wl_y (y_pickf rfl rfl) rfl ?_
      refine wl_y (y_move rfl) rfl ?_
      refine wl_gno 22 rfl rfl rfl rfl ?_
      refine wl_gno 22 rfl rfl rfl rfl ?_
      refine wl_gno 22 rfl rfl rfl rfl ?_
      refine wl_gno 22 rfl rfl rfl rfl ?_
      refine wl_gno 22 rfl rfl rfl rfl ?_
      refine wl_y (y_pickf rfl rfl) rfl ?_
      refine wl_y (y_assign rfl) rfl ?_
      refine wl_nil ?_
      refine wq_then_norm (hK2 ?_)
      refine wc_ret ?_
      refine hret rfl ?_
      exact ⟨ret_no fun h => q1 (mess_eq.1 h).2.1, E⟩
  · skip
    refine wl_gno 8 rfl rfl rfl rfl ?_
    refine wl_gno 8 rfl rfl rfl rfl ?_
    refine wl_gno 8 rfl rfl rfl rfl ?_
    refine wl_gno 8 rfl rfl rfl rfl ?_
    refine wl_gno 8 rfl rfl rfl rfl ?_
    refine wl_y (y_pickf rfl rfl) rfl ?_
    refine wl_y (y_move rfl) rfl ?_
    refine wl_gno 15 rfl rfl rfl rfl ?_
    refine wl_gno 15 rfl rfl rfl rfl ?_
    refine wl_gno 15 rfl rfl rfl rfl ?_
    refine wl_gno 15 rfl rfl rfl rfl ?_
    refine wl_gno 15 rfl rfl rfl rfl ?_
    refine wl_y (y_pickf rfl rfl) rfl ?_
    refine wl_y (y_move rfl) rfl ?_
    refine wl_gno 22 rfl rfl rfl rfl ?_
    refine wl_gno 22 rfl rfl rfl rfl ?_
    refine wl_gno 22 rfl rfl rfl rfl ?_
    refine wl_gno 22 rfl rfl rfl rfl ?_
    refine wl_gno 22 rfl rfl rfl rfl ?_
    refine wl_y (y_pickf rfl rfl) rfl ?_
    refine wl_y (y_assign rfl) rfl ?_
    refine wl_nil ?_
    refine wq_then_norm (hK2 ?_)
    refine wc_ret ?_
    refine hret rfl ?_
    exact ⟨ret_no fun h => q0 (mess_eq.1 h).1, E⟩
end
end Go.Proofs.YtpgalbgonmclaaaGreat
