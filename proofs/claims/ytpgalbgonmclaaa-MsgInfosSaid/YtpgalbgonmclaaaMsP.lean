/- Packages, proposals, commits and messages held against each other: what the reference answers. -/
import Derived.Test.YtpgalbgonmclaaaMsN
namespace Go.Proofs.Ytpgalbgonmclaaa
open Go.RowKit
attribute [local irreducible] Y Ef WL WC WK WQ WM OpM WN WF OpN WG OpG
open Nd Wire
theorem pack_eq {a b : Pack} : a = b ↔ a.init = b.init ∧ a.leaf = b.leaf ∧ a.sig = b.sig := by
  constructor
  · rintro rfl; simp
  · cases a; cases b; simp_all
instance (a b : Pack) : Decidable (a = b) := decidable_of_iff _ pack_eq.symm
theorem prop_eq {a b : Prop20} : a = b ↔ a.kind = b.kind ∧ a.pack = b.pack ∧ a.leaf = b.leaf ∧ a.at_ = b.at_ := by
  constructor
  · rintro rfl; simp
  · cases a; cases b; simp_all
instance (a b : Prop20) : Decidable (a = b) := decidable_of_iff _ prop_eq.symm
theorem bxd_eq {a b : Bxd} : a = b ↔ a.enc = b.enc ∧ a.box = b.box := by
  constructor
  · rintro rfl; simp
  · cases a; cases b; simp_all
instance : DecidableEq Bxd := fun a b => decidable_of_iff _ bxd_eq.symm
theorem stp_eq {a b : Stp} : a = b ↔ a.box = b.box ∧ a.to = b.to := by
  constructor
  · rintro rfl; simp
  · cases a; cases b; simp_all
instance : DecidableEq Stp := fun a b => decidable_of_iff _ stp_eq.symm
theorem item_eq {a b : Item20} : a = b ↔ a.ref = b.ref ∧ a.prop = b.prop := by
  constructor
  · rintro rfl; simp
  · cases a; cases b; simp_all
instance : DecidableEq Item20 := fun a b => decidable_of_iff _ item_eq.symm
theorem com_eq {a b : Com20} : a = b ↔ a.items = b.items ∧ a.has = b.has ∧ a.way.leaf = b.way.leaf ∧ a.way.steps = b.way.steps := by
  constructor
  · rintro rfl; simp
  · obtain ⟨i, h, l, s⟩ := a
    obtain ⟨i', h', l', s'⟩ := b
    rintro ⟨h1, h2, h3, h4⟩
    simp only at h1 h2 h3 h4
    subst h1; subst h2; subst h3; subst h4; rfl
instance (a b : Com20) : Decidable (a = b) := decidable_of_iff _ com_eq.symm
def Ctx.Fit (c : Ctx) : Prop := c.grp.length ≤ 1000000 ∧ c.tree.length ≤ 1000000 ∧ c.trans.length ≤ 1000000
def sameCont (a b : Mess) : Prop := a.group = b.group ∧ a.epoch = b.epoch ∧ a.frm = b.frm ∧ a.kind = b.kind ∧ a.prop = b.prop ∧ a.com = b.com
instance (a b : Mess) : Decidable (sameCont a b) := by unfold sameCont; infer_instance
theorem mess_eq {a b : Mess} : a = b ↔ sameCont a b ∧ a.sig = b.sig ∧ a.tag = b.tag ∧ a.member = b.member := by
  unfold sameCont
  constructor
  · rintro rfl; simp
  · cases a; cases b; simp_all
instance (a b : Mess) : Decidable (a = b) := decidable_of_iff _ mess_eq.symm
theorem ctx_eq {a b : Ctx} : a = b ↔ a.grp = b.grp ∧ a.ep = b.ep ∧ a.tree = b.tree ∧ a.trans = b.trans := by
  constructor
  · rintro rfl; simp
  · cases a; cases b; simp_all
instance (a b : Ctx) : Decidable (a = b) := decidable_of_iff _ ctx_eq.symm
section
variable {cs ds : Array Value}
theorem sameCtx20_any {a b : Ctx} (w : World) (H : CtxAt w cs a) (K : CtxAt w ds b) (hf : a.Fit) (hg : b.Fit) :
    Calls Try.prog 27 #[.agg cs, .agg ds] w fun e w' => e = .returned (.bool (decide (a = b))) ∧ Ext w w' := by
  obtain ⟨A1, A2, A3, n1, d1, n2, d2, n3, d3, rfl, H1, H2, H3⟩ := H
  obtain ⟨B1', B2', B3', m1, e1, m2, e2, m3, e3, rfl, Q1, Q2, Q3⟩ := K
  have i1 := H1.1; have i2 := H2.1; have i3 := H3.1; have j1 := Q1.1; have j2 := Q2.1; have j3 := Q3.1
  obtain ⟨f1, f2, f3⟩ := hf
  obtain ⟨g1, g2, g3⟩ := hg
  have E := Ext.refl w
  refine vc_enter1 31 Try.func27 rfl rfl rfl rfl ?_
  intro Q hret
  refine wc_seq ?_; intro K1 hK1
  refine wc_region ?_
  refine wl_ef (ef_box (cs := ctxV A1 A2 A3 n1 d1 n2 d2 n3 d3 a.ep) rfl rfl) rfl ?_
  rintro _ w1 ⟨g1, rfl, B1, hg1, ex⟩
  replace E := E.ext ex
  skip
  refine wl_ef (ef_box (cs := ctxV B1' B2' B3' m1 e1 m2 e2 m3 e3 b.ep) rfl rfl) rfl ?_
  rintro _ w2 ⟨g2, rfl, B2, hg2, ex⟩
  replace E := E.ext ex
  replace B1 := B1.ext ex
  skip
  refine wl_y (y_assign rfl) rfl ?_
  refine wl_nil ?_
  refine wq_then_norm (hK1 ?_)
  refine wc_seq ?_; intro K2 hK2
  refine wc_region ?_
  refine wl_y (y_fieldAddr (o := 0) (s := 1) (off := 0) (o' := 0) rfl Try.underlying50 rfl (by kernel_rfl) rfl rfl) rfl ?_
  refine wl_y (y_load1 rfl Try.underlying22 rfl (B1.get (i := 0) rfl)) rfl ?_
  refine wl_y (y_fieldAddr (o := 0) (s := 1) (off := 0) (o' := 0) rfl Try.underlying50 rfl (by kernel_rfl) rfl rfl) rfl ?_
  refine wl_y (y_load1 rfl Try.underlying22 rfl (B2.get (i := 0) rfl)) rfl ?_
  refine wl_call Try.func26 rfl rfl rfl (sm_any (Bs.ext H1 E) (Bs.ext Q1 E) (by omega) (by omega)) rfl ?_
  rintro e w3 ⟨rfl, ex⟩
  refine ⟨_, rfl, ?_⟩
  replace E := E.ext ex
  replace B1 := B1.ext ex
  replace B2 := B2.ext ex
  skip
  refine wl_yask (y_move rfl) rfl (fun q0 => ?_) (fun q0 => ?_)
  · skip
    refine wl_gy 10 rfl rfl (y_fieldAddr (o := 1) (s := 1) (off := 0) (o' := 1) rfl Try.underlying50 rfl (by kernel_rfl) rfl rfl) rfl ?_
    refine wl_gy 10 rfl rfl (y_load1 rfl Try.underlying46 rfl (B1.get (i := 1) rfl)) rfl ?_
    refine wl_gy 10 rfl rfl (y_fieldAddr (o := 1) (s := 1) (off := 0) (o' := 1) rfl Try.underlying50 rfl (by kernel_rfl) rfl rfl) rfl ?_
    refine wl_gy 10 rfl rfl (y_load1 rfl Try.underlying46 rfl (B2.get (i := 1) rfl)) rfl ?_
    refine wl_gy 10 rfl rfl (y_eql rfl rfl) rfl ?_
    refine wl_y (y_pickt rfl rfl) rfl ?_
    refine wl_yask (y_move rfl) rfl (fun q1 => ?_) (fun q1 => ?_)
    · skip
      refine wl_gy 17 rfl rfl (y_fieldAddr (o := 2) (s := 1) (off := 0) (o' := 2) rfl Try.underlying50 rfl (by kernel_rfl) rfl rfl) rfl ?_
      refine wl_gy 17 rfl rfl (y_load1 rfl Try.underlying22 rfl (B1.get (i := 2) rfl)) rfl ?_
      refine wl_gy 17 rfl rfl (y_fieldAddr (o := 2) (s := 1) (off := 0) (o' := 2) rfl Try.underlying50 rfl (by kernel_rfl) rfl rfl) rfl ?_
      refine wl_gy 17 rfl rfl (y_load1 rfl Try.underlying22 rfl (B2.get (i := 2) rfl)) rfl ?_
      refine wl_gcall 17 rfl rfl Try.func26 rfl rfl rfl (sm_any (Bs.ext H2 E) (Bs.ext Q2 E) (by omega) (by omega)) rfl ?_
      rintro e w4 ⟨rfl, ex⟩
      refine ⟨_, rfl, ?_⟩
      replace E := E.ext ex
      replace B1 := B1.ext ex
      replace B2 := B2.ext ex
      skip
      refine wl_y (y_pickt rfl rfl) rfl ?_
      refine wl_yask (y_move rfl) rfl (fun q2 => ?_) (fun q2 => ?_)
      · skip
        refine wl_gy 24 rfl rfl (y_fieldAddr (o := 3) (s := 1) (off := 0) (o' := 3) rfl Try.underlying50 rfl (by kernel_rfl) rfl rfl) rfl ?_
        refine wl_gy 24 rfl rfl (y_load1 rfl Try.underlying22 rfl (B1.get (i := 3) rfl)) rfl ?_
        refine wl_gy 24 rfl rfl (y_fieldAddr (o := 3) (s := 1) (off := 0) (o' := 3) rfl Try.underlying50 rfl (by kernel_rfl) rfl rfl) rfl ?_
        refine wl_gy 24 rfl rfl (y_load1 rfl Try.underlying22 rfl (B2.get (i := 3) rfl)) rfl ?_
        refine wl_gcall 24 rfl rfl Try.func26 rfl rfl rfl (sm_any (Bs.ext H3 E) (Bs.ext Q3 E) (by omega) (by omega)) rfl ?_
        rintro e w5 ⟨rfl, ex⟩
        refine ⟨_, rfl, ?_⟩
        replace E := E.ext ex
        replace B1 := B1.ext ex
        replace B2 := B2.ext ex
        skip
        refine wl_y (y_pickt rfl rfl) rfl ?_
        refine wl_y (y_assign rfl) rfl ?_
        refine wl_nil ?_
        refine wq_then_norm (hK2 ?_)
        refine wc_ret ?_
        refine hret rfl ?_
        exact ⟨ret_bool ⟨fun h => ctx_eq.2 ⟨q0, by omega, q2, h⟩, fun h => by rw [h]⟩, E⟩
      · skip
        refine wl_gno 24 rfl rfl rfl rfl ?_
        refine wl_gno 24 rfl rfl rfl rfl ?_
        refine wl_gno 24 rfl rfl rfl rfl ?_
        refine wl_gno 24 rfl rfl rfl rfl ?_
        refine wl_gno 24 rfl rfl rfl rfl ?_
        refine wl_y (y_pickf rfl rfl) rfl ?_
        refine wl_y (y_assign rfl) rfl ?_
        refine wl_nil ?_
        refine wq_then_norm (hK2 ?_)
        refine wc_ret ?_
        refine hret rfl ?_
        exact ⟨ret_no fun h => q2 (by rw [h]), E⟩
    · skip
      refine wl_gno 17 rfl rfl rfl rfl ?_
      refine wl_gno 17 rfl rfl rfl rfl ?_
      refine wl_gno 17 rfl rfl rfl rfl ?_
      refine wl_gno 17 rfl rfl rfl rfl ?_
      refine wl_gno 17 rfl rfl rfl rfl ?_
      refine wl_y (y_pickf rfl rfl) rfl ?_
      refine wl_y (y_move rfl) rfl ?_
      refine wl_gno 24 rfl rfl rfl rfl ?_
      refine wl_gno 24 rfl rfl rfl rfl ?_
      refine wl_gno 24 rfl rfl rfl rfl ?_
      refine wl_gno 24 rfl rfl rfl rfl ?_
      refine wl_gno 24 rfl rfl rfl rfl ?_
      refine wl_y (y_pickf rfl rfl) rfl ?_
      refine wl_y (y_assign rfl) rfl ?_
      refine wl_nil ?_
      refine wq_then_norm (hK2 ?_)
      refine wc_ret ?_
      refine hret rfl ?_
      exact ⟨ret_no fun h => q1 (by rw [h]), E⟩
  · skip
    refine wl_gno 10 rfl rfl rfl rfl ?_
    refine wl_gno 10 rfl rfl rfl rfl ?_
    refine wl_gno 10 rfl rfl rfl rfl ?_
    refine wl_gno 10 rfl rfl rfl rfl ?_
    refine wl_gno 10 rfl rfl rfl rfl ?_
    refine wl_y (y_pickf rfl rfl) rfl ?_
    refine wl_y (y_move rfl) rfl ?_
    refine wl_gno 17 rfl rfl rfl rfl ?_
    refine wl_gno 17 rfl rfl rfl rfl ?_
    refine wl_gno 17 rfl rfl rfl rfl ?_
    refine wl_gno 17 rfl rfl rfl rfl ?_
    refine wl_gno 17 rfl rfl rfl rfl ?_
    refine wl_y (y_pickf rfl rfl) rfl ?_
    refine wl_y (y_move rfl) rfl ?_
    refine wl_gno 24 rfl rfl rfl rfl ?_
    refine wl_gno 24 rfl rfl rfl rfl ?_
    refine wl_gno 24 rfl rfl rfl rfl ?_
    refine wl_gno 24 rfl rfl rfl rfl ?_
    refine wl_gno 24 rfl rfl rfl rfl ?_
    refine wl_y (y_pickf rfl rfl) rfl ?_
    refine wl_y (y_assign rfl) rfl ?_
    refine wl_nil ?_
    refine wq_then_norm (hK2 ?_)
    refine wc_ret ?_
    refine hret rfl ?_
    exact ⟨ret_no fun h => q0 (by rw [h]), E⟩
end
end Go.Proofs.Ytpgalbgonmclaaa
