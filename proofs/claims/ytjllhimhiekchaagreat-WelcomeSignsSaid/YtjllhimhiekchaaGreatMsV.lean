/- The message layer's reader: what each of its functions hands back and leaves. No conditions: contracts of the program's functions. -/
import Derived.Test.YtjllhimhiekchaaGreatVk
import Derived.Test.YtjllhimhiekchaaGreatWireR
import Derived.Test.YtjllhimhiekchaaGreatRow
import Derived.Test.YtjllhimhiekchaaGreatNdD
import Derived.Test.YtjllhimhiekchaaGreatMsC
/- Messages, plainly and in memory; which may be; their bytes: what msg hands back. -/
namespace Go.Proofs.YtjllhimhiekchaaGreat
open Go.RowKit
attribute [local irreducible] Y Ef WL WC WK WQ WM OpM WN WF OpN WG OpG
open Nd Wire
structure Mess where
 group : List UInt8
 epoch : Nat
 frm : Int
 kind : Nat
 prop : Prop20
 com : Com20
 sig : List UInt8
 tag : List UInt8
 member : List UInt8
def Mess.Small (m : Mess) : Prop := m.group.length ≤ 200 ∧ m.prop.Small ∧ m.com.Small ∧ m.sig.length ≤ 100 ∧ m.tag.length ≤ 100 ∧ m.member.length ≤ 100
instance (m : Mess) : Decidable m.Small := by unfold Mess.Small; infer_instance
/-! Its bytes. -/
section
variable {cs ds : Array Value} {m : Mess} {c : Ctx} {g g' : Nat} {t t' : TypeId}
end
end Go.Proofs.YtjllhimhiekchaaGreat

/- From a row's reading of a proposal, a commit, a message, a welcome or an info to the walk's word for it. No conditions beyond the row's own. -/
namespace Go.Proofs.YtjllhimhiekchaaGreat
open Go.ChangeShapes Go.WideShapes Go.ChangeAt Go.RowKit
section
variable {H : Type} {enc : TypeId × Value → H} {W : World} {base : Nat} {spare : Nat → Bool} {held : Bool}
theorem glue {α : Type} (cs : List α) (o k : Nat) : cs.drop o = (cs.drop o).take k ++ cs.drop (o + k) := by rw [← List.drop_drop, List.take_append_drop]
theorem trod_i64 {fuel : Nat} {cs : List Value} {x : DataW H × List MemPlace} (h : DataW.trod enc Tryz.prog W base spare held fuel 3 cs = some x) : ∃ z : Int, cs = [.int .i64 z] ∧ -9223372036854775808 ≤ z ∧ z ≤ 9223372036854775807 := by
  cases fuel with
  | zero => simp [DataW.trod] at h
  | succ fuel =>
    simp only [DataW.trod, Tryz.underlying3] at h
    split at h <;> first | (rename_i hk; cases hk; done) | (rename_i hk _; cases hk; done) | skip
    all_goals first
      | (cases h; done)
      | (split at h
         · rename_i k hk2 k2 z hk1 hw
           injection hk1 with hk1
           injection hk1 with hk1
           subst hk1
           obtain ⟨rfl, hw⟩ := hw
           exact ⟨z, rfl, by simpa [Lit.wf, IntKind.min, IntKind.max, IntKind.bits, IntKind.signed] using hw⟩
         · cases h)
theorem one_of {cs : List Value} {o k : Nat} {v : Value} (hk : k = 1) (h : (cs.drop o).take k = [v]) : cs.drop o = v :: cs.drop (o + 1) := by
 subst hk
 rw [glue cs o 1, h]; rfl
theorem some_of {cs : List Value} {o k m : Nat} {V : Array Value} (hk : k = m) (h : ((cs.drop o).take k).toArray = V) : cs.drop o = V.toList ++ cs.drop (o + m) := by
 subst hk
 rw [glue cs o k, ← h]
theorem end_of {cs : List Value} {n : Nat} (h : cs.length = n) : cs.drop n = [] := List.drop_eq_nil_of_le (by omega)
end
end Go.Proofs.YtjllhimhiekchaaGreat

/- The bytes of messages: what msg tells, and what the reference hands back. -/
namespace Go.Proofs.YtjllhimhiekchaaGreat
open Go.RowKit
attribute [local irreducible] Y Ef WL WC WK WQ WM OpM WN WF OpN WG OpG
open Nd Wire
instance (c : Ctx) : Decidable c.Small := by unfold Ctx.Small; infer_instance
section
variable {cs ds : Array Value} {m : Mess} {c : Ctx}
/-! The reference. -/
theorem smallCtx20_any (w : World) (H : CtxAt w ds c) (he : c.ep < 18446744073709551616) :
  Calls Tryz.prog 16 #[.agg ds] w fun e w' => e = .returned (.bool (decide c.Small)) ∧ Ext w w' := by
 obtain ⟨A1, A2, A3, n1, d1, n2, d2, n3, d3, rfl, H1, H2, H3⟩ := H
 have m1 := H1.1; have m2 := H2.1; have m3 := H3.1
 have E := Ext.refl w
 refine vc_enter1 19 Tryz.func16 rfl rfl rfl rfl ?_
 intro Q hret
 refine wc_seq ?_; intro K1 hK1
 refine wc_region ?_
 refine wl_ef (ef_box (cs := ctxV A1 A2 A3 n1 d1 n2 d2 n3 d3 c.ep) rfl rfl) rfl ?_
 rintro _ w1 ⟨g1, rfl, B1, hg1, ex⟩
 replace E := E.ext ex
 skip
 refine wl_y (y_assign rfl) rfl ?_
 refine wl_nil ?_
 refine wq_then_norm (hK1 ?_)
 refine wc_seq ?_; intro K2 hK2
 refine wc_region ?_
 refine wl_y (y_fieldAddr (o := 0) (s := 1) (off := 0) (o' := 0) rfl Tryz.underlying40 rfl (by kernel_rfl) rfl rfl) rfl ?_
 refine wl_y (y_load1 rfl Tryz.underlying23 rfl (B1.get (i := 0) rfl)) rfl ?_
 refine wl_y (y_len_slice rfl Tryz.underlying23) rfl ?_
 refine wl_y (y_leq rfl rfl) rfl ?_
 refine wl_yask (y_move rfl) rfl (fun q0 => ?_) (fun q0 => ?_)
 ·skip
  refine wl_gy 7 rfl rfl (y_fieldAddr (o := 2) (s := 1) (off := 0) (o' := 2) rfl Tryz.underlying40 rfl (by kernel_rfl) rfl rfl) rfl ?_
  refine wl_gy 7 rfl rfl (y_load1 rfl Tryz.underlying23 rfl (B1.get (i := 2) rfl)) rfl ?_
  refine wl_gy 7 rfl rfl (y_len_slice rfl Tryz.underlying23) rfl ?_
  refine wl_gy 7 rfl rfl (y_leq rfl rfl) rfl ?_
  refine wl_y (y_pickt rfl rfl) rfl ?_
  refine wl_yask (y_move rfl) rfl (fun q1 => ?_) (fun q1 => ?_)
  ·skip
   refine wl_gy 13 rfl rfl (y_fieldAddr (o := 3) (s := 1) (off := 0) (o' := 3) rfl Tryz.underlying40 rfl (by kernel_rfl) rfl rfl) rfl ?_
   refine wl_gy 13 rfl rfl (y_load1 rfl Tryz.underlying23 rfl (B1.get (i := 3) rfl)) rfl ?_
   refine wl_gy 13 rfl rfl (y_len_slice rfl Tryz.underlying23) rfl ?_
   refine wl_gy 13 rfl rfl (y_leq rfl rfl) rfl ?_
   refine wl_y (y_pickt rfl rfl) rfl ?_
   refine wl_y (y_assign rfl) rfl ?_
   refine wl_nil ?_
   refine wq_then_norm (hK2 ?_)
   refine wc_ret ?_
   refine hret rfl ?_
   exact ⟨ret_bool ⟨fun h => ⟨by omega, by omega, by omega, he⟩, fun h => by have := h.2.2.1; omega⟩, E⟩
  ·skip
   refine wl_gno 13 rfl rfl rfl rfl ?_
   refine wl_gno 13 rfl rfl rfl rfl ?_
   refine wl_gno 13 rfl rfl rfl rfl ?_
   refine wl_gno 13 rfl rfl rfl rfl ?_
   refine wl_y (y_pickf rfl rfl) rfl ?_
   refine wl_y (y_assign rfl) rfl ?_
   refine wl_nil ?_
   refine wq_then_norm (hK2 ?_)
   refine wc_ret ?_
   refine hret rfl ?_
   exact ⟨ret_no fun h => by have := h.2.1; omega, E⟩
 ·skip
  refine wl_gno 7 rfl rfl rfl rfl ?_
  refine wl_gno 7 rfl rfl rfl rfl ?_
  refine wl_gno 7 rfl rfl rfl rfl ?_
  refine wl_gno 7 rfl rfl rfl rfl ?_
  refine wl_y (y_pickf rfl rfl) rfl ?_
  refine wl_y (y_move rfl) rfl ?_
  refine wl_gno 13 rfl rfl rfl rfl ?_
  refine wl_gno 13 rfl rfl rfl rfl ?_
  refine wl_gno 13 rfl rfl rfl rfl ?_
  refine wl_gno 13 rfl rfl rfl rfl ?_
  refine wl_y (y_pickf rfl rfl) rfl ?_
  refine wl_y (y_assign rfl) rfl ?_
  refine wl_nil ?_
  refine wq_then_norm (hK2 ?_)
  refine wc_ret ?_
  refine hret rfl ?_
  exact ⟨ret_no fun h => by have := h.1; omega, E⟩
end
end Go.Proofs.YtjllhimhiekchaaGreat

/- Packages, proposals, commits and messages held against each other: what the reference answers. -/
namespace Go.Proofs.YtjllhimhiekchaaGreat
open Go.RowKit
attribute [local irreducible] Y Ef WL WC WK WQ WM OpM WN WF OpN WG OpG
open Nd Wire
theorem pack_eq {a b : Pack} : a = b ↔ a.init = b.init ∧ a.leaf = b.leaf ∧ a.sig = b.sig := by
 constructor
 ·rintro rfl; simp
 ·cases a; cases b; simp_all
instance (a b : Pack) : Decidable (a = b) := decidable_of_iff _ pack_eq.symm
theorem prop_eq {a b : Prop20} : a = b ↔ a.kind = b.kind ∧ a.pack = b.pack ∧ a.leaf = b.leaf ∧ a.at_ = b.at_ := by
 constructor
 ·rintro rfl; simp
 ·cases a; cases b; simp_all
instance (a b : Prop20) : Decidable (a = b) := decidable_of_iff _ prop_eq.symm
theorem bxd_eq {a b : Bxd} : a = b ↔ a.enc = b.enc ∧ a.box = b.box := by
 constructor
 ·rintro rfl; simp
 ·cases a; cases b; simp_all
instance : DecidableEq Bxd := fun a b => decidable_of_iff _ bxd_eq.symm
theorem stp_eq {a b : Stp} : a = b ↔ a.box = b.box ∧ a.to = b.to := by
 constructor
 ·rintro rfl; simp
 ·cases a; cases b; simp_all
instance : DecidableEq Stp := fun a b => decidable_of_iff _ stp_eq.symm
theorem item_eq {a b : Item20} : a = b ↔ a.ref = b.ref ∧ a.prop = b.prop := by
 constructor
 ·rintro rfl; simp
 ·cases a; cases b; simp_all
instance : DecidableEq Item20 := fun a b => decidable_of_iff _ item_eq.symm
theorem com_eq {a b : Com20} : a = b ↔ a.items = b.items ∧ a.has = b.has ∧ a.way.leaf = b.way.leaf ∧ a.way.steps = b.way.steps := by
 constructor
 ·rintro rfl; simp
 ·obtain ⟨i, h, l, s⟩ := a
  obtain ⟨i', h', l', s'⟩ := b
  rintro ⟨h1, h2, h3, h4⟩
  simp only at h1 h2 h3 h4
  subst h1; subst h2; subst h3; subst h4; rfl
instance (a b : Com20) : Decidable (a = b) := decidable_of_iff _ com_eq.symm
def Ctx.Fit (c : Ctx) : Prop := c.grp.length ≤ 1000000 ∧ c.tree.length ≤ 1000000 ∧ c.trans.length ≤ 1000000
def sameCont (a b : Mess) : Prop := a.group = b.group ∧ a.epoch = b.epoch ∧ a.frm = b.frm ∧ a.kind = b.kind ∧ a.prop = b.prop ∧ a.com = b.com
instance (a b : Mess) : Decidable (sameCont a b) := by unfold sameCont; infer_instance
theorem mess_eq {a b : Mess} : a = b ↔ sameCont a b ∧ a.sig = b.sig ∧ a.tag = b.tag ∧ a.member = b.member := by
 unfold sameCont
 constructor
 ·rintro rfl; simp
 ·cases a; cases b; simp_all
instance (a b : Mess) : Decidable (a = b) := decidable_of_iff _ mess_eq.symm
theorem ctx_eq {a b : Ctx} : a = b ↔ a.grp = b.grp ∧ a.ep = b.ep ∧ a.tree = b.tree ∧ a.trans = b.trans := by
 constructor
 ·rintro rfl; simp
 ·cases a; cases b; simp_all
instance (a b : Ctx) : Decidable (a = b) := decidable_of_iff _ ctx_eq.symm
section
variable {cs ds : Array Value}
theorem sameCtx20_any {a b : Ctx} (w : World) (H : CtxAt w cs a) (K : CtxAt w ds b) (hf : a.Fit) (hg : b.Fit) :
  Calls Tryz.prog 73 #[.agg cs, .agg ds] w fun e w' => e = .returned (.bool (decide (a = b))) ∧ Ext w w' := by
 obtain ⟨A1, A2, A3, n1, d1, n2, d2, n3, d3, rfl, H1, H2, H3⟩ := H
 obtain ⟨B1', B2', B3', m1, e1, m2, e2, m3, e3, rfl, Q1, Q2, Q3⟩ := K
 have i1 := H1.1; have i2 := H2.1; have i3 := H3.1; have j1 := Q1.1; have j2 := Q2.1; have j3 := Q3.1
 obtain ⟨f1, f2, f3⟩ := hf
 obtain ⟨g1, g2, g3⟩ := hg
 have E := Ext.refl w
 refine vc_enter1 31 Tryz.func73 rfl rfl rfl rfl ?_
 intro Q hret
 refine wc_seq ?_; intro K1 hK1
 refine wc_region ?_
 refine wl_ef (ef_box (cs := ctxV A1 A2 A3 n1 d1 n2 d2 n3 d3 a.ep) rfl rfl) rfl ?_
 rintro _ w1 ⟨g1, rfl, B1, hg1, ex⟩
 replace E := E.ext ex
 skip
 refine wl_ef (ef_box (cs := ctxV B1' B2' B3' m1 e1 m2 e2 m3 e3 b.ep) rfl rfl) rfl ?_
 rintro _ w2 ⟨g2, rfl, B2, hg2, ex⟩
 replace E := E.ext ex
 replace B1 := B1.ext ex
 skip
 refine wl_y (y_assign rfl) rfl ?_
 refine wl_nil ?_
 refine wq_then_norm (hK1 ?_)
 refine wc_seq ?_; intro K2 hK2
 refine wc_region ?_
 refine wl_y (y_fieldAddr (o := 0) (s := 1) (off := 0) (o' := 0) rfl Tryz.underlying40 rfl (by kernel_rfl) rfl rfl) rfl ?_
 refine wl_y (y_load1 rfl Tryz.underlying23 rfl (B1.get (i := 0) rfl)) rfl ?_
 refine wl_y (y_fieldAddr (o := 0) (s := 1) (off := 0) (o' := 0) rfl Tryz.underlying40 rfl (by kernel_rfl) rfl rfl) rfl ?_
 refine wl_y (y_load1 rfl Tryz.underlying23 rfl (B2.get (i := 0) rfl)) rfl ?_
 refine wl_call Tryz.func32 rfl rfl rfl (sm_any (Bs.ext H1 E) (Bs.ext Q1 E) (by omega) (by omega)) rfl ?_
 rintro e w3 ⟨rfl, ex⟩
 refine ⟨_, rfl, ?_⟩
 replace E := E.ext ex
 replace B1 := B1.ext ex
 replace B2 := B2.ext ex
 skip
 refine wl_yask (y_move rfl) rfl (fun q0 => ?_) (fun q0 => ?_)
 ·skip
  refine wl_gy 10 rfl rfl (y_fieldAddr (o := 1) (s := 1) (off := 0) (o' := 1) rfl Tryz.underlying40 rfl (by kernel_rfl) rfl rfl) rfl ?_
  refine wl_gy 10 rfl rfl (y_load1 rfl Tryz.underlying38 rfl (B1.get (i := 1) rfl)) rfl ?_
  refine wl_gy 10 rfl rfl (y_fieldAddr (o := 1) (s := 1) (off := 0) (o' := 1) rfl Tryz.underlying40 rfl (by kernel_rfl) rfl rfl) rfl ?_
  refine wl_gy 10 rfl rfl (y_load1 rfl Tryz.underlying38 rfl (B2.get (i := 1) rfl)) rfl ?_
  refine wl_gy 10 rfl rfl (y_eql rfl rfl) rfl ?_
  refine wl_y (y_pickt rfl rfl) rfl ?_
  refine wl_yask (y_move rfl) rfl (fun q1 => ?_) (fun q1 => ?_)
  ·skip
   refine wl_gy 17 rfl rfl (y_fieldAddr (o := 2) (s := 1) (off := 0) (o' := 2) rfl Tryz.underlying40 rfl (by kernel_rfl) rfl rfl) rfl ?_
   refine wl_gy 17 rfl rfl (y_load1 rfl Tryz.underlying23 rfl (B1.get (i := 2) rfl)) rfl ?_
   refine wl_gy 17 rfl rfl (y_fieldAddr (o := 2) (s := 1) (off := 0) (o' := 2) rfl Tryz.underlying40 rfl (by kernel_rfl) rfl rfl) rfl ?_
   refine wl_gy 17 rfl rfl (y_load1 rfl Tryz.underlying23 rfl (B2.get (i := 2) rfl)) rfl ?_
   refine wl_gcall 17 rfl rfl Tryz.func32 rfl rfl rfl (sm_any (Bs.ext H2 E) (Bs.ext Q2 E) (by omega) (by omega)) rfl ?_
   rintro e w4 ⟨rfl, ex⟩
   refine ⟨_, rfl, ?_⟩
   replace E := E.ext ex
   replace B1 := B1.ext ex
   replace B2 := B2.ext ex
   skip
   refine wl_y (y_pickt rfl rfl) rfl ?_
   refine wl_yask (y_move rfl) rfl (fun q2 => ?_) (fun q2 => ?_)
   ·skip
    refine wl_gy 24 rfl rfl (y_fieldAddr (o := 3) (s := 1) (off := 0) (o' := 3) rfl Tryz.underlying40 rfl (by kernel_rfl) rfl rfl) rfl ?_
    refine wl_gy 24 rfl rfl (y_load1 rfl Tryz.underlying23 rfl (B1.get (i := 3) rfl)) rfl ?_
    refine wl_gy 24 rfl rfl (y_fieldAddr (o := 3) (s := 1) (off := 0) (o' := 3) rfl Tryz.underlying40 rfl (by kernel_rfl) rfl rfl) rfl ?_
    refine wl_gy 24 rfl rfl (y_load1 rfl Tryz.underlying23 rfl (B2.get (i := 3) rfl)) rfl ?_
    refine wl_gcall 24 rfl rfl Tryz.func32 rfl rfl rfl (sm_any (Bs.ext H3 E) (Bs.ext Q3 E) (by omega) (by omega)) rfl ?_
    rintro e w5 ⟨rfl, ex⟩
    refine ⟨_, rfl, ?_⟩
    replace E := E.ext ex
    replace B1 := B1.ext ex
    replace B2 := B2.ext ex
    skip
    refine wl_y (y_pickt rfl rfl) rfl ?_
    refine wl_y (y_assign rfl) rfl ?_
    refine wl_nil ?_
    refine wq_then_norm (hK2 ?_)
    refine wc_ret ?_
    refine hret rfl ?_
    exact ⟨ret_bool ⟨fun h => ctx_eq.2 ⟨q0, by omega, q2, h⟩, fun h => by rw [h]⟩, E⟩
   ·skip
    refine wl_gno 24 rfl rfl rfl rfl ?_
    refine wl_gno 24 rfl rfl rfl rfl ?_
    refine wl_gno 24 rfl rfl rfl rfl ?_
    refine wl_gno 24 rfl rfl rfl rfl ?_
    refine wl_gno 24 rfl rfl rfl rfl ?_
    refine wl_y (y_pickf rfl rfl) rfl ?_
    refine wl_y (y_assign rfl) rfl ?_
    refine wl_nil ?_
    refine wq_then_norm (hK2 ?_)
    refine wc_ret ?_
    refine hret rfl ?_
    exact ⟨ret_no fun h => q2 (by rw [h]), E⟩
  ·skip
   refine wl_gno 17 rfl rfl rfl rfl ?_
   refine wl_gno 17 rfl rfl rfl rfl ?_
   refine wl_gno 17 rfl rfl rfl rfl ?_
   refine wl_gno 17 rfl rfl rfl rfl ?_
   refine wl_gno 17 rfl rfl rfl rfl ?_
   refine wl_y (y_pickf rfl rfl) rfl ?_
   refine wl_y (y_move rfl) rfl ?_
   refine wl_gno 24 rfl rfl rfl rfl ?_
   refine wl_gno 24 rfl rfl rfl rfl ?_
   refine wl_gno 24 rfl rfl rfl rfl ?_
   refine wl_gno 24 rfl rfl rfl rfl ?_
   refine wl_gno 24 rfl rfl rfl rfl ?_
   refine wl_y (y_pickf rfl rfl) rfl ?_
   refine wl_y (y_assign rfl) rfl ?_
   refine wl_nil ?_
   refine wq_then_norm (hK2 ?_)
   refine wc_ret ?_
   refine hret rfl ?_
   exact ⟨ret_no fun h => q1 (by rw [h]), E⟩
 ·skip
  refine wl_gno 10 rfl rfl rfl rfl ?_
  refine wl_gno 10 rfl rfl rfl rfl ?_
  refine wl_gno 10 rfl rfl rfl rfl ?_
  refine wl_gno 10 rfl rfl rfl rfl ?_
  refine wl_gno 10 rfl rfl rfl rfl ?_
  refine wl_y (y_pickf rfl rfl) rfl ?_
  refine wl_y (y_move rfl) rfl ?_
  refine wl_gno 17 rfl rfl rfl rfl ?_
  refine wl_gno 17 rfl rfl rfl rfl ?_
  refine wl_gno 17 rfl rfl rfl rfl ?_
  refine wl_gno 17 rfl rfl rfl rfl ?_
  refine wl_gno 17 rfl rfl rfl rfl ?_
  refine wl_y (y_pickf rfl rfl) rfl ?_
  refine wl_y (y_move rfl) rfl ?_
  refine wl_gno 24 rfl rfl rfl rfl ?_
  refine wl_gno 24 rfl rfl rfl rfl ?_
  refine wl_gno 24 rfl rfl rfl rfl ?_
  refine wl_gno 24 rfl rfl rfl rfl ?_
  refine wl_gno 24 rfl rfl rfl rfl ?_
  refine wl_y (y_pickf rfl rfl) rfl ?_
  refine wl_y (y_assign rfl) rfl ?_
  refine wl_nil ?_
  refine wq_then_norm (hK2 ?_)
  refine wc_ret ?_
  refine hret rfl ?_
  exact ⟨ret_no fun h => q0 (by rw [h]), E⟩
end
end Go.Proofs.YtjllhimhiekchaaGreat

/- Infos, welcomes and a guest's secrets, plainly and in memory; what bytes of them are read as: there. No conditions: plain definitions and lemmas. -/
namespace Go.Proofs.YtjllhimhiekchaaGreat
open Go.RowKit
open Nd Wire
structure Inf where
 ctx : Ctx
 tag : List UInt8
 frm : Int
 sig : List UInt8
structure Gst where
 ref : List UInt8
 enc : List UInt8
 box : List UInt8
structure Wel where
 guests : List Gst
 info : List UInt8
def Ctx.zero : Ctx := ⟨[], 0, [], []⟩
def Inf.zero : Inf := ⟨Ctx.zero, [], 0, []⟩
theorem inf_eq {a b : Inf} : a = b ↔ a.ctx = b.ctx ∧ a.tag = b.tag ∧ a.frm = b.frm ∧ a.sig = b.sig := by
 constructor
 ·intro h; subst h; exact ⟨rfl, rfl, rfl, rfl⟩
 ·rintro ⟨h1, h2, h3, h4⟩; cases a; cases b; simp_all
theorem gst_eq {a b : Gst} : a = b ↔ a.ref = b.ref ∧ a.enc = b.enc ∧ a.box = b.box := by
 constructor
 ·intro h; subst h; exact ⟨rfl, rfl, rfl⟩
 ·rintro ⟨h1, h2, h3⟩; cases a; cases b; simp_all
theorem wel_eq {a b : Wel} : a = b ↔ a.guests = b.guests ∧ a.info = b.info := by
 constructor
 ·intro h; subst h; exact ⟨rfl, rfl⟩
 ·rintro ⟨h1, h2⟩; cases a; cases b; simp_all
instance (a b : Inf) : Decidable (a = b) := decidable_of_iff _ inf_eq.symm
instance (a b : Gst) : Decidable (a = b) := decidable_of_iff _ gst_eq.symm
instance : DecidableEq Gst := fun a b => inferInstance
instance (a b : Wel) : Decidable (a = b) := decidable_of_iff _ wel_eq.symm
def ctxH (g : Hd) (ep : Nat) (t u : Hd) : Array Value := #[.slice g.A g.n g.c, .int .u64 (ep : Int), .slice t.A t.n t.c, .slice u.A u.n u.c]
def infV (g : Hd) (ep : Nat) (t u tg : Hd) (z : Int) (sg : Hd) : Array Value := #[.slice g.A g.n g.c, .int .u64 (ep : Int), .slice t.A t.n t.c, .slice u.A u.n u.c, .slice tg.A tg.n tg.c, .int .i64 z, .slice sg.A sg.n sg.c]
def thrV (a b c : Hd) : Array Value := #[.slice a.A a.n a.c, .slice b.A b.n b.c, .slice c.A c.n c.c]
def CtxC (B : Hd → List UInt8 → Prop) (cs : Array Value) (x : Ctx) : Prop := ∃ g t u, cs = ctxH g x.ep t u ∧ x.ep < 18446744073709551616 ∧ B g x.grp ∧ B t x.tree ∧ B u x.trans
def InfC (B : Hd → List UInt8 → Prop) (cs : Array Value) (x : Inf) : Prop :=
 ∃ g t u tg sg, cs = infV g x.ctx.ep t u tg x.frm sg ∧ x.ctx.ep < 18446744073709551616 ∧ (-9223372036854775808 ≤ x.frm ∧ x.frm ≤ 9223372036854775807) ∧ B g x.ctx.grp ∧ B t x.ctx.tree ∧ B u x.ctx.trans ∧ B tg x.tag ∧ B sg x.sig
def InfAt (w : World) (cs : Array Value) (x : Inf) : Prop := InfC (BsH w) cs x
section
variable {B B' : Hd → List UInt8 → Prop} {cs : Array Value} {w w' : World}
theorem InfC.imp {x : Inf} (h : InfC B cs x) (f : ∀ h xs, B h xs → B' h xs) : InfC B' cs x := by
 obtain ⟨g, t, u, tg, sg, e, he, hz, a, b, c, d, k⟩ := h
 exact ⟨g, t, u, tg, sg, e, he, hz, f _ _ a, f _ _ b, f _ _ c, f _ _ d, f _ _ k⟩
theorem CtxC.at {x : Ctx} (h : CtxC (BsH w) cs x) : CtxAt w cs x := by
 obtain ⟨g, t, u, e, he, a, b, c⟩ := h
 exact ⟨g.A, t.A, u.A, g.n, g.c, t.n, t.c, u.n, u.c, e, a, b, c⟩
theorem InfC.ctx {x : Inf} (h : InfC B cs x) : CtxC B ((cs.toList.drop 0).take 4).toArray x.ctx := by
 obtain ⟨g, t, u, tg, sg, rfl, he, hz, a, b, c, d, k⟩ := h
 exact ⟨g, t, u, rfl, he, a, b, c⟩
theorem InfAt.ext {x : Inf} (h : InfAt w cs x) (e : Ext w w') : InfAt w' cs x := InfC.imp h fun _ _ b => Bs.ext b e
end
def okInf (i : Inf) : Prop := i.ctx.grp.length ≤ 64 ∧ i.ctx.tree.length = 32 ∧ i.ctx.trans.length = 32 ∧ i.tag.length = 32 ∧ (0 ≤ i.frm ∧ i.frm ≤ 65535) ∧ i.sig.length = 64
instance (i : Inf) : Decidable (okInf i) := by unfold okInf; infer_instance
def Gst.Small (g : Gst) : Prop := g.ref.length ≤ 100 ∧ g.enc.length ≤ 100 ∧ g.box.length ≤ 200
instance (g : Gst) : Decidable g.Small := by unfold Gst.Small; infer_instance
def Wel.Small (x : Wel) : Prop := x.guests.length < 70 ∧ (∀ g ∈ x.guests, g.Small) ∧ x.info.length ≤ 500
instance (x : Wel) : Decidable x.Small := by unfold Wel.Small; infer_instance
/-! Their bytes. -/
def infT (i : Inf) : List UInt8 := ctxBytes i.ctx ++ [0] ++ vec i.tag ++ be 4 (w64 i.frm)
namespace M20
/-! How they are read. -/
end M20
end Go.Proofs.YtjllhimhiekchaaGreat

/- From a row's reading of a welcome or an info to the walk's word for it. No conditions beyond the row's own. -/
namespace Go.Proofs.YtjllhimhiekchaaGreat
open Go.ChangeShapes Go.WideShapes Go.ChangeAt Go.RowKit
section
variable {H : Type} {enc : TypeId × Value → H} {W : World} {base : Nat} {spare : Nat → Bool} {held : Bool}
theorem trod_ctx {fuel : Nat} {cs : List Value} {x : DataW H × List MemPlace} (h : DataW.trod enc Tryz.prog W base spare held fuel 40 cs = some x) : ∃ c, CtxAt W cs.toArray c ∧ c.ep < 18446744073709551616 := by
 have h' : DataW.Trod enc Tryz.prog W base spare held 40 (.agg cs.toArray) x.1 x.2 := ⟨fuel, h⟩
 obtain ⟨c', c, e, hx, he, _⟩ := open_ctx h'
 injection e with e
 rw [e]
 exact ⟨c, hx, he⟩
theorem trod_inf {fuel : Nat} {cs : List Value} {x : DataW H × List MemPlace} (h : DataW.trod enc Tryz.prog W base spare held fuel 42 cs = some x) : ∃ p, InfAt W cs.toArray p := by
 obtain ⟨fuel', hl, hfs⟩ := trod_struct Tryz.underlying42 h
 have hc : Tryz.prog.cellsOf 42 = 7 := by kernel_rfl
 rw [hc] at hl
 have c0 : Tryz.prog.cellsOf 23 = 1 := by kernel_rfl
 have c1 : Tryz.prog.cellsOf 40 = 4 := by kernel_rfl
 have c3 : Tryz.prog.cellsOf 3 = 1 := by kernel_rfl
 obtain ⟨y0, t0⟩ := hfs 0 _ rfl
 obtain ⟨_, t1⟩ := hfs 1 _ rfl
 obtain ⟨_, t2⟩ := hfs 2 _ rfl
 obtain ⟨_, t3⟩ := hfs 3 _ rfl
 obtain ⟨c, ⟨A1, A2, A3, n1, d1, n2, d2, n3, d3, e0, b0, b1, b2⟩, hep⟩ := trod_ctx t0
 obtain ⟨A4, n4, k4, r4, e4, b4, _⟩ := trod_bytes t1
 obtain ⟨z, e5, z0, z1⟩ := trod_i64 t2
 obtain ⟨A6, n6, k6, r6, e6, b6, _⟩ := trod_bytes t3
 have e : cs.drop 0 = _ := some_of (o := 0) c1 e0
 rw [one_of (o := 4) c0 e4, one_of (o := 5) c3 e5, one_of (o := 6) c0 e6, end_of hl] at e
 refine ⟨⟨c, r4, z, r6⟩, ⟨A1, n1, d1⟩, ⟨A2, n2, d2⟩, ⟨A3, n3, d3⟩, ⟨A4, n4, k4⟩, ⟨A6, n6, k6⟩, ?_, hep, ⟨z0, z1⟩, b0, b1, b2, b4, b6⟩
 rw [show cs = _ from e]
 rfl
end
end Go.Proofs.YtjllhimhiekchaaGreat

namespace Go.Proofs.YtjllhimhiekchaaGreat
open Go.RowKit
attribute [local irreducible] Y Ef WL WC WK WQ WM OpM WN WF OpN WJ OpJ WG OpG
open Wire Nd M20
section
variable {M N k : Nat} {V S S' : List Nat} {w w' w'' : World} {Φ : World → Prop}
end
def inV (gr e : Nat) : Array Value := #[.pointer (some ⟨gr, 0, none⟩), .int .u8 (e : Int)]
def InE (N : Nat) (S : List Nat) (w : World) (gi gr : Nat) (s : St) (e : Nat) : Prop := Blk w gi 222 (inV gr e) ∧ gi ∈ S ∧ gi ≠ gr ∧ Rs N S w gr s
def In (N : Nat) (S : List Nat) (w : World) (gi gr : Nat) : St → Prop
 | .ok xs => InE N S w gi gr (.ok xs) 0
 | .error c => c ≠ 0 ∧ c < 256 ∧ ∃ s, InE N S w gi gr s c
section
variable {N M gi gr k e : Nat} {S S' V : List Nat} {w w' : World} {s : St}
end
/-! Wire's flag. -/
/-! Notes. -/
section
variable {N gi gr e : Nat} {S : List Nat} {s : St}
end
/-! What is in a vector, one behind the other. -/
section
variable {N gi gr : Nat} {S V : List Nat} {s : St}
end
end Go.Proofs.YtjllhimhiekchaaGreat
