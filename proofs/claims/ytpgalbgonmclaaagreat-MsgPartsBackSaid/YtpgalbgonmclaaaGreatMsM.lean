/- Messages, plainly and in memory; which may be; their bytes: what msg hands back. -/
import Derived.Test.YtpgalbgonmclaaaGreatMsK
/- The bytes of commits: what the reference hands back; the law MsgProposals. -/
namespace Go.Proofs.YtpgalbgonmclaaaGreat
open Go.RowKit
attribute [local irreducible] Y Ef WL WC WK WQ WM OpM WN WF OpN WG OpG
open Nd Wire
theorem itmB_sm {x : Item20} (h : x.Small) : (itmB rpropB x).length ≤ 1701 := by
  have h2 := vec_le x.ref; have h3 := rpropB_sm h.2; have h4 := h.1
  unfold itmB
  split <;> rw [List.length_cons] <;> omega
theorem bxdB_sm {b : Bxd} (h : b.Small) : (bxdB b).length ≤ 208 := by
  have h2 := vec_le b.enc; have h3 := vec_le b.box; have := h.1; have := h.2
  unfold bxdB
  rw [List.length_append]; omega
theorem stpB_sm {s : Stp} (h : s.Small) : (stpB s).length ≤ 4300 := by
  have h2 := vec_le s.box; have h3 := vec_le (s.to.flatMap bxdB); have := h.1
  have h4 := flatMap_le (l := s.to) (f := bxdB) (B := 208) fun b hb => bxdB_sm (h.2.2 b hb)
  have h5 : s.to.length * 208 ≤ 20 * 208 := Nat.mul_le_mul_right _ h.2.1
  unfold stpB
  rw [List.length_append]; omega
theorem comB_eq {c : Com20} (h : okCom c) : comB rpropB c = comB propB c := by
  have e : c.items.flatMap (itmB rpropB) = c.items.flatMap (itmB propB) := by
    have key : ∀ l : List Item20, (∀ x ∈ l, okItem x) → l.flatMap (itmB rpropB) = l.flatMap (itmB propB) := by
      intro l
      induction l with
      | nil => intro _; rfl
      | cons x l ih =>
        intro hl
        rw [List.flatMap_cons, List.flatMap_cons, ih fun y hy => hl y (List.mem_cons_of_mem _ hy)]
        congr 1
        unfold itmB
        rcases hl x List.mem_cons_self with h | h
        · rw [if_pos (by omega), if_pos (by omega)]
        · rw [if_neg (by omega), if_neg (by omega), rpropB_ok h.2]
    exact key _ h.2.1
  unfold comB
  rw [e]
theorem comB_sm {c : Com20} (h : c.Small) : (comB rpropB c).length ≤ 250000 := by
  obtain ⟨h1, h2, h3, h4, h5⟩ := h
  have i1 := flatMap_le (l := c.items) (f := itmB rpropB) (B := 1701) fun x hx => itmB_sm (h4 x hx)
  have i2 : c.items.length * 1701 ≤ 70 * 1701 := Nat.mul_le_mul_right _ h1
  have i3 := vec_le (c.items.flatMap (itmB rpropB))
  have j1 := flatMap_le (l := c.way.steps) (f := stpB) (B := 4300) fun x hx => stpB_sm (h5 x hx)
  have j2 : c.way.steps.length * 4300 ≤ 20 * 4300 := Nat.mul_le_mul_right _ h2
  have j3 := vec_le (c.way.steps.flatMap stpB)
  have j4 := leafB_sm h3
  unfold comB
  rw [List.length_append]
  split
  · rw [List.length_cons, List.length_append]; omega
  · rw [List.length_singleton]; omega
section
variable {cs : Array Value} {c : Com20} {g : Nat} {t : TypeId}
theorem commitF (w : World) (B : Blk w g t cs) (H : ComAt w cs c) (hf : c.Fit) (ok : okCom c) :
    Calls Tryz.prog 64 #[.pointer (some ⟨g, 0, none⟩)] w fun e w' => ∃ A k c', e = .returned (.slice A k c') ∧ (Bs w' A k (comB propB c) ∧ k ≤ c') ∧ Ext w w' := by
  have HP := H
  obtain ⟨it, h0, h1, h2, q, h4, h5, t, rfl, _⟩ := H
  have E := Ext.refl w
  refine vc_enter1 4 Tryz.func64 rfl rfl rfl rfl ?_
  intro Q hret
  refine wc_seq ?_; intro K1 hK1
  refine wc_region ?_
  refine wl_y (y_assign rfl) rfl ?_
  refine wl_nil ?_
  refine wq_then_norm (hK1 ?_)
  refine wc_seq ?_; intro K2 hK2
  refine wc_region ?_
  refine wl_y (y_loadx (o := 0) (s := 9) rfl Tryz.underlying40 rfl (by kernel_rfl) B rfl) rfl ?_
  refine wl_call Tryz.func65 rfl rfl rfl (commit_any _ (HP.ext E) hf ok) rfl ?_
  rintro e w2 ⟨A2, k2, c2, rfl, R2, ex⟩
  refine ⟨_, rfl, ?_⟩
  replace E := E.ext ex
  skip
  refine wl_y (y_assign rfl) rfl ?_
  refine wl_nil ?_
  refine wq_then_norm (hK2 ?_)
  refine wc_ret ?_
  refine hret rfl ?_
  exact ⟨A2, k2, c2, rfl, ⟨R2.bs, R2.cap⟩, E⟩
theorem CommitBytes_any (w : World) (H : ComAt w cs c) (hf : c.Fit) :
    Calls Tryz.prog 23 #[.agg cs] w fun e w' => ∃ A k c' z, e = .returned (.tuple #[.slice A k c', .int .u8 ((z : Nat) : Int)]) ∧ Told w' (okCom c) (comB propB c) A k z ∧ k ≤ c' ∧ Ext w w' := by
  have HP := H
  obtain ⟨it, h0, h1, h2, q, h4, h5, t, rfl, _⟩ := H
  have E := Ext.refl w
  refine vc_enter2 10 Tryz.func23 rfl rfl rfl rfl ?_
  intro Q hret
  refine wc_seq ?_; intro K1 hK1
  refine wc_region ?_
  refine wl_ef (ef_box rfl rfl) rfl ?_
  rintro _ wB1 ⟨gB1, rfl, B1, hgB1, ex⟩
  have lB1 := B1.lt; have zB1 := ex.size
  replace E := E.ext ex
  refine wl_y (y_assign rfl) rfl ?_
  refine wl_y (y_assign rfl) rfl ?_
  refine wl_nil ?_
  refine wq_then_norm (hK1 ?_)
  refine wc_seq ?_; intro K2 hK2
  refine wc_region ?_
  refine wl_y (y_loadx (o := 0) (s := 9) rfl Tryz.underlying40 rfl (by kernel_rfl) B1 rfl) rfl ?_
  refine wl_call Tryz.func41 rfl rfl rfl (rightCommit_any _ (HP.ext E) hf) rfl ?_
  rintro e w2 ⟨rfl, ex⟩
  refine ⟨_, rfl, ?_⟩
  replace E := E.ext ex
  replace B1 := B1.ext ex
  skip
  refine wl_y (y_func (xs := [.tmp 1]) (vs := [.pointer (some ⟨gB1, 0, none⟩)]) rfl) rfl ?_
  refine wl_call Tryz.func61 rfl rfl rfl (told_any (us := [.pointer (some ⟨gB1, 0, none⟩)]) (Ψ := fun w A k c' => Bs w A k (comB propB c) ∧ k ≤ c') _ Tryz.func64 rfl rfl (fun hok w1 e1 => commitF w1 (B1.ext e1) ((HP.ext E).ext e1) hf (of_decide_eq_true hok))) rfl ?_
  rintro e w3 ⟨A3, k3, c3, z3, rfl, T3, N3, ex⟩
  refine ⟨_, rfl, ?_⟩
  replace E := E.ext ex
  replace B1 := B1.ext ex
  skip
  refine wl_y (y_extract rfl rfl) rfl ?_
  refine wl_y (y_extract rfl rfl) rfl ?_
  refine wl_y (y_assign rfl) rfl ?_
  refine wl_y (y_assign rfl) rfl ?_
  refine wl_nil ?_
  refine wq_then_norm (hK2 ?_)
  refine wc_ret ?_
  refine hret rfl rfl ?_
  exact ⟨A3, k3, c3, z3, rfl, ⟨fun o => ⟨(T3 (decide_eq_true o)).1, (T3 (decide_eq_true o)).2.1⟩, fun o => ⟨(N3 (decide_eq_false o)).1, (N3 (decide_eq_false o)).2.2.1⟩⟩, (by by_cases o : okCom c; exact (T3 (decide_eq_true o)).2.2; have h := N3 (decide_eq_false o); omega), E⟩
end
end Go.Proofs.YtpgalbgonmclaaaGreat

namespace Go.Proofs.YtpgalbgonmclaaaGreat
open Go.RowKit
attribute [local irreducible] Y Ef WL WC WK WQ WM OpM WN WF OpN WG OpG
open Nd Wire
structure Mess where
  group : List UInt8
  epoch : Nat
  frm : Int
  kind : Nat
  prop : Prop20
  com : Com20
  sig : List UInt8
  tag : List UInt8
  member : List UInt8
def Mess.zero : Mess := ⟨[], 0, 0, 0, Prop20.zero, Com20.zero, [], [], []⟩
def msgV (gr : Hd) (ep : Nat) (fr : Int) (kd k : Nat) (i h0 h1 h2 : Hd) (s : Nat) (h4 h5 g l0 l1 l2 : Hd) (t : Nat) (l4 l5 : Hd) (z : Int) (it : Hd) (b : Bool) (c0 c1 c2 : Hd) (q : Nat) (c4 c5 ct sg tg mb : Hd) : Array Value :=
  #[.slice gr.A gr.n gr.c, .int .u64 (ep : Int), .int .i64 fr, .int .u8 (kd : Int), .int .u8 (k : Int), .slice i.A i.n i.c, .slice h0.A h0.n h0.c, .slice h1.A h1.n h1.c, .slice h2.A h2.n h2.c, .int .u8 (s : Int), .slice h4.A h4.n h4.c, .slice h5.A h5.n h5.c, .slice g.A g.n g.c, .slice l0.A l0.n l0.c, .slice l1.A l1.n l1.c, .slice l2.A l2.n l2.c, .int .u8 (t : Int), .slice l4.A l4.n l4.c, .slice l5.A l5.n l5.c, .int .i64 z, .slice it.A it.n it.c, .bool b, .slice c0.A c0.n c0.c, .slice c1.A c1.n c1.c, .slice c2.A c2.n c2.c, .int .u8 (q : Int), .slice c4.A c4.n c4.c, .slice c5.A c5.n c5.c, .slice ct.A ct.n ct.c, .slice sg.A sg.n sg.c, .slice tg.A tg.n tg.c, .slice mb.A mb.n mb.c]
def MsgAt (w : World) (cs : Array Value) (m : Mess) : Prop :=
  ∃ gr i h0 h1 h2 s h4 h5 g l0 l1 l2 t l4 l5 it c0 c1 c2 q c4 c5 ct sg tg mb, cs = msgV gr m.epoch m.frm m.kind m.prop.kind i h0 h1 h2 s h4 h5 g l0 l1 l2 t l4 l5 m.prop.at_ it m.com.has c0 c1 c2 q c4 c5 ct sg tg mb ∧ m.epoch < 18446744073709551616 ∧ m.kind < 256 ∧ (-9223372036854775808 ≤ m.frm ∧ m.frm ≤ 9223372036854775807) ∧ BsH w gr m.group ∧
    PropAt w (propV m.prop.kind i h0 h1 h2 s h4 h5 g l0 l1 l2 t l4 l5 m.prop.at_) m.prop ∧ ComAt w (comV it m.com.has c0 c1 c2 q c4 c5 ct) m.com ∧ BsH w sg m.sig ∧ BsH w tg m.tag ∧ BsH w mb m.member
theorem MsgAt.ext {w w' : World} {cs : Array Value} {m : Mess} (h : MsgAt w cs m) (e : Ext w w') : MsgAt w' cs m := by
  obtain ⟨gr, i, h0, h1, h2, s, h4, h5, g, l0, l1, l2, t, l4, l5, it, c0, c1, c2, q, c4, c5, ct, sg, tg, mb, rfl, a, b, c, d, f, j, k, l, o⟩ := h
  exact ⟨gr, i, h0, h1, h2, s, h4, h5, g, l0, l1, l2, t, l4, l5, it, c0, c1, c2, q, c4, c5, ct, sg, tg, mb, rfl, a, b, c, Bs.ext d e, PropAt.ext f e, ComAt.ext j e, Bs.ext k e, Bs.ext l e, Bs.ext o e⟩
def Mess.Small (m : Mess) : Prop := m.group.length ≤ 200 ∧ m.prop.Small ∧ m.com.Small ∧ m.sig.length ≤ 100 ∧ m.tag.length ≤ 100 ∧ m.member.length ≤ 100
instance (m : Mess) : Decidable m.Small := by unfold Mess.Small; infer_instance
def Mess.Fit (m : Mess) : Prop := m.group.length ≤ 1000000 ∧ m.prop.Fit ∧ m.com.Fit ∧ m.sig.length ≤ 1000000 ∧ m.tag.length ≤ 1000000 ∧ m.member.length ≤ 1000000
theorem Mess.Small.fit {m : Mess} (h : m.Small) : m.Fit := ⟨by have := h.1; omega, h.2.1.fit, h.2.2.1.fit, by have := h.2.2.2.1; omega, by have := h.2.2.2.2.1; omega, by have := h.2.2.2.2.2; omega⟩
/-! Its bytes. -/
section
variable {cs ds : Array Value} {m : Mess} {c : Ctx} {g g' : Nat} {t t' : TypeId}
end
end Go.Proofs.YtpgalbgonmclaaaGreat
