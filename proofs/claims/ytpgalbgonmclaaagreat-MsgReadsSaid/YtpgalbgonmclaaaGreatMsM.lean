/- Messages, plainly and in memory; which may be; their bytes: what msg hands back. -/
import Derived.Test.YtpgalbgonmclaaaGreatMsJ
import Derived.Test.YtpgalbgonmclaaaGreatVk
namespace Go.Proofs.YtpgalbgonmclaaaGreat
open Go.RowKit
attribute [local irreducible] Y Ef WL WC WK WQ WM OpM WN WF OpN
open Nd Wire
structure Mess where
  group : List UInt8
  epoch : Nat
  frm : Int
  kind : Nat
  prop : Prop20
  com : Com20
  sig : List UInt8
  tag : List UInt8
  member : List UInt8
def Mess.zero : Mess := ⟨[], 0, 0, 0, Prop20.zero, Com20.zero, [], [], []⟩
def msgV (gr : Hd) (ep : Nat) (fr : Int) (kd k : Nat) (i h0 h1 h2 : Hd) (s : Nat) (h4 h5 g l0 l1 l2 : Hd) (t : Nat) (l4 l5 : Hd) (z : Int) (it : Hd) (b : Bool) (c0 c1 c2 : Hd) (q : Nat) (c4 c5 ct sg tg mb : Hd) : Array Value :=
  #[.slice gr.A gr.n gr.c, .int .u64 (ep : Int), .int .i64 fr, .int .u8 (kd : Int), .int .u8 (k : Int), .slice i.A i.n i.c, .slice h0.A h0.n h0.c, .slice h1.A h1.n h1.c, .slice h2.A h2.n h2.c, .int .u8 (s : Int), .slice h4.A h4.n h4.c, .slice h5.A h5.n h5.c, .slice g.A g.n g.c, .slice l0.A l0.n l0.c, .slice l1.A l1.n l1.c, .slice l2.A l2.n l2.c, .int .u8 (t : Int), .slice l4.A l4.n l4.c, .slice l5.A l5.n l5.c, .int .i64 z, .slice it.A it.n it.c, .bool b, .slice c0.A c0.n c0.c, .slice c1.A c1.n c1.c, .slice c2.A c2.n c2.c, .int .u8 (q : Int), .slice c4.A c4.n c4.c, .slice c5.A c5.n c5.c, .slice ct.A ct.n ct.c, .slice sg.A sg.n sg.c, .slice tg.A tg.n tg.c, .slice mb.A mb.n mb.c]
def MsgAt (w : World) (cs : Array Value) (m : Mess) : Prop :=
  ∃ gr i h0 h1 h2 s h4 h5 g l0 l1 l2 t l4 l5 it c0 c1 c2 q c4 c5 ct sg tg mb, cs = msgV gr m.epoch m.frm m.kind m.prop.kind i h0 h1 h2 s h4 h5 g l0 l1 l2 t l4 l5 m.prop.at_ it m.com.has c0 c1 c2 q c4 c5 ct sg tg mb ∧ m.epoch < 18446744073709551616 ∧ m.kind < 256 ∧ (-9223372036854775808 ≤ m.frm ∧ m.frm ≤ 9223372036854775807) ∧ BsH w gr m.group ∧
    PropAt w (propV m.prop.kind i h0 h1 h2 s h4 h5 g l0 l1 l2 t l4 l5 m.prop.at_) m.prop ∧ ComAt w (comV it m.com.has c0 c1 c2 q c4 c5 ct) m.com ∧ BsH w sg m.sig ∧ BsH w tg m.tag ∧ BsH w mb m.member
theorem MsgAt.ext {w w' : World} {cs : Array Value} {m : Mess} (h : MsgAt w cs m) (e : Ext w w') : MsgAt w' cs m := by
  obtain ⟨gr, i, h0, h1, h2, s, h4, h5, g, l0, l1, l2, t, l4, l5, it, c0, c1, c2, q, c4, c5, ct, sg, tg, mb, rfl, a, b, c, d, f, j, k, l, o⟩ := h
  exact ⟨gr, i, h0, h1, h2, s, h4, h5, g, l0, l1, l2, t, l4, l5, it, c0, c1, c2, q, c4, c5, ct, sg, tg, mb, rfl, a, b, c, Bs.ext d e, PropAt.ext f e, ComAt.ext j e, Bs.ext k e, Bs.ext l e, Bs.ext o e⟩
def okMsg (m : Mess) : Prop := m.group.length ≤ 64 ∧ (0 ≤ m.frm ∧ m.frm ≤ 65535) ∧ m.sig.length = 64 ∧ m.member.length = 32 ∧ (m.kind = 2 ∧ okProp m.prop ∧ noCom m.com ∧ m.tag.length = 0 ∨ m.kind = 3 ∧ noProp m.prop ∧ okCom m.com ∧ m.tag.length = 32)
instance (m : Mess) : Decidable (okMsg m) := by unfold okMsg; infer_instance
def Mess.Fit (m : Mess) : Prop := m.group.length ≤ 1000000 ∧ m.prop.Fit ∧ m.com.Fit ∧ m.sig.length ≤ 1000000 ∧ m.tag.length ≤ 1000000 ∧ m.member.length ≤ 1000000
/-! Its bytes. -/
section
variable {cs ds : Array Value} {m : Mess} {c : Ctx} {g g' : Nat} {t t' : TypeId}
theorem rightMsg_any (w : World) (H : MsgAt w cs m) (hf : m.Fit) :
    Calls Tryz.prog 53 #[.agg cs] w fun e w' => e = .returned (.bool (decide (okMsg m))) ∧ Ext w w' := by
  obtain ⟨gr, i, h0, h1, h2, s, h4, h5, g, l0, l1, l2, t, l4, l5, it, c0, c1, c2, q, c4, c5, ct, sg, tg, mb, rfl, a1, a2, a3, D, F, J, S, T, M⟩ := H
  have n1 := D.1; have n2 := S.1; have n3 := T.1; have n4 := M.1
  have E := Ext.refl w
  refine vc_enter1 59 Tryz.func53 rfl rfl rfl rfl ?_
  intro Q hret
  refine wc_seq ?_; intro K1 hK1
  refine wc_region ?_
  refine wl_ef (ef_box rfl rfl) rfl ?_
  rintro _ wB1 ⟨gB1, rfl, B1, hgB1, ex⟩
  have lB1 := B1.lt; have zB1 := ex.size
  replace E := E.ext ex
  refine wl_y (y_assign rfl) rfl ?_
  refine wl_nil ?_
  refine wq_then_norm (hK1 ?_)
  refine wc_seq ?_; intro K2 hK2
  refine wc_seq ?_; intro K3 hK3
  refine wc_region ?_
  refine wl_y (y_fieldAddr (o := 0) (s := 1) (off := 0) (o' := 0) rfl Tryz.underlying55 rfl (by kernel_rfl) rfl rfl) rfl ?_
  refine wl_y (y_load1 rfl Tryz.underlying22 rfl (B1.get (i := 0) rfl)) rfl ?_
  refine wl_y (y_len_slice rfl Tryz.underlying22) rfl ?_
  refine wl_y (y_gtr rfl rfl) rfl ?_
  refine wl_yask (y_move rfl) rfl (fun q0 => ?_) (fun q0 => ?_)
  · skip
    refine wl_gno 7 rfl rfl rfl rfl ?_
    refine wl_gno 7 rfl rfl rfl rfl ?_
    refine wl_gno 7 rfl rfl rfl rfl ?_
    refine wl_gno 7 rfl rfl rfl rfl ?_
    refine wl_y (y_pickt rfl rfl) rfl ?_
    refine wl_y (y_move rfl) rfl ?_
    refine wl_gno 13 rfl rfl rfl rfl ?_
    refine wl_gno 13 rfl rfl rfl rfl ?_
    refine wl_gno 13 rfl rfl rfl rfl ?_
    refine wl_gno 13 rfl rfl rfl rfl ?_
    refine wl_y (y_pickt rfl rfl) rfl ?_
    refine wl_y (y_move rfl) rfl ?_
    refine wl_gno 19 rfl rfl rfl rfl ?_
    refine wl_gno 19 rfl rfl rfl rfl ?_
    refine wl_gno 19 rfl rfl rfl rfl ?_
    refine wl_gno 19 rfl rfl rfl rfl ?_
    refine wl_y (y_pickt rfl rfl) rfl ?_
    refine wl_nil ?_
    refine wq_then_norm (hK3 ?_)
    refine wc_true rfl rfl ?_
    refine wc_seq ?_; intro K4 hK4
    refine wc_region ?_
    refine wl_y (y_assign rfl) rfl ?_
    refine wl_nil ?_
    refine wq_then_norm (hK4 ?_)
    refine wc_ret ?_
    refine wq_then_ret ?_
    refine hret rfl ?_
    exact ⟨ret_no fun h => by have := h.1; omega, E⟩
  · skip
    refine wl_gy 7 rfl rfl (y_fieldAddr (o := 2) (s := 1) (off := 0) (o' := 2) rfl Tryz.underlying55 rfl (by kernel_rfl) rfl rfl) rfl ?_
    refine wl_gy 7 rfl rfl (y_load1 rfl Tryz.underlying3 rfl (B1.get (i := 2) rfl)) rfl ?_
    refine wl_gcall 7 rfl rfl Tryz.func86 rfl rfl rfl (place_any _ _) rfl ?_
    rintro e w2 ⟨rfl, ex⟩
    refine ⟨_, rfl, ?_⟩
    replace E := E.ext ex
    replace B1 := B1.ext ex
    skip
    refine wl_gy 7 rfl rfl (y_not rfl) rfl ?_
    refine wl_y (y_pickf rfl rfl) rfl ?_
    refine wl_yaskb (y_move rfl) rfl (fun q1 => ?_) (fun q1 => ?_)
    · skip
      refine wl_gno 13 rfl rfl rfl rfl ?_
      refine wl_gno 13 rfl rfl rfl rfl ?_
      refine wl_gno 13 rfl rfl rfl rfl ?_
      refine wl_gno 13 rfl rfl rfl rfl ?_
      refine wl_y (y_pickt rfl rfl) rfl ?_
      refine wl_y (y_move rfl) rfl ?_
      refine wl_gno 19 rfl rfl rfl rfl ?_
      refine wl_gno 19 rfl rfl rfl rfl ?_
      refine wl_gno 19 rfl rfl rfl rfl ?_
      refine wl_gno 19 rfl rfl rfl rfl ?_
      refine wl_y (y_pickt rfl rfl) rfl ?_
      refine wl_nil ?_
      refine wq_then_norm (hK3 ?_)
      refine wc_true rfl rfl ?_
      refine wc_seq ?_; intro K5 hK5
      refine wc_region ?_
      refine wl_y (y_assign rfl) rfl ?_
      refine wl_nil ?_
      refine wq_then_norm (hK5 ?_)
      refine wc_ret ?_
      refine wq_then_ret ?_
      refine hret rfl ?_
      exact ⟨ret_no fun h => (by rw [decide_eq_true h.2.1] at q1; cases q1), E⟩
    · skip
      refine wl_gy 13 rfl rfl (y_fieldAddr (o := 29) (s := 1) (off := 0) (o' := 29) rfl Tryz.underlying55 rfl (by kernel_rfl) rfl rfl) rfl ?_
      refine wl_gy 13 rfl rfl (y_load1 rfl Tryz.underlying22 rfl (B1.get (i := 29) rfl)) rfl ?_
      refine wl_gy 13 rfl rfl (y_len_slice rfl Tryz.underlying22) rfl ?_
      refine wl_gy 13 rfl rfl (y_neq rfl rfl) rfl ?_
      refine wl_y (y_pickf rfl rfl) rfl ?_
      refine wl_yask (y_move rfl) rfl (fun q2 => ?_) (fun q2 => ?_)
      · skip
        refine wl_gno 19 rfl rfl rfl rfl ?_
        refine wl_gno 19 rfl rfl rfl rfl ?_
        refine wl_gno 19 rfl rfl rfl rfl ?_
        refine wl_gno 19 rfl rfl rfl rfl ?_
        refine wl_y (y_pickt rfl rfl) rfl ?_
        refine wl_nil ?_
        refine wq_then_norm (hK3 ?_)
        refine wc_true rfl rfl ?_
        refine wc_seq ?_; intro K6 hK6
        refine wc_region ?_
        refine wl_y (y_assign rfl) rfl ?_
        refine wl_nil ?_
        refine wq_then_norm (hK6 ?_)
        refine wc_ret ?_
        refine wq_then_ret ?_
        refine hret rfl ?_
        exact ⟨ret_no fun h => by have := h.2.2.1; omega, E⟩
      · skip
        refine wl_gy 19 rfl rfl (y_fieldAddr (o := 31) (s := 1) (off := 0) (o' := 31) rfl Tryz.underlying55 rfl (by kernel_rfl) rfl rfl) rfl ?_
        refine wl_gy 19 rfl rfl (y_load1 rfl Tryz.underlying22 rfl (B1.get (i := 31) rfl)) rfl ?_
        refine wl_gy 19 rfl rfl (y_len_slice rfl Tryz.underlying22) rfl ?_
        refine wl_gy 19 rfl rfl (y_neq rfl rfl) rfl ?_
        refine wl_y (y_pickf rfl rfl) rfl ?_
        refine wl_nil ?_
        refine wq_then_norm (hK3 ?_)
        refine wc_dec rfl (fun hc1 => ?_) (fun hc1 => ?_)
        · skip
          refine wc_seq ?_; intro K7 hK7
          refine wc_region ?_
          refine wl_y (y_assign rfl) rfl ?_
          refine wl_nil ?_
          refine wq_then_norm (hK7 ?_)
          refine wc_ret ?_
          refine wq_then_ret ?_
          refine hret rfl ?_
          exact ⟨ret_no fun h => by have := h.2.2.2.1; omega, E⟩
        · skip
          refine wc_skip ?_
          refine wq_then_norm (hK2 ?_)
          refine wc_seq ?_; intro K8 hK8
          refine wc_seq ?_; intro K9 hK9
          have q1' : 0 ≤ m.frm ∧ m.frm ≤ 65535 := by simpa using q1
          refine wc_region ?_
          refine wl_y (y_fieldAddr (o := 3) (s := 1) (off := 0) (o' := 3) rfl Tryz.underlying55 rfl (by kernel_rfl) rfl rfl) rfl ?_
          refine wl_y (y_load1 rfl Tryz.underlying5 rfl (B1.get (i := 3) rfl)) rfl ?_
          refine wl_nil ?_
          refine wq_then_norm (hK9 ?_)
          refine wc_block ?_
          refine wc_seq ?_; intro K10 hK10
          refine wc_region ?_
          refine wl_yask (y_eql rfl rfl) rfl (fun k2 => ?_) (fun k2 => ?_)
          · skip
            refine wl_y (y_assign rfl) rfl ?_
            refine wl_nil ?_
            refine wq_then_norm (hK10 ?_)
            refine wc_true rfl rfl ?_
            refine wc_seq ?_; intro K11 hK11
            refine wc_region ?_
            refine wl_y (y_fieldAddr (o := 4) (s := 16) (off := 0) (o' := 4) rfl Tryz.underlying55 rfl (by kernel_rfl) rfl rfl) rfl ?_
            refine wl_y (y_loadx (o := 4) (s := 16) rfl Tryz.underlying32 rfl (by kernel_rfl) B1 rfl) rfl ?_
            refine wl_call Tryz.func37 rfl rfl rfl (rightProp_any _ (F.ext E) hf.2.1) rfl ?_
            rintro e w3 ⟨rfl, ex⟩
            refine ⟨_, rfl, ?_⟩
            replace E := E.ext ex
            replace B1 := B1.ext ex
            skip
            refine wl_yask (y_move rfl) rfl (fun p1 => ?_) (fun p1 => ?_)
            · skip
              refine wl_gy 32 rfl rfl (y_fieldAddr (o := 20) (s := 9) (off := 0) (o' := 20) rfl Tryz.underlying55 rfl (by kernel_rfl) rfl rfl) rfl ?_
              refine wl_gy 32 rfl rfl (y_loadx (o := 20) (s := 9) rfl Tryz.underlying40 rfl (by kernel_rfl) B1 rfl) rfl ?_
              refine wl_gcall 32 rfl rfl Tryz.func104 rfl rfl rfl (noCommit_any _ (J.ext E) hf.2.2.1) rfl ?_
              rintro e w4 ⟨rfl, ex⟩
              refine ⟨_, rfl, ?_⟩
              replace E := E.ext ex
              replace B1 := B1.ext ex
              skip
              refine wl_y (y_pickt rfl rfl) rfl ?_
              refine wl_yask (y_move rfl) rfl (fun p2 => ?_) (fun p2 => ?_)
              · skip
                refine wl_gy 37 rfl rfl (y_fieldAddr (o := 30) (s := 1) (off := 0) (o' := 30) rfl Tryz.underlying55 rfl (by kernel_rfl) rfl rfl) rfl ?_
                refine wl_gy 37 rfl rfl (y_load1 rfl Tryz.underlying22 rfl (B1.get (i := 30) rfl)) rfl ?_
                refine wl_gy 37 rfl rfl (y_len_slice rfl Tryz.underlying22) rfl ?_
                refine wl_gy 37 rfl rfl (y_eql rfl rfl) rfl ?_
                refine wl_y (y_pickt rfl rfl) rfl ?_
                refine wl_y (y_assign rfl) rfl ?_
                refine wl_nil ?_
                refine wq_then_norm (hK11 ?_)
                refine wc_ret ?_
                refine wq_blk_ret ?_
                refine wq_then_ret ?_
                refine hret rfl ?_
                exact ⟨ret_bool ⟨fun h => ⟨by omega, q1', by omega, by omega, .inl ⟨by omega, p1, p2, by omega⟩⟩, fun h => h.2.2.2.2.elim (fun h => by have := h.2.2.2; omega) (fun h => by omega)⟩, E⟩
              · skip
                refine wl_gno 37 rfl rfl rfl rfl ?_
                refine wl_gno 37 rfl rfl rfl rfl ?_
                refine wl_gno 37 rfl rfl rfl rfl ?_
                refine wl_gno 37 rfl rfl rfl rfl ?_
                refine wl_y (y_pickf rfl rfl) rfl ?_
                refine wl_y (y_assign rfl) rfl ?_
                refine wl_nil ?_
                refine wq_then_norm (hK11 ?_)
                refine wc_ret ?_
                refine wq_blk_ret ?_
                refine wq_then_ret ?_
                refine hret rfl ?_
                exact ⟨ret_no fun h => h.2.2.2.2.elim (fun h => p2 h.2.2.1) (fun h => by omega), E⟩
            · skip
              refine wl_gno 32 rfl rfl rfl rfl ?_
              refine wl_gno 32 rfl rfl rfl rfl ?_
              refine wl_gno 32 rfl rfl rfl rfl ?_
              refine wl_y (y_pickf rfl rfl) rfl ?_
              refine wl_y (y_move rfl) rfl ?_
              refine wl_gno 37 rfl rfl rfl rfl ?_
              refine wl_gno 37 rfl rfl rfl rfl ?_
              refine wl_gno 37 rfl rfl rfl rfl ?_
              refine wl_gno 37 rfl rfl rfl rfl ?_
              refine wl_y (y_pickf rfl rfl) rfl ?_
              refine wl_y (y_assign rfl) rfl ?_
              refine wl_nil ?_
              refine wq_then_norm (hK11 ?_)
              refine wc_ret ?_
              refine wq_blk_ret ?_
              refine wq_then_ret ?_
              refine hret rfl ?_
              exact ⟨ret_no fun h => h.2.2.2.2.elim (fun h => p1 h.2.1) (fun h => by omega), E⟩
          · skip
            refine wl_y (y_assign rfl) rfl ?_
            refine wl_nil ?_
            refine wq_then_norm (hK10 ?_)
            refine wc_false rfl rfl ?_
            refine wc_seq ?_; intro K12 hK12
            refine wc_region ?_
            refine wl_yask (y_eql rfl rfl) rfl (fun k3 => ?_) (fun k3 => ?_)
            · skip
              refine wl_y (y_assign rfl) rfl ?_
              refine wl_nil ?_
              refine wq_then_norm (hK12 ?_)
              refine wc_true rfl rfl ?_
              refine wc_seq ?_; intro K13 hK13
              refine wc_region ?_
              refine wl_y (y_fieldAddr (o := 4) (s := 16) (off := 0) (o' := 4) rfl Tryz.underlying55 rfl (by kernel_rfl) rfl rfl) rfl ?_
              refine wl_y (y_loadx (o := 4) (s := 16) rfl Tryz.underlying32 rfl (by kernel_rfl) B1 rfl) rfl ?_
              refine wl_call Tryz.func105 rfl rfl rfl (noProp_any _ (F.ext E) hf.2.1) rfl ?_
              rintro e w3 ⟨rfl, ex⟩
              refine ⟨_, rfl, ?_⟩
              replace E := E.ext ex
              replace B1 := B1.ext ex
              skip
              refine wl_yask (y_move rfl) rfl (fun p1 => ?_) (fun p1 => ?_)
              · skip
                refine wl_gy 48 rfl rfl (y_fieldAddr (o := 20) (s := 9) (off := 0) (o' := 20) rfl Tryz.underlying55 rfl (by kernel_rfl) rfl rfl) rfl ?_
                refine wl_gy 48 rfl rfl (y_loadx (o := 20) (s := 9) rfl Tryz.underlying40 rfl (by kernel_rfl) B1 rfl) rfl ?_
                refine wl_gcall 48 rfl rfl Tryz.func41 rfl rfl rfl (rightCommit_any _ (J.ext E) hf.2.2.1) rfl ?_
                rintro e w4 ⟨rfl, ex⟩
                refine ⟨_, rfl, ?_⟩
                replace E := E.ext ex
                replace B1 := B1.ext ex
                skip
                refine wl_y (y_pickt rfl rfl) rfl ?_
                refine wl_yask (y_move rfl) rfl (fun p2 => ?_) (fun p2 => ?_)
                · skip
                  refine wl_gy 53 rfl rfl (y_fieldAddr (o := 30) (s := 1) (off := 0) (o' := 30) rfl Tryz.underlying55 rfl (by kernel_rfl) rfl rfl) rfl ?_
                  refine wl_gy 53 rfl rfl (y_load1 rfl Tryz.underlying22 rfl (B1.get (i := 30) rfl)) rfl ?_
                  refine wl_gy 53 rfl rfl (y_len_slice rfl Tryz.underlying22) rfl ?_
                  refine wl_gy 53 rfl rfl (y_eql rfl rfl) rfl ?_
                  refine wl_y (y_pickt rfl rfl) rfl ?_
                  refine wl_y (y_assign rfl) rfl ?_
                  refine wl_nil ?_
                  refine wq_then_norm (hK13 ?_)
                  refine wc_ret ?_
                  refine wq_blk_ret ?_
                  refine wq_then_ret ?_
                  refine hret rfl ?_
                  exact ⟨ret_bool ⟨fun h => ⟨by omega, q1', by omega, by omega, .inr ⟨by omega, p1, p2, by omega⟩⟩, fun h => h.2.2.2.2.elim (fun h => by omega) (fun h => by have := h.2.2.2; omega)⟩, E⟩
                · skip
                  refine wl_gno 53 rfl rfl rfl rfl ?_
                  refine wl_gno 53 rfl rfl rfl rfl ?_
                  refine wl_gno 53 rfl rfl rfl rfl ?_
                  refine wl_gno 53 rfl rfl rfl rfl ?_
                  refine wl_y (y_pickf rfl rfl) rfl ?_
                  refine wl_y (y_assign rfl) rfl ?_
                  refine wl_nil ?_
                  refine wq_then_norm (hK13 ?_)
                  refine wc_ret ?_
                  refine wq_blk_ret ?_
                  refine wq_then_ret ?_
                  refine hret rfl ?_
                  exact ⟨ret_no fun h => h.2.2.2.2.elim (fun h => by omega) (fun h => p2 h.2.2.1), E⟩
              · skip
                refine wl_gno 48 rfl rfl rfl rfl ?_
                refine wl_gno 48 rfl rfl rfl rfl ?_
                refine wl_gno 48 rfl rfl rfl rfl ?_
                refine wl_y (y_pickf rfl rfl) rfl ?_
                refine wl_y (y_move rfl) rfl ?_
                refine wl_gno 53 rfl rfl rfl rfl ?_
                refine wl_gno 53 rfl rfl rfl rfl ?_
                refine wl_gno 53 rfl rfl rfl rfl ?_
                refine wl_gno 53 rfl rfl rfl rfl ?_
                refine wl_y (y_pickf rfl rfl) rfl ?_
                refine wl_y (y_assign rfl) rfl ?_
                refine wl_nil ?_
                refine wq_then_norm (hK13 ?_)
                refine wc_ret ?_
                refine wq_blk_ret ?_
                refine wq_then_ret ?_
                refine hret rfl ?_
                exact ⟨ret_no fun h => h.2.2.2.2.elim (fun h => by omega) (fun h => p1 h.2.1), E⟩
            · skip
              refine wl_y (y_assign rfl) rfl ?_
              refine wl_nil ?_
              refine wq_then_norm (hK12 ?_)
              refine wc_false rfl rfl ?_
              refine wc_skip ?_
              refine wq_blk_norm ?_
              refine wq_then_norm (hK8 ?_)
              refine wc_seq ?_; intro K14 hK14
              refine wc_region ?_
              refine wl_y (y_assign rfl) rfl ?_
              refine wl_nil ?_
              refine wq_then_norm (hK14 ?_)
              refine wc_ret ?_
              refine hret rfl ?_
              exact ⟨ret_no fun h => h.2.2.2.2.elim (fun h => by omega) (fun h => by omega), E⟩
end
end Go.Proofs.YtpgalbgonmclaaaGreat
