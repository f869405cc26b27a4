/- Messages, plainly and in memory; which may be; their bytes: what msg hands back. -/
import Derived.Test.YtpgalbgonmclaaaMsL
namespace Go.Proofs.Ytpgalbgonmclaaa
open Go.RowKit
attribute [local irreducible] Y Ef WL WC WK WQ WM OpM WN WF OpN WG OpG
open Nd Wire
structure Mess where
  group : List UInt8
  epoch : Nat
  frm : Int
  kind : Nat
  prop : Prop20
  com : Com20
  sig : List UInt8
  tag : List UInt8
  member : List UInt8
def Mess.zero : Mess := ⟨[], 0, 0, 0, Prop20.zero, Com20.zero, [], [], []⟩
def msgV (gr : Hd) (ep : Nat) (fr : Int) (kd k : Nat) (i h0 h1 h2 : Hd) (s : Nat) (h4 h5 g l0 l1 l2 : Hd) (t : Nat) (l4 l5 : Hd) (z : Int) (it : Hd) (b : Bool) (c0 c1 c2 : Hd) (q : Nat) (c4 c5 ct sg tg mb : Hd) : Array Value :=
  #[.slice gr.A gr.n gr.c, .int .u64 (ep : Int), .int .i64 fr, .int .u8 (kd : Int), .int .u8 (k : Int), .slice i.A i.n i.c, .slice h0.A h0.n h0.c, .slice h1.A h1.n h1.c, .slice h2.A h2.n h2.c, .int .u8 (s : Int), .slice h4.A h4.n h4.c, .slice h5.A h5.n h5.c, .slice g.A g.n g.c, .slice l0.A l0.n l0.c, .slice l1.A l1.n l1.c, .slice l2.A l2.n l2.c, .int .u8 (t : Int), .slice l4.A l4.n l4.c, .slice l5.A l5.n l5.c, .int .i64 z, .slice it.A it.n it.c, .bool b, .slice c0.A c0.n c0.c, .slice c1.A c1.n c1.c, .slice c2.A c2.n c2.c, .int .u8 (q : Int), .slice c4.A c4.n c4.c, .slice c5.A c5.n c5.c, .slice ct.A ct.n ct.c, .slice sg.A sg.n sg.c, .slice tg.A tg.n tg.c, .slice mb.A mb.n mb.c]
def MsgAt (w : World) (cs : Array Value) (m : Mess) : Prop :=
  ∃ gr i h0 h1 h2 s h4 h5 g l0 l1 l2 t l4 l5 it c0 c1 c2 q c4 c5 ct sg tg mb, cs = msgV gr m.epoch m.frm m.kind m.prop.kind i h0 h1 h2 s h4 h5 g l0 l1 l2 t l4 l5 m.prop.at_ it m.com.has c0 c1 c2 q c4 c5 ct sg tg mb ∧ m.epoch < 18446744073709551616 ∧ m.kind < 256 ∧ (-9223372036854775808 ≤ m.frm ∧ m.frm ≤ 9223372036854775807) ∧ BsH w gr m.group ∧
    PropAt w (propV m.prop.kind i h0 h1 h2 s h4 h5 g l0 l1 l2 t l4 l5 m.prop.at_) m.prop ∧ ComAt w (comV it m.com.has c0 c1 c2 q c4 c5 ct) m.com ∧ BsH w sg m.sig ∧ BsH w tg m.tag ∧ BsH w mb m.member
theorem MsgAt.ext {w w' : World} {cs : Array Value} {m : Mess} (h : MsgAt w cs m) (e : Ext w w') : MsgAt w' cs m := by
  obtain ⟨gr, i, h0, h1, h2, s, h4, h5, g, l0, l1, l2, t, l4, l5, it, c0, c1, c2, q, c4, c5, ct, sg, tg, mb, rfl, a, b, c, d, f, j, k, l, o⟩ := h
  exact ⟨gr, i, h0, h1, h2, s, h4, h5, g, l0, l1, l2, t, l4, l5, it, c0, c1, c2, q, c4, c5, ct, sg, tg, mb, rfl, a, b, c, Bs.ext d e, PropAt.ext f e, ComAt.ext j e, Bs.ext k e, Bs.ext l e, Bs.ext o e⟩
def okMsg (m : Mess) : Prop := m.group.length ≤ 64 ∧ (0 ≤ m.frm ∧ m.frm ≤ 65535) ∧ m.sig.length = 64 ∧ m.member.length = 32 ∧ (m.kind = 2 ∧ okProp m.prop ∧ noCom m.com ∧ m.tag.length = 0 ∨ m.kind = 3 ∧ noProp m.prop ∧ okCom m.com ∧ m.tag.length = 32)
instance (m : Mess) : Decidable (okMsg m) := by unfold okMsg; infer_instance
def Mess.Small (m : Mess) : Prop := m.group.length ≤ 200 ∧ m.prop.Small ∧ m.com.Small ∧ m.sig.length ≤ 100 ∧ m.tag.length ≤ 100 ∧ m.member.length ≤ 100
instance (m : Mess) : Decidable m.Small := by unfold Mess.Small; infer_instance
def Mess.Fit (m : Mess) : Prop := m.group.length ≤ 1000000 ∧ m.prop.Fit ∧ m.com.Fit ∧ m.sig.length ≤ 1000000 ∧ m.tag.length ≤ 1000000 ∧ m.member.length ≤ 1000000
theorem Mess.Small.fit {m : Mess} (h : m.Small) : m.Fit := ⟨by have := h.1; omega, h.2.1.fit, h.2.2.1.fit, by have := h.2.2.2.1; omega, by have := h.2.2.2.2.1; omega, by have := h.2.2.2.2.2; omega⟩
/-! Its bytes. -/
def preB (m : Mess) : List UInt8 := vec m.group ++ be 8 m.epoch ++ [1] ++ be 4 m.frm.toNat
def contB (m : Mess) : List UInt8 := if m.kind = 2 then propB m.prop else comB propB m.com
def framB (m : Mess) : List UInt8 := preB m ++ [UInt8.ofNat m.kind] ++ contB m
def headB (m : Mess) : List UInt8 := [0, 1, 0, 1] ++ framB m
def sealB (m : Mess) : List UInt8 := vec m.sig ++ (if m.kind = 3 then vec m.tag else [])
def messB (m : Mess) : List UInt8 := headB m ++ sealB m ++ vec m.member
def signB (m : Mess) (c : Ctx) : List UInt8 := headB m ++ ctxBytes c
def confB (m : Mess) : List UInt8 := [0, 1] ++ framB m ++ vec m.sig
theorem contB_ok {m : Mess} (h : okMsg m) (hf : m.Fit) : (contB m).length ≤ 15000000 := by
  unfold contB
  rcases h.2.2.2.2 with ⟨h1, h2, _⟩ | ⟨h1, _, h2, _⟩
  · rw [if_pos h1]; have := propB_ok h2; omega
  · rw [if_neg (by omega)]; exact comB_ok h2 hf.2.2.1
theorem preB_ok {m : Mess} (h : okMsg m) : (preB m).length ≤ 81 := by
  have h1 := vec_le m.group; have h2 := h.1
  unfold preB
  simp only [List.length_append, be_length, List.length_singleton]
  omega
theorem framB_ok {m : Mess} (h : okMsg m) (hf : m.Fit) : (framB m).length ≤ 15000100 := by
  have h1 := preB_ok h; have h2 := contB_ok h hf
  unfold framB
  simp only [List.length_append, List.length_singleton]
  omega
theorem headB_ok {m : Mess} (h : okMsg m) (hf : m.Fit) : (headB m).length ≤ 15000104 := by
  have h2 := framB_ok h hf
  unfold headB
  simp only [List.length_append, List.length_cons, List.length_nil]
  omega
section
variable {cs ds : Array Value} {m : Mess} {c : Ctx} {g g' : Nat} {t t' : TypeId}
theorem rightMsg_any (w : World) (H : MsgAt w cs m) (hf : m.Fit) :
    Calls Try.prog 83 #[.agg cs] w fun e w' => e = .returned (.bool (decide (okMsg m))) ∧ Ext w w' := by
  obtain ⟨gr, i, h0, h1, h2, s, h4, h5, g, l0, l1, l2, t, l4, l5, it, c0, c1, c2, q, c4, c5, ct, sg, tg, mb, rfl, a1, a2, a3, D, F, J, S, T, M⟩ := H
  have n1 := D.1; have n2 := S.1; have n3 := T.1; have n4 := M.1
  have E := Ext.refl w
  refine vc_enter1 59 Try.func83 rfl rfl rfl rfl ?_
  intro Q hret
  refine wc_seq ?_; intro K1 hK1
  refine wc_region ?_
  refine wl_ef (ef_box rfl rfl) rfl ?_
  rintro _ wB1 ⟨gB1, rfl, B1, hgB1, ex⟩
  have lB1 := B1.lt; have zB1 := ex.size
  replace E := E.ext ex
  refine wl_y (y_assign rfl) rfl ?_
  refine wl_nil ?_
  refine wq_then_norm (hK1 ?_)
  refine wc_seq ?_; intro K2 hK2
  refine wc_seq ?_; intro K3 hK3
  refine wc_region ?_
  refine wl_y (y_fieldAddr (o := 0) (s := 1) (off := 0) (o' := 0) rfl Try.underlying48 rfl (by kernel_rfl) rfl rfl) rfl ?_
  refine wl_y (y_load1 rfl Try.underlying22 rfl (B1.get (i := 0) rfl)) rfl ?_
  refine wl_y (y_len_slice rfl Try.underlying22) rfl ?_
  refine wl_y (y_gtr rfl rfl) rfl ?_
  refine wl_yask (y_move rfl) rfl (fun q0 => ?_) (fun q0 => ?_)
  · skip
    refine wl_gno 7 rfl rfl rfl rfl ?_
    refine wl_gno 7 rfl rfl rfl rfl ?_
    refine wl_gno 7 rfl rfl rfl rfl ?_
    refine wl_gno 7 rfl rfl rfl rfl ?_
    refine wl_y (y_pickt rfl rfl) rfl ?_
    refine wl_y (y_move rfl) rfl ?_
    refine wl_gno 13 rfl rfl rfl rfl ?_
    refine wl_gno 13 rfl rfl rfl rfl ?_
    refine wl_gno 13 rfl rfl rfl rfl ?_
    refine wl_gno 13 rfl rfl rfl rfl ?_
    refine wl_y (y_pickt rfl rfl) rfl ?_
    refine wl_y (y_move rfl) rfl ?_
    refine wl_gno 19 rfl rfl rfl rfl ?_
    refine wl_gno 19 rfl rfl rfl rfl ?_
    refine wl_gno 19 rfl rfl rfl rfl ?_
    refine wl_gno 19 rfl rfl rfl rfl ?_
    refine wl_y (y_pickt rfl rfl) rfl ?_
    refine wl_nil ?_
    refine wq_then_norm (hK3 ?_)
    refine wc_true rfl rfl ?_
    refine wc_seq ?_; intro K4 hK4
    refine wc_region ?_
    refine wl_y (y_assign rfl) rfl ?_
    refine wl_nil ?_
    refine wq_then_norm (hK4 ?_)
    refine wc_ret ?_
    refine wq_then_ret ?_
    refine hret rfl ?_
    exact ⟨ret_no fun h => by have := h.1; omega, E⟩
  · skip
    refine wl_gy 7 rfl rfl (y_fieldAddr (o := 2) (s := 1) (off := 0) (o' := 2) rfl Try.underlying48 rfl (by kernel_rfl) rfl rfl) rfl ?_
    refine wl_gy 7 rfl rfl (y_load1 rfl Try.underlying3 rfl (B1.get (i := 2) rfl)) rfl ?_
    refine wl_gcall 7 rfl rfl Try.func142 rfl rfl rfl (place_any _ _) rfl ?_
    rintro e w2 ⟨rfl, ex⟩
    refine ⟨_, rfl, ?_⟩
    replace E := E.ext ex
    replace B1 := B1.ext ex
    skip
    refine wl_gy 7 rfl rfl (y_not rfl) rfl ?_
    refine wl_y (y_pickf rfl rfl) rfl ?_
    refine wl_yaskb (y_move rfl) rfl (fun q1 => ?_) (fun q1 => ?_)
    · skip
      refine wl_gno 13 rfl rfl rfl rfl ?_
      refine wl_gno 13 rfl rfl rfl rfl ?_
      refine wl_gno 13 rfl rfl rfl rfl ?_
      refine wl_gno 13 rfl rfl rfl rfl ?_
      refine wl_y (y_pickt rfl rfl) rfl ?_
      refine wl_y (y_move rfl) rfl ?_
      refine wl_gno 19 rfl rfl rfl rfl ?_
      refine wl_gno 19 rfl rfl rfl rfl ?_
      refine wl_gno 19 rfl rfl rfl rfl ?_
      refine wl_gno 19 rfl rfl rfl rfl ?_
      refine wl_y (y_pickt rfl rfl) rfl ?_
      refine wl_nil ?_
      refine wq_then_norm (hK3 ?_)
      refine wc_true rfl rfl ?_
      refine wc_seq ?_; intro K5 hK5
      refine wc_region ?_
      refine wl_y (y_assign rfl) rfl ?_
      refine wl_nil ?_
      refine wq_then_norm (hK5 ?_)
      refine wc_ret ?_
      refine wq_then_ret ?_
      refine hret rfl ?_
      exact ⟨ret_no fun h => (by rw [decide_eq_true h.2.1] at q1; cases q1), E⟩
    · skip
      refine wl_gy 13 rfl rfl (y_fieldAddr (o := 29) (s := 1) (off := 0) (o' := 29) rfl Try.underlying48 rfl (by kernel_rfl) rfl rfl) rfl ?_
      refine wl_gy 13 rfl rfl (y_load1 rfl Try.underlying22 rfl (B1.get (i := 29) rfl)) rfl ?_
      refine wl_gy 13 rfl rfl (y_len_slice rfl Try.underlying22) rfl ?_
      refine wl_gy 13 rfl rfl (y_neq rfl rfl) rfl ?_
      refine wl_y (y_pickf rfl rfl) rfl ?_
      refine wl_yask (y_move rfl) rfl (fun q2 => ?_) (fun q2 => ?_)
      · skip
        refine wl_gno 19 rfl rfl rfl rfl ?_
        refine wl_gno 19 rfl rfl rfl rfl ?_
        refine wl_gno 19 rfl rfl rfl rfl ?_
        refine wl_gno 19 rfl rfl rfl rfl ?_
        refine wl_y (y_pickt rfl rfl) rfl ?_
        refine wl_nil ?_
        refine wq_then_norm (hK3 ?_)
        refine wc_true rfl rfl ?_
        refine wc_seq ?_; intro K6 hK6
        refine wc_region ?_
        refine wl_y (y_assign rfl) rfl ?_
        refine wl_nil ?_
        refine wq_then_norm (hK6 ?_)
        refine wc_ret ?_
        refine wq_then_ret ?_
        refine hret rfl ?_
        exact ⟨ret_no fun h => by have := h.2.2.1; omega, E⟩
      · skip
        refine wl_gy 19 rfl rfl (y_fieldAddr (o := 31) (s := 1) (off := 0) (o' := 31) rfl Try.underlying48 rfl (by kernel_rfl) rfl rfl) rfl ?_
        refine wl_gy 19 rfl rfl (y_load1 rfl Try.underlying22 rfl (B1.get (i := 31) rfl)) rfl ?_
        refine wl_gy 19 rfl rfl (y_len_slice rfl Try.underlying22) rfl ?_
        refine wl_gy 19 rfl rfl (y_neq rfl rfl) rfl ?_
        refine wl_y (y_pickf rfl rfl) rfl ?_
        refine wl_nil ?_
        refine wq_then_norm (hK3 ?_)
        refine wc_dec rfl (fun hc1 => ?_) (fun hc1 => ?_)
        · skip
          refine wc_seq ?_; intro K7 hK7
          refine wc_region ?_
          refine wl_y (y_assign rfl) rfl ?_
          refine wl_nil ?_
          refine wq_then_norm (hK7 ?_)
          refine wc_ret ?_
          refine wq_then_ret ?_
          refine hret rfl ?_
          exact ⟨ret_no fun h => by have := h.2.2.2.1; omega, E⟩
        · skip
          refine wc_skip ?_
          refine wq_then_norm (hK2 ?_)
          refine wc_seq ?_; intro K8 hK8
          refine wc_seq ?_; intro K9 hK9
          have q1' : 0 ≤ m.frm ∧ m.frm ≤ 65535 := by simpa using q1
          refine wc_region ?_
          refine wl_y (y_fieldAddr (o := 3) (s := 1) (off := 0) (o' := 3) rfl Try.underlying48 rfl (by kernel_rfl) rfl rfl) rfl ?_
          refine wl_y (y_load1 rfl Try.underlying5 rfl (B1.get (i := 3) rfl)) rfl ?_
          refine wl_nil ?_
          refine wq_then_norm (hK9 ?_)
          refine wc_block ?_
          refine wc_seq ?_; intro K10 hK10
          refine wc_region ?_
          refine wl_yask (y_eql rfl rfl) rfl (fun k2 => ?_) (fun k2 => ?_)
          · skip
            refine wl_y (y_assign rfl) rfl ?_
            refine wl_nil ?_
            refine wq_then_norm (hK10 ?_)
            refine wc_true rfl rfl ?_
            refine wc_seq ?_; intro K11 hK11
            refine wc_region ?_
            refine wl_y (y_fieldAddr (o := 4) (s := 16) (off := 0) (o' := 4) rfl Try.underlying48 rfl (by kernel_rfl) rfl rfl) rfl ?_
            refine wl_y (y_loadx (o := 4) (s := 16) rfl Try.underlying28 rfl (by kernel_rfl) B1 rfl) rfl ?_
            refine wl_call Try.func67 rfl rfl rfl (rightProp_any _ (F.ext E) hf.2.1) rfl ?_
            rintro e w3 ⟨rfl, ex⟩
            refine ⟨_, rfl, ?_⟩
            replace E := E.ext ex
            replace B1 := B1.ext ex
            skip
            refine wl_yask (y_move rfl) rfl (fun p1 => ?_) (fun p1 => ?_)
            · skip
              refine wl_gy 32 rfl rfl (y_fieldAddr (o := 20) (s := 9) (off := 0) (o' := 20) rfl Try.underlying48 rfl (by kernel_rfl) rfl rfl) rfl ?_
              refine wl_gy 32 rfl rfl (y_loadx (o := 20) (s := 9) rfl Try.underlying34 rfl (by kernel_rfl) B1 rfl) rfl ?_
              refine wl_gcall 32 rfl rfl Try.func152 rfl rfl rfl (noCommit_any _ (J.ext E) hf.2.2.1) rfl ?_
              rintro e w4 ⟨rfl, ex⟩
              refine ⟨_, rfl, ?_⟩
              replace E := E.ext ex
              replace B1 := B1.ext ex
              skip
              refine wl_y (y_pickt rfl rfl) rfl ?_
              refine wl_yask (y_move rfl) rfl (fun p2 => ?_) (fun p2 => ?_)
              · skip
                refine wl_gy 37 rfl rfl (y_fieldAddr (o := 30) (s := 1) (off := 0) (o' := 30) rfl Try.underlying48 rfl (by kernel_rfl) rfl rfl) rfl ?_
                refine wl_gy 37 rfl rfl (y_load1 rfl Try.underlying22 rfl (B1.get (i := 30) rfl)) rfl ?_
                refine wl_gy 37 rfl rfl (y_len_slice rfl Try.underlying22) rfl ?_
                refine wl_gy 37 rfl rfl (y_eql rfl rfl) rfl ?_
                refine wl_y (y_pickt rfl rfl) rfl ?_
                refine wl_y (y_assign rfl) rfl ?_
                refine wl_nil ?_
                refine wq_then_norm (hK11 ?_)
                refine wc_ret ?_
                refine wq_blk_ret ?_
                refine wq_then_ret ?_
                refine hret rfl ?_
                exact ⟨ret_bool ⟨fun h => ⟨by omega, q1', by omega, by omega, .inl ⟨by omega, p1, p2, by omega⟩⟩, fun h => h.2.2.2.2.elim (fun h => by have := h.2.2.2; omega) (fun h => by omega)⟩, E⟩
              · skip
                refine wl_gno 37 rfl rfl rfl rfl ?_
                refine wl_gno 37 rfl rfl rfl rfl ?_
                refine wl_gno 37 rfl rfl rfl rfl ?_
                refine wl_gno 37 rfl rfl rfl rfl ?_
                refine wl_y (y_pickf rfl rfl) rfl ?_
                refine wl_y (y_assign rfl) rfl ?_
                refine wl_nil ?_
                refine wq_then_norm (hK11 ?_)
                refine wc_ret ?_
                refine wq_blk_ret ?_
                refine wq_then_ret ?_
                refine hret rfl ?_
                exact ⟨ret_no fun h => h.2.2.2.2.elim (fun h => p2 h.2.2.1) (fun h => by omega), E⟩
            · skip
              refine wl_gno 32 rfl rfl rfl rfl ?_
              refine wl_gno 32 rfl rfl rfl rfl ?_
              refine wl_gno 32 rfl rfl rfl rfl ?_
              refine wl_y (y_pickf rfl rfl) rfl ?_
              refine wl_y (y_move rfl) rfl ?_
              refine wl_gno 37 rfl rfl rfl rfl ?_
              refine wl_gno 37 rfl rfl rfl rfl ?_
              refine wl_gno 37 rfl rfl rfl rfl ?_
              refine wl_gno 37 rfl rfl rfl rfl ?_
              refine wl_y (y_pickf rfl rfl) rfl ?_
              refine wl_y (y_assign rfl) rfl ?_
              refine wl_nil ?_
              refine wq_then_norm (hK11 ?_)
              refine wc_ret ?_
              refine wq_blk_ret ?_
              refine wq_then_ret ?_
              refine hret rfl ?_
              exact ⟨ret_no fun h => h.2.2.2.2.elim (fun h => p1 h.2.1) (fun h => by omega), E⟩
          · skip
            refine wl_y (y_assign rfl) rfl ?_
            refine wl_nil ?_
            refine wq_then_norm (hK10 ?_)
            refine wc_false rfl rfl ?_
            refine wc_seq ?_; intro K12 hK12
            refine wc_region ?_
            refine wl_yask (y_eql rfl rfl) rfl (fun k3 => ?_) (fun k3 => ?_)
            · skip
              refine wl_y (y_assign rfl) rfl ?_
              refine wl_nil ?_
              refine wq_then_norm (hK12 ?_)
              refine wc_true rfl rfl ?_
              refine wc_seq ?_; intro K13 hK13
              refine wc_region ?_
              refine wl_y (y_fieldAddr (o := 4) (s := 16) (off := 0) (o' := 4) rfl Try.underlying48 rfl (by kernel_rfl) rfl rfl) rfl ?_
              refine wl_y (y_loadx (o := 4) (s := 16) rfl Try.underlying28 rfl (by kernel_rfl) B1 rfl) rfl ?_
              refine wl_call Try.func153 rfl rfl rfl (noProp_any _ (F.ext E) hf.2.1) rfl ?_
              rintro e w3 ⟨rfl, ex⟩
              refine ⟨_, rfl, ?_⟩
              replace E := E.ext ex
              replace B1 := B1.ext ex
              skip
              refine wl_yask (y_move rfl) rfl (fun p1 => ?_) (fun p1 => ?_)
              · skip
                refine wl_gy 48 rfl rfl (y_fieldAddr (o := 20) (s := 9) (off := 0) (o' := 20) rfl Try.underlying48 rfl (by kernel_rfl) rfl rfl) rfl ?_
                refine wl_gy 48 rfl rfl (y_loadx (o := 20) (s := 9) rfl Try.underlying34 rfl (by kernel_rfl) B1 rfl) rfl ?_
                refine wl_gcall 48 rfl rfl Try.func70 rfl rfl rfl (rightCommit_any _ (J.ext E) hf.2.2.1) rfl ?_
                rintro e w4 ⟨rfl, ex⟩
                refine ⟨_, rfl, ?_⟩
                replace E := E.ext ex
                replace B1 := B1.ext ex
                skip
                refine wl_y (y_pickt rfl rfl) rfl ?_
                refine wl_yask (y_move rfl) rfl (fun p2 => ?_) (fun p2 => ?_)
                · skip
                  refine wl_gy 53 rfl rfl (y_fieldAddr (o := 30) (s := 1) (off := 0) (o' := 30) rfl Try.underlying48 rfl (by kernel_rfl) rfl rfl) rfl ?_
                  refine wl_gy 53 rfl rfl (y_load1 rfl Try.underlying22 rfl (B1.get (i := 30) rfl)) rfl ?_
                  refine wl_gy 53 rfl rfl (y_len_slice rfl Try.underlying22) rfl ?_
                  refine wl_gy 53 rfl rfl (y_eql rfl rfl) rfl ?_
                  refine wl_y (y_pickt rfl rfl) rfl ?_
                  refine wl_y (y_assign rfl) rfl ?_
                  refine wl_nil ?_
                  refine wq_then_norm (hK13 ?_)
                  refine wc_ret ?_
                  refine wq_blk_ret ?_
                  refine wq_then_ret ?_
                  refine hret rfl ?_
                  exact ⟨ret_bool ⟨fun h => ⟨by omega, q1', by omega, by omega, .inr ⟨by omega, p1, p2, by omega⟩⟩, fun h => h.2.2.2.2.elim (fun h => by omega) (fun h => by have := h.2.2.2; omega)⟩, E⟩
                · skip
                  refine wl_gno 53 rfl rfl rfl rfl ?_
                  refine wl_gno 53 rfl rfl rfl rfl ?_
                  refine wl_gno 53 rfl rfl rfl rfl ?_
                  refine wl_gno 53 rfl rfl rfl rfl ?_
                  refine wl_y (y_pickf rfl rfl) rfl ?_
                  refine wl_y (y_assign rfl) rfl ?_
                  refine wl_nil ?_
                  refine wq_then_norm (hK13 ?_)
                  refine wc_ret ?_
                  refine wq_blk_ret ?_
                  refine wq_then_ret ?_
                  refine hret rfl ?_
                  exact ⟨ret_no fun h => h.2.2.2.2.elim (fun h => by omega) (fun h => p2 h.2.2.1), E⟩
              · skip
                refine wl_gno 48 rfl rfl rfl rfl ?_
                refine wl_gno 48 rfl rfl rfl rfl ?_
                refine wl_gno 48 rfl rfl rfl rfl ?_
                refine wl_y (y_pickf rfl rfl) rfl ?_
                refine wl_y (y_move rfl) rfl ?_
                refine wl_gno 53 rfl rfl rfl rfl ?_
                refine wl_gno 53 rfl rfl rfl rfl ?_
                refine wl_gno 53 rfl rfl rfl rfl ?_
                refine wl_gno 53 rfl rfl rfl rfl ?_
                refine wl_y (y_pickf rfl rfl) rfl ?_
                refine wl_y (y_assign rfl) rfl ?_
                refine wl_nil ?_
                refine wq_then_norm (hK13 ?_)
                refine wc_ret ?_
                refine wq_blk_ret ?_
                refine wq_then_ret ?_
                refine hret rfl ?_
                exact ⟨ret_no fun h => h.2.2.2.2.elim (fun h => by omega) (fun h => p1 h.2.1), E⟩
            · skip
              refine wl_y (y_assign rfl) rfl ?_
              refine wl_nil ?_
              refine wq_then_norm (hK12 ?_)
              refine wc_false rfl rfl ?_
              refine wc_skip ?_
              refine wq_blk_norm ?_
              refine wq_then_norm (hK8 ?_)
              refine wc_seq ?_; intro K14 hK14
              refine wc_region ?_
              refine wl_y (y_assign rfl) rfl ?_
              refine wl_nil ?_
              refine wq_then_norm (hK14 ?_)
              refine wc_ret ?_
              refine hret rfl ?_
              exact ⟨ret_no fun h => h.2.2.2.2.elim (fun h => by omega) (fun h => by omega), E⟩
set_option maxHeartbeats 1000000 in
theorem framed_any (w : World) (H : MsgAt w cs m) (hf : m.Fit) (ok : okMsg m) :
    Calls Try.prog 89 #[.agg cs] w fun e w' => ∃ A' k c', e = .returned (.slice A' k c') ∧ Row w' w.heap.size 5 A' k c' ((framB m).map bv) ∧ Ext w w' := by
  have hcl := contB_ok ok hf
  have hpl := preB_ok ok
  obtain ⟨gr, i, h0, h1, h2, s, h4, h5, g, l0, l1, l2, t, l4, l5, it, c0, c1, c2, q, c4, c5, ct, sg, tg, mb, rfl, a1, a2, a3, D, F, J, S, T, M⟩ := H
  have n1 := D.1
  obtain ⟨k1, k2, k3, k4, k5⟩ := ok
  have E := Ext.refl w
  refine vc_enter1 34 Try.func89 rfl rfl rfl rfl ?_
  intro Q hret
  refine wc_seq ?_; intro K1 hK1
  refine wc_region ?_
  refine wl_ef (ef_box rfl rfl) rfl ?_
  rintro _ wB1 ⟨gB1, rfl, B1, hgB1, ex⟩
  have lB1 := B1.lt; have zB1 := ex.size
  replace E := E.ext ex
  refine wl_y (y_assign rfl) rfl ?_
  refine wl_nil ?_
  have X := Ext.refl wB1
  have B1o := B1
  refine wq_then_norm (hK1 ?_)
  refine wc_seq ?_; intro K2 hK2
  refine wc_join (fun L wj1 => ∃ (A : Option Addr) (n k : Nat), L = [(1, .pointer (some ⟨gB1, 0, none⟩)), (3, .slice A n k)] ∧ (Ext wB1 wj1 ∧ Row wj1 wB1.heap.size 5 A n k ((preB m).map bv))) ?_ ?_
  · skip
    skip
    refine wc_drawG [gB1] (by kernel_rfl) 13 rfl ?_; intro wd1 ex hd1
    replace B1 := B1.ext ex
    replace X := X.ext ex
    refine wg_y 0 rfl (by kernel_rfl) (fun wr (kr : Kept [gB1] _ wr) => y_fieldAddr (o := 0) (s := 1) (off := 0) (o' := 0) rfl Try.underlying48 rfl (by kernel_rfl) rfl rfl) rfl ?_
    refine wg_y 1 rfl (by kernel_rfl) (fun wr (kr : Kept [gB1] _ wr) => y_load1 rfl Try.underlying22 rfl ((B1.kep kr).get (i := 0) rfl)) rfl ?_
    refine wg_y 3 rfl (by kernel_rfl) (fun wr (kr : Kept [gB1] _ wr) => y_fieldAddr (o := 1) (s := 1) (off := 0) (o' := 1) rfl Try.underlying48 rfl (by kernel_rfl) rfl rfl) rfl ?_
    refine wg_y 4 rfl (by kernel_rfl) (fun wr (kr : Kept [gB1] _ wr) => y_load1 rfl Try.underlying46 rfl ((B1.kep kr).get (i := 1) rfl)) rfl ?_
    refine wg_y 8 rfl (by kernel_rfl) (fun wr (kr : Kept [gB1] _ wr) => y_fieldAddr (o := 2) (s := 1) (off := 0) (o' := 2) rfl Try.underlying48 rfl (by kernel_rfl) rfl rfl) rfl ?_
    refine wg_y 9 rfl (by kernel_rfl) (fun wr (kr : Kept [gB1] _ wr) => y_load1 rfl Try.underlying3 rfl ((B1.kep kr).get (i := 2) rfl)) rfl ?_
    refine wg_y 10 rfl (by kernel_rfl) (fun wr (kr : Kept [gB1] _ wr) => y_conv rfl Try.underlying3 Try.underlying46 (show IntKind.u64.wrap m.frm = ((m.frm.toNat : Nat) : Int) by rw [IntWalk.u64_in _ ⟨by omega, by omega⟩]; omega)) rfl ?_
    refine wg_two 2 6 (by kernel_rfl) ?_ ?_
    · skip
      refine og_call rfl Try.func87 rfl rfl rfl (mvec_any none gr.A 0 0 gr.n gr.c _ _ _ (Bs.nil _ _) (by omega) (Bs.ext D (E.ext X)) (by omega)) rfl ?_
      rintro e w2 ⟨A4, k4', c4', rfl, R4, hk4, ex⟩
      refine ⟨_, rfl, Kept.ext ex (kin B1.lt kno), ?_⟩
      replace B1 := B1.ext ex
      replace X := X.ext ex
      have hl4 := lsz_le gr.n
      refine wg_two 5 6 (by kernel_rfl) ?_ ?_
      · skip
        have hz5 := X.size
        refine og_call rfl Try.func88 rfl rfl rfl (mnum_any A4 k4' c4' 8 m.epoch _ _ R4.bs (by omega) (by omega) a1) rfl ?_
        rintro e w3 ⟨A5, c5', rfl, R5, ex⟩
        refine ⟨_, rfl, Kept.ext ex (kin B1.lt kno), ?_⟩
        replace B1 := B1.ext ex
        replace X := X.ext ex
        replace R4 := R4.ext ex
        replace R5 := R5.lower hz5
        refine wg_one 6 (by kernel_rfl) ?_; refine og_ef rfl (ef_lit (z := .int .u8 0) Try.underlying22 (by kernel_rfl) rfl rfl rfl rfl rfl) rfl ?_
        rintro _ w4 ⟨g4, rfl, B4, hg4, ex⟩
        refine ⟨Kept.ext ex (kin B1.lt kno), ?_⟩
        replace B1 := B1.ext ex
        replace X := X.ext ex
        replace R5 := R5.ext ex
        refine wg_one 7 (by kernel_rfl) ?_; refine og_ef rfl (ef_app rfl rfl eltB R5 (At.blk (vs := [bv 1]) (B4.congr (by rfl))) rfl (by intro u hu; simp only [List.mem_singleton] at hu; subst hu; rfl) (by omega) (by omega) X.size) rfl ?_
        rintro _ w5 ⟨A6, c6, rfl, R6, be_, gr6, hgl⟩
        have kp := Kept.own gr6 (kin B1.lt kno) (kin (R5.sepLo B1o.lt) kno)
        refine ⟨kp, ?_⟩
        replace B1 := B1.kep kp
        replace X := X.trans be_
        have hz15 := X.size
        replace R6 : Row _ _ _ _ _ _ ((vec m.group ++ be 8 m.epoch ++ [1]).map bv) := R6.congr rfl (by simp)
        refine wg_one 11 (by kernel_rfl) ?_; refine og_call rfl Try.func88 rfl rfl rfl (mnum_any A6 _ c6 4 m.frm.toNat _ _ R6.bs (by omega) (by omega) (by omega)) rfl ?_
        rintro e w6 ⟨A15, c15, rfl, R15, ex⟩
        refine ⟨_, rfl, Kept.ext ex (kin B1.lt kno), ?_⟩
        replace B1 := B1.ext ex
        replace X := X.ext ex
        replace R6 := R6.ext ex
        replace R15 := R15.lower hz15
        refine wg_y 12 rfl (by kernel_rfl) (fun wr (kr : Kept [gB1] _ wr) => y_assign rfl) rfl ?_
        refine wg_done (by kernel_rfl) ?_
        refine wq_nop ?_
        exact wq_join _ ⟨A15, _, c15, rfl, X, R15.congr rfl (by unfold preB; simp)⟩ ⟨rfl, rfl, trivial⟩
      · skip
        refine og_ef rfl (ef_lit (z := .int .u8 0) Try.underlying22 (by kernel_rfl) rfl rfl rfl rfl rfl) rfl ?_
        rintro _ w4 ⟨g4, rfl, B4, hg4, ex⟩
        refine ⟨Kept.ext ex (kin B1.lt kno), ?_⟩
        replace B1 := B1.ext ex
        replace X := X.ext ex
        replace R4 := R4.ext ex
        have hz5 := X.size
        refine wg_one 5 (by kernel_rfl) ?_; refine og_call rfl Try.func88 rfl rfl rfl (mnum_any A4 k4' c4' 8 m.epoch _ _ R4.bs (by omega) (by omega) a1) rfl ?_
        rintro e w3 ⟨A5, c5', rfl, R5, ex⟩
        refine ⟨_, rfl, Kept.ext ex (kin B1.lt kno), ?_⟩
        replace B1 := B1.ext ex
        replace X := X.ext ex
        replace R4 := R4.ext ex
        replace B4 := B4.ext ex
        replace R5 := R5.lower hz5
        refine wg_one 7 (by kernel_rfl) ?_; refine og_ef rfl (ef_app rfl rfl eltB R5 (At.blk (vs := [bv 1]) (B4.congr (by rfl))) rfl (by intro u hu; simp only [List.mem_singleton] at hu; subst hu; rfl) (by omega) (by omega) X.size) rfl ?_
        rintro _ w5 ⟨A6, c6, rfl, R6, be_, gr6, hgl⟩
        have kp := Kept.own gr6 (kin B1.lt kno) (kin (R5.sepLo B1o.lt) kno)
        refine ⟨kp, ?_⟩
        replace B1 := B1.kep kp
        replace X := X.trans be_
        have hz15 := X.size
        replace R6 : Row _ _ _ _ _ _ ((vec m.group ++ be 8 m.epoch ++ [1]).map bv) := R6.congr rfl (by simp)
        refine wg_one 11 (by kernel_rfl) ?_; refine og_call rfl Try.func88 rfl rfl rfl (mnum_any A6 _ c6 4 m.frm.toNat _ _ R6.bs (by omega) (by omega) (by omega)) rfl ?_
        rintro e w6 ⟨A15, c15, rfl, R15, ex⟩
        refine ⟨_, rfl, Kept.ext ex (kin B1.lt kno), ?_⟩
        replace B1 := B1.ext ex
        replace X := X.ext ex
        replace R6 := R6.ext ex
        replace R15 := R15.lower hz15
        refine wg_y 12 rfl (by kernel_rfl) (fun wr (kr : Kept [gB1] _ wr) => y_assign rfl) rfl ?_
        refine wg_done (by kernel_rfl) ?_
        refine wq_nop ?_
        exact wq_join _ ⟨A15, _, c15, rfl, X, R15.congr rfl (by unfold preB; simp)⟩ ⟨rfl, rfl, trivial⟩
    · skip
      refine og_ef rfl (ef_lit (z := .int .u8 0) Try.underlying22 (by kernel_rfl) rfl rfl rfl rfl rfl) rfl ?_
      rintro _ w4 ⟨g4, rfl, B4, hg4, ex⟩
      refine ⟨Kept.ext ex (kin B1.lt kno), ?_⟩
      replace B1 := B1.ext ex
      replace X := X.ext ex
      refine wg_one 2 (by kernel_rfl) ?_; refine og_call rfl Try.func87 rfl rfl rfl (mvec_any none gr.A 0 0 gr.n gr.c _ _ _ (Bs.nil _ _) (by omega) (Bs.ext D (E.ext X)) (by omega)) rfl ?_
      rintro e w2 ⟨A4, k4', c4', rfl, R4, hk4, ex⟩
      refine ⟨_, rfl, Kept.ext ex (kin B1.lt kno), ?_⟩
      replace B1 := B1.ext ex
      replace X := X.ext ex
      replace B4 := B4.ext ex
      have hl4 := lsz_le gr.n
      have hz5 := X.size
      refine wg_one 5 (by kernel_rfl) ?_; refine og_call rfl Try.func88 rfl rfl rfl (mnum_any A4 k4' c4' 8 m.epoch _ _ R4.bs (by omega) (by omega) a1) rfl ?_
      rintro e w3 ⟨A5, c5', rfl, R5, ex⟩
      refine ⟨_, rfl, Kept.ext ex (kin B1.lt kno), ?_⟩
      replace B1 := B1.ext ex
      replace X := X.ext ex
      replace B4 := B4.ext ex
      replace R4 := R4.ext ex
      replace R5 := R5.lower hz5
      refine wg_one 7 (by kernel_rfl) ?_; refine og_ef rfl (ef_app rfl rfl eltB R5 (At.blk (vs := [bv 1]) (B4.congr (by rfl))) rfl (by intro u hu; simp only [List.mem_singleton] at hu; subst hu; rfl) (by omega) (by omega) X.size) rfl ?_
      rintro _ w5 ⟨A6, c6, rfl, R6, be_, gr6, hgl⟩
      have kp := Kept.own gr6 (kin B1.lt kno) (kin (R5.sepLo B1o.lt) kno)
      refine ⟨kp, ?_⟩
      replace B1 := B1.kep kp
      replace X := X.trans be_
      have hz15 := X.size
      replace R6 : Row _ _ _ _ _ _ ((vec m.group ++ be 8 m.epoch ++ [1]).map bv) := R6.congr rfl (by simp)
      refine wg_one 11 (by kernel_rfl) ?_; refine og_call rfl Try.func88 rfl rfl rfl (mnum_any A6 _ c6 4 m.frm.toNat _ _ R6.bs (by omega) (by omega) (by omega)) rfl ?_
      rintro e w6 ⟨A15, c15, rfl, R15, ex⟩
      refine ⟨_, rfl, Kept.ext ex (kin B1.lt kno), ?_⟩
      replace B1 := B1.ext ex
      replace X := X.ext ex
      replace R6 := R6.ext ex
      replace R15 := R15.lower hz15
      refine wg_y 12 rfl (by kernel_rfl) (fun wr (kr : Kept [gB1] _ wr) => y_assign rfl) rfl ?_
      refine wg_done (by kernel_rfl) ?_
      refine wq_nop ?_
      exact wq_join _ ⟨A15, _, c15, rfl, X, R15.congr rfl (by unfold preB; simp)⟩ ⟨rfl, rfl, trivial⟩
  rintro L wj1 ⟨A, n, k, rfl, X, R⟩
  have B1 := B1o.ext X
  refine wq_then_norm (hK2 ?_)
  refine wc_seq ?_; intro K3 hK3
  refine wc_region ?_
  refine wl_y (y_move rfl) rfl ?_
  refine wl_y (y_fieldAddr (o := 3) (s := 1) (off := 0) (o' := 3) rfl Try.underlying48 rfl (by kernel_rfl) rfl rfl) rfl ?_
  refine wl_y (Y.as (y_load1 rfl Try.underlying5 rfl (B1.get (i := 3) rfl)) (src_byte a2)) rfl ?_
  refine wl_ef (ef_lit (z := .int .u8 0) Try.underlying22 (by kernel_rfl) rfl rfl rfl rfl rfl) rfl ?_
  rintro _ w7 ⟨g7, rfl, B7, hg7, ex⟩
  replace X := X.ext ex
  replace R := R.ext ex
  replace B1 := B1.ext ex
  skip
  have hn := R.bs.1
  refine wl_ef (ef_app rfl rfl eltB R (At.blk (vs := [bv (UInt8.ofNat m.kind)]) B7) rfl (by intro u hu; simp only [List.mem_singleton] at hu; subst hu; rfl) (by omega) (by omega) X.size) rfl ?_
  rintro _ w8 ⟨A8, c8, rfl, R8, be_, _, _⟩
  replace X := X.trans be_; replace R8 : Row _ _ _ _ _ _ ((preB m ++ [UInt8.ofNat m.kind]).map bv) := R8.congr rfl (by simp)
  refine wl_y (y_assign rfl) rfl ?_
  refine wl_nil ?_
  refine wq_then_norm (hK3 ?_)
  refine wc_seq ?_; intro K4 hK4
  refine wc_seq ?_; intro K5 hK5
  have B1 := B1o.ext X
  refine wc_region ?_
  refine wl_y (y_fieldAddr (o := 3) (s := 1) (off := 0) (o' := 3) rfl Try.underlying48 rfl (by kernel_rfl) rfl rfl) rfl ?_
  refine wl_y (y_load1 rfl Try.underlying5 rfl (B1.get (i := 3) rfl)) rfl ?_
  refine wl_yask (y_eql rfl rfl) rfl (fun kk => ?_) (fun kk => ?_)
  · skip
    refine wl_nil ?_
    refine wq_then_norm (hK5 ?_)
    refine wc_true rfl rfl ?_
    refine wc_seq ?_; intro K6 hK6
    have okp : okProp m.prop := k5.elim (fun h => h.2.1) (fun h => by omega)
    have hpb := propB_ok okp
    refine wc_region ?_
    refine wl_y (y_move rfl) rfl ?_
    refine wl_y (y_fieldAddr (o := 4) (s := 16) (off := 0) (o' := 4) rfl Try.underlying48 rfl (by kernel_rfl) rfl rfl) rfl ?_
    refine wl_y (y_loadx (o := 4) (s := 16) rfl Try.underlying28 rfl (by kernel_rfl) B1 rfl) rfl ?_
    refine wl_call Try.func69 rfl rfl rfl (proposal_any _ (F.ext (E.ext X)) hf.2.1 okp) rfl ?_
    rintro e w9 ⟨A9, k9, c9, rfl, R9, ex⟩
    refine ⟨_, rfl, ?_⟩
    replace X := X.ext ex
    replace R8 := R8.ext ex
    replace B1 := B1.ext ex
    have hk9 := R9.bs.1
    refine wl_ef (ef_app rfl rfl eltB R8 R9.at R9.len (by intro u hu; exact bv_one u hu) (by omega) (by omega) X.size) rfl ?_
    rintro _ w10 ⟨A10, c10, rfl, R10, be_, _, _⟩
    replace X := X.trans be_
    refine wl_y (y_assign rfl) rfl ?_
    refine wl_nil ?_
    refine wq_then_norm (hK6 ?_)
    refine wc_ret ?_
    refine wq_then_ret ?_
    refine hret rfl ?_
    exact ⟨A10, _, c10, rfl, (R10.lower E.size).congr rfl (by unfold framB contB; rw [if_pos (by omega)]; simp), E.ext X⟩
  · skip
    refine wl_nil ?_
    refine wq_then_norm (hK5 ?_)
    refine wc_false rfl rfl ?_
    refine wc_skip ?_
    refine wq_then_norm (hK4 ?_)
    refine wc_seq ?_; intro K7 hK7
    have okc : okCom m.com := k5.elim (fun h => by omega) (fun h => h.2.2.1)
    have hpb := comB_ok okc hf.2.2.1
    refine wc_region ?_
    refine wl_y (y_move rfl) rfl ?_
    refine wl_y (y_fieldAddr (o := 20) (s := 9) (off := 0) (o' := 20) rfl Try.underlying48 rfl (by kernel_rfl) rfl rfl) rfl ?_
    refine wl_y (y_loadx (o := 20) (s := 9) rfl Try.underlying34 rfl (by kernel_rfl) B1 rfl) rfl ?_
    refine wl_call Try.func72 rfl rfl rfl (commit_any _ (J.ext (E.ext X)) hf.2.2.1 okc) rfl ?_
    rintro e w9 ⟨A9, k9, c9, rfl, R9, ex⟩
    refine ⟨_, rfl, ?_⟩
    replace X := X.ext ex
    replace R8 := R8.ext ex
    replace B1 := B1.ext ex
    have hk9 := R9.bs.1
    refine wl_ef (ef_app rfl rfl eltB R8 R9.at R9.len (by intro u hu; exact bv_one u hu) (by omega) (by omega) X.size) rfl ?_
    rintro _ w10 ⟨A10, c10, rfl, R10, be_, _, _⟩
    replace X := X.trans be_
    refine wl_y (y_assign rfl) rfl ?_
    refine wl_nil ?_
    refine wq_then_norm (hK7 ?_)
    refine wc_ret ?_
    refine hret rfl ?_
    exact ⟨A10, _, c10, rfl, (R10.lower E.size).congr rfl (by unfold framB contB; rw [if_neg (by omega)]; simp), E.ext X⟩
theorem head_any (w : World) (H : MsgAt w cs m) (hf : m.Fit) (ok : okMsg m) :
    Calls Try.prog 85 #[.agg cs] w fun e w' => ∃ A' k c', e = .returned (.slice A' k c') ∧ Row w' w.heap.size 5 A' k c' ((headB m).map bv) ∧ Ext w w' := by
  have HM := H
  have hfl := framB_ok ok hf
  obtain ⟨gr, i, h0, h1, h2, s, h4, h5, g, l0, l1, l2, t, l4, l5, it, c0, c1, c2, q, c4, c5, ct, sg, tg, mb, rfl, _⟩ := H
  have E := Ext.refl w
  refine vc_enter1 8 Try.func85 rfl rfl rfl rfl ?_
  intro Q hret
  refine wc_seq ?_; intro K1 hK1
  refine wc_region ?_
  refine wl_ef (ef_box rfl rfl) rfl ?_
  rintro _ wB1 ⟨gB1, rfl, B1, hgB1, ex⟩
  have lB1 := B1.lt; have zB1 := ex.size
  replace E := E.ext ex
  refine wl_y (y_assign rfl) rfl ?_
  refine wl_nil ?_
  refine wq_then_norm (hK1 ?_)
  refine wc_seq ?_; intro K2 hK2
  refine wc_draw (by kernel_rfl) 6 rfl ?_; intro wd1 ex hd1
  replace E := E.ext ex
  replace B1 := B1.ext ex
  refine wm_y 2 rfl (by kernel_rfl) (y_loadx (o := 0) (s := 32) rfl Try.underlying48 rfl (by kernel_rfl) B1 rfl) rfl ?_
  refine wm_one 0 (by kernel_rfl) ?_; refine om_call rfl Try.func88 rfl rfl rfl (mnum_any none 0 0 2 1 [] _ (Bs.nil _ _) (by omega) (by omega) (by omega)) rfl ?_
  rintro e w2 ⟨A2, c2', rfl, R2, ex⟩
  refine ⟨_, rfl, .inr ex, ?_⟩
  replace E := E.ext ex
  replace B1 := B1.ext ex
  skip
  have hz1 := E.size
  refine wm_one 1 (by kernel_rfl) ?_; refine om_call rfl Try.func88 rfl rfl rfl (mnum_any A2 _ c2' 2 1 _ _ R2.bs (by omega) (by omega) (by omega)) rfl ?_
  rintro e w3 ⟨A3, c3, rfl, R3, ex⟩
  refine ⟨_, rfl, .inr ex, ?_⟩
  replace E := E.ext ex
  replace B1 := B1.ext ex
  replace R2 := R2.ext ex
  replace R3 := R3.lower hz1
  refine wm_one 3 (by kernel_rfl) ?_; refine om_call rfl Try.func89 rfl rfl rfl (framed_any _ (HM.ext E) hf ok) rfl ?_
  rintro e w5 ⟨A5, k5, c5', rfl, R5, ex⟩
  refine ⟨_, rfl, .inr ex, ?_⟩
  replace E := E.ext ex
  replace B1 := B1.ext ex
  replace R3 := R3.ext ex
  have hk5 := R5.bs.1
  refine wm_one 4 (by kernel_rfl) ?_; refine om_ef rfl (ef_app rfl rfl eltB R3 R5.at R5.len (by intro u hu; exact bv_one u hu) (by omega) (by omega) E.size) rfl ?_
  rintro _ w6 ⟨A6, c6, rfl, R6, be_, gr_, hl⟩
  refine ⟨.inl rfl, ?_⟩
  replace E := E.trans be_
  refine wm_y 5 rfl (by kernel_rfl) (y_assign rfl) rfl ?_
  refine wm_done (by kernel_rfl) ?_
  refine wq_nop ?_
  refine wq_then_norm (hK2 ?_)
  refine wc_ret ?_
  refine hret rfl ?_
  exact ⟨A6, _, c6, rfl, R6.cat.congr rfl (by unfold headB; rfl), E⟩
theorem sealed_any (A : Option Addr) (n k : Nat) (xs : List UInt8) (w : World) (H : MsgAt w cs m) (hf : m.Fit) (HA : Bs w A n xs) (hn : n ≤ 35000000000000) :
    Calls Try.prog 94 #[.slice A n k, .agg cs] w fun e w' => ∃ A' k c', e = .returned (.slice A' k c') ∧ Row w' w.heap.size 5 A' k c' ((xs ++ sealB m).map bv) ∧ Ext w w' := by
  obtain ⟨gr, i, h0, h1, h2, s, h4, h5, g, l0, l1, l2, t, l4, l5, it, c0, c1, c2, q, c4, c5, ct, sg, tg, mb, rfl, a1, a2, a3, D, F, J, S, T, M⟩ := H
  have f4 := hf.2.2.2.1; have f5 := hf.2.2.2.2.1
  have n2 := S.1; have n3 := T.1
  have E := Ext.refl w
  refine vc_enter1 17 Try.func94 rfl rfl rfl rfl ?_
  intro Q hret
  refine wc_seq ?_; intro K1 hK1
  refine wc_region ?_
  refine wl_ef (ef_box rfl rfl) rfl ?_
  rintro _ wB3 ⟨gB3, rfl, B3, hgB3, ex⟩
  have lB3 := B3.lt; have zB3 := ex.size
  replace E := E.ext ex
  replace HA := HA.ext ex
  refine wl_y (y_assign rfl) rfl ?_
  refine wl_nil ?_
  refine wq_then_norm (hK1 ?_)
  refine wc_seq ?_; intro K2 hK2
  refine wc_region ?_
  refine wl_y (y_move rfl) rfl ?_
  refine wl_y (y_fieldAddr (o := 29) (s := 1) (off := 0) (o' := 29) rfl Try.underlying48 rfl (by kernel_rfl) rfl rfl) rfl ?_
  refine wl_y (y_load1 rfl Try.underlying22 rfl (B3.get (i := 29) rfl)) rfl ?_
  have hz1 := E.size
  refine wl_call Try.func87 rfl rfl rfl (mvec_any A sg.A n k sg.n sg.c _ _ _ HA (by omega) (Bs.ext S E) (by omega)) rfl ?_
  rintro e w2 ⟨A2, k2, c2', rfl, R2, hk2, ex⟩
  refine ⟨_, rfl, ?_⟩
  replace E := E.ext ex
  replace HA := HA.ext ex
  replace B3 := B3.ext ex
  have hl2 := lsz_le sg.n; replace R2 := R2.lower hz1
  refine wl_y (y_assign rfl) rfl ?_
  refine wl_nil ?_
  refine wq_then_norm (hK2 ?_)
  refine wc_seq ?_; intro K3 hK3
  refine wc_seq ?_; intro K4 hK4
  refine wc_region ?_
  refine wl_y (y_fieldAddr (o := 3) (s := 1) (off := 0) (o' := 3) rfl Try.underlying48 rfl (by kernel_rfl) rfl rfl) rfl ?_
  refine wl_y (y_load1 rfl Try.underlying5 rfl (B3.get (i := 3) rfl)) rfl ?_
  refine wl_yask (y_eql rfl rfl) rfl (fun kk => ?_) (fun kk => ?_)
  · skip
    refine wl_nil ?_
    refine wq_then_norm (hK4 ?_)
    refine wc_true rfl rfl ?_
    refine wc_region ?_
    refine wl_y (y_move rfl) rfl ?_
    refine wl_y (y_fieldAddr (o := 30) (s := 1) (off := 0) (o' := 30) rfl Try.underlying48 rfl (by kernel_rfl) rfl rfl) rfl ?_
    refine wl_y (y_load1 rfl Try.underlying22 rfl (B3.get (i := 30) rfl)) rfl ?_
    have hz3 := E.size
    refine wl_call Try.func87 rfl rfl rfl (mvec_any A2 tg.A k2 c2' tg.n tg.c _ _ _ R2.bs (by omega) (Bs.ext T E) (by omega)) rfl ?_
    rintro e w3 ⟨A3, k3, c3, rfl, R3, hk3, ex⟩
    refine ⟨_, rfl, ?_⟩
    replace E := E.ext ex
    replace HA := HA.ext ex
    replace B3 := B3.ext ex
    replace R2 := R2.ext ex
    replace R3 := R3.lower hz3
    refine wl_y (y_assign rfl) rfl ?_
    refine wl_nil ?_
    refine wq_then_norm (hK3 ?_)
    refine wc_seq ?_; intro K5 hK5
    refine wc_region ?_
    refine wl_y (y_move rfl) rfl ?_
    refine wl_y (y_assign rfl) rfl ?_
    refine wl_nil ?_
    refine wq_then_norm (hK5 ?_)
    refine wc_ret ?_
    refine hret rfl ?_
    exact ⟨A3, k3, c3, rfl, R3.congr rfl (by unfold sealB; rw [if_pos (by omega)]; simp), E⟩
  · skip
    refine wl_nil ?_
    refine wq_then_norm (hK4 ?_)
    refine wc_false rfl rfl ?_
    refine wc_skip ?_
    refine wq_then_norm (hK3 ?_)
    refine wc_seq ?_; intro K6 hK6
    refine wc_region ?_
    refine wl_y (y_move rfl) rfl ?_
    refine wl_y (y_assign rfl) rfl ?_
    refine wl_nil ?_
    refine wq_then_norm (hK6 ?_)
    refine wc_ret ?_
    refine hret rfl ?_
    exact ⟨A2, k2, c2', rfl, R2.congr rfl (by unfold sealB; rw [if_neg (by omega)]; simp), E⟩
theorem sealB_ok {m : Mess} (h : okMsg m) : (sealB m).length ≤ 104 := by
  have h1 := vec_le m.sig; have h2 := vec_le m.tag; have h3 := h.2.2.1
  unfold sealB
  rw [List.length_append]
  split
  · rename_i hk
    rcases h.2.2.2.2 with h | h
    · omega
    · have := h.2.2.2; omega
  · rw [List.length_nil]; omega
theorem bytesF (w : World) (B : Blk w g t cs) (H : MsgAt w cs m) (hf : m.Fit) (ok : okMsg m) :
    Calls Try.prog 93 #[.pointer (some ⟨g, 0, none⟩)] w fun e w' => ∃ A k c, e = .returned (.slice A k c) ∧ (Bs w' A k (messB m) ∧ k ≤ c) ∧ Ext w w' := by
  have HM := H
  have hl := headB_ok ok hf
  have hs := sealB_ok ok
  obtain ⟨gr, i, h0, h1, h2, s, h4, h5, gg, l0, l1, l2, t', l4, l5, it, c0, c1, c2, q, c4, c5, ct, sg, tg, mb, rfl, a1, a2, a3, D, F, J, S, T, M⟩ := H
  have n4 := M.1; have f6 := hf.2.2.2.2.2
  have E := Ext.refl w
  refine vc_enter1 9 Try.func93 rfl rfl rfl rfl ?_
  intro Q hret
  refine wc_seq ?_; intro K1 hK1
  refine wc_region ?_
  refine wl_y (y_assign rfl) rfl ?_
  refine wl_nil ?_
  refine wq_then_norm (hK1 ?_)
  refine wc_seq ?_; intro K2 hK2
  refine wc_draw (by kernel_rfl) 8 rfl ?_; intro wd1 ex hd1
  replace E := E.ext ex
  replace B := B.ext ex
  refine wm_y 0 rfl (by kernel_rfl) (y_loadx (o := 0) (s := 32) rfl Try.underlying48 rfl (by kernel_rfl) B rfl) rfl ?_
  refine wm_y 2 rfl (by kernel_rfl) (y_loadx (o := 0) (s := 32) rfl Try.underlying48 rfl (by kernel_rfl) B rfl) rfl ?_
  refine wm_y 4 rfl (by kernel_rfl) (y_fieldAddr (o := 31) (s := 1) (off := 0) (o' := 31) rfl Try.underlying48 rfl (by kernel_rfl) rfl rfl) rfl ?_
  refine wm_y 5 rfl (by kernel_rfl) (y_load1 rfl Try.underlying22 rfl (B.get (i := 31) rfl)) rfl ?_
  refine wm_one 1 (by kernel_rfl) ?_; refine om_call rfl Try.func85 rfl rfl rfl (head_any _ (HM.ext E) hf ok) rfl ?_
  rintro e w2 ⟨A2, k2, c2', rfl, R2, ex⟩
  refine ⟨_, rfl, .inr ex, ?_⟩
  replace E := E.ext ex
  replace B := B.ext ex
  have hk2 := R2.bs.1
  refine wm_one 3 (by kernel_rfl) ?_; refine om_call rfl Try.func94 rfl rfl rfl (sealed_any A2 k2 c2' _ _ (HM.ext E) hf R2.bs (by omega)) rfl ?_
  rintro e w3 ⟨A3, k3, c3, rfl, R3, ex⟩
  refine ⟨_, rfl, .inr ex, ?_⟩
  replace E := E.ext ex
  replace B := B.ext ex
  replace R2 := R2.ext ex
  have hk3 := R3.bs.1; rw [List.length_append] at hk3
  refine wm_one 6 (by kernel_rfl) ?_; refine om_call rfl Try.func87 rfl rfl rfl (mvec_any A3 mb.A k3 c3 mb.n mb.c _ _ _ R3.bs (by omega) (Bs.ext M E) (by omega)) rfl ?_
  rintro e w4 ⟨A4, k4, c4', rfl, R4, hk4, ex⟩
  refine ⟨_, rfl, .inr ex, ?_⟩
  replace E := E.ext ex
  replace B := B.ext ex
  replace R3 := R3.ext ex
  skip
  refine wm_y 7 rfl (by kernel_rfl) (y_assign rfl) rfl ?_
  refine wm_done (by kernel_rfl) ?_
  refine wq_nop ?_
  refine wq_then_norm (hK2 ?_)
  refine wc_ret ?_
  refine hret rfl ?_
  exact ⟨A4, k4, c4', rfl, ⟨R4.bs, R4.cap⟩, E⟩
theorem signedF (w : World) (B : Blk w g t cs) (B' : Blk w g' t' ds) (H : MsgAt w cs m) (K : CtxAt w ds c) (hf : m.Fit) (ok : okMsg m) (hs : c.Small) :
    Calls Try.prog 84 #[.pointer (some ⟨g, 0, none⟩), .pointer (some ⟨g', 0, none⟩)] w fun e w' => ∃ A k c', e = .returned (.slice A k c') ∧ (Bs w' A k (signB m c) ∧ k ≤ c') ∧ Ext w w' := by
  have HM := H
  have KM := K
  have hl := headB_ok ok hf
  have hB := B.lt; have hB' := B'.lt
  obtain ⟨gr, i, h0, h1, h2, s, h4, h5, gg, l0, l1, l2, t', l4, l5, it, c0, c1, c2, q, c4, c5, ct, sg, tg, mb, rfl, _⟩ := H
  obtain ⟨A1, A2, A3, n1, d1, n2, d2, n3, d3, rfl, _⟩ := K
  have E := Ext.refl w
  refine vc_enter1 8 Try.func84 rfl rfl rfl rfl ?_
  intro Q hret
  refine wc_seq ?_; intro K1 hK1
  refine wc_region ?_
  refine wl_y (y_assign rfl) rfl ?_
  refine wl_nil ?_
  refine wq_then_norm (hK1 ?_)
  refine wc_seq ?_; intro K2 hK2
  refine wc_draw (by kernel_rfl) 6 rfl ?_; intro wd1 ex hd1
  replace E := E.ext ex
  replace B := B.ext ex
  replace B' := B'.ext ex
  refine wm_y 0 rfl (by kernel_rfl) (y_loadx (o := 0) (s := 32) rfl Try.underlying48 rfl (by kernel_rfl) B rfl) rfl ?_
  refine wm_y 2 rfl (by kernel_rfl) (y_loadx (o := 0) (s := 4) rfl Try.underlying50 rfl (by kernel_rfl) B' rfl) rfl ?_
  have hz1 := E.size
  refine wm_one 1 (by kernel_rfl) ?_; refine om_call rfl Try.func85 rfl rfl rfl (head_any _ (HM.ext E) hf ok) rfl ?_
  rintro e w2 ⟨A4, k2, c2', rfl, R2, ex⟩
  refine ⟨_, rfl, .inr ex, ?_⟩
  replace E := E.ext ex
  replace B := B.ext ex
  replace B' := B'.ext ex
  have hk2 := R2.bs.1; replace R2 := R2.lower hz1
  refine wm_one 3 (by kernel_rfl) ?_; refine om_call rfl Try.func30 rfl rfl rfl (ctxBytes_any _ _ _ (KM.ext E) hs) rfl ?_
  rintro e w3 ⟨A5, k3, c3, rfl, H3, hk3, ex⟩
  refine ⟨_, rfl, .inr ex, ?_⟩
  replace E := E.ext ex
  replace B := B.ext ex
  replace B' := B'.ext ex
  replace R2 := R2.ext ex
  have hk3' := H3.1
  refine wm_one 4 (by kernel_rfl) ?_; refine om_ef rfl (ef_app rfl rfl eltB R2 H3.2 (by rw [List.length_map, hk3']) (by intro u hu; exact bv_one u hu) (by omega) (by omega) E.size) rfl ?_
  rintro _ w4 ⟨A6, c6, rfl, R6, be_, gr_, hl_⟩
  refine ⟨.inl rfl, ?_⟩
  replace E := E.trans be_
  refine wm_y 5 rfl (by kernel_rfl) (y_assign rfl) rfl ?_
  refine wm_done (by kernel_rfl) ?_
  refine wq_nop ?_
  refine wq_then_norm (hK2 ?_)
  refine wc_ret ?_
  refine hret rfl ?_
  exact ⟨A6, _, c6, rfl, ⟨R6.cat.bs, R6.cap⟩, E⟩
theorem confirmedF (w : World) (B : Blk w g t cs) (H : MsgAt w cs m) (hf : m.Fit) (ok : okMsg m) :
    Calls Try.prog 86 #[.pointer (some ⟨g, 0, none⟩)] w fun e w' => ∃ A k c, e = .returned (.slice A k c) ∧ (Bs w' A k (confB m) ∧ k ≤ c) ∧ Ext w w' := by
  have HM := H
  have hl := framB_ok ok hf
  have hB := B.lt
  obtain ⟨gr, i, h0, h1, h2, s, h4, h5, gg, l0, l1, l2, t', l4, l5, it, c0, c1, c2, q, c4, c5, ct, sg, tg, mb, rfl, a1, a2, a3, D, F, J, S, T, M⟩ := H
  have n2 := S.1; have f4 := hf.2.2.2.1
  have E := Ext.refl w
  refine vc_enter1 9 Try.func86 rfl rfl rfl rfl ?_
  intro Q hret
  refine wc_seq ?_; intro K1 hK1
  refine wc_region ?_
  refine wl_y (y_assign rfl) rfl ?_
  refine wl_nil ?_
  refine wq_then_norm (hK1 ?_)
  refine wc_seq ?_; intro K2 hK2
  refine wc_drawG [g] (by kernel_rfl) 8 rfl ?_; intro wd1 ex hd1
  replace E := E.ext ex
  replace B := B.ext ex
  refine wg_y 1 rfl (by kernel_rfl) (fun wr (kr : Kept [g] _ wr) => y_loadx (o := 0) (s := 32) rfl Try.underlying48 rfl (by kernel_rfl) (B.kep kr) rfl) rfl ?_
  refine wg_y 4 rfl (by kernel_rfl) (fun wr (kr : Kept [g] _ wr) => y_fieldAddr (o := 29) (s := 1) (off := 0) (o' := 29) rfl Try.underlying48 rfl (by kernel_rfl) rfl rfl) rfl ?_
  refine wg_y 5 rfl (by kernel_rfl) (fun wr (kr : Kept [g] _ wr) => y_load1 rfl Try.underlying22 rfl ((B.kep kr).get (i := 29) rfl)) rfl ?_
  have hz0 := E.size
  refine wg_one 0 (by kernel_rfl) ?_; refine og_call rfl Try.func88 rfl rfl rfl (mnum_any none 0 0 2 1 [] _ (Bs.nil _ _) (by omega) (by omega) (by omega)) rfl ?_
  rintro e w2 ⟨A2, c2', rfl, R2, ex⟩
  refine ⟨_, rfl, Kept.ext ex (kin B.lt kno), ?_⟩
  replace E := E.ext ex
  replace B := B.ext ex
  replace R2 := R2.lower hz0
  refine wg_one 2 (by kernel_rfl) ?_; refine og_call rfl Try.func89 rfl rfl rfl (framed_any _ (HM.ext E) hf ok) rfl ?_
  rintro e w3 ⟨A3, k3, c3, rfl, R3, ex⟩
  refine ⟨_, rfl, Kept.ext ex (kin B.lt kno), ?_⟩
  replace E := E.ext ex
  replace B := B.ext ex
  replace R2 := R2.ext ex
  have hk3 := R3.bs.1
  refine wg_one 3 (by kernel_rfl) ?_; refine og_ef rfl (ef_app rfl rfl eltB R2 R3.at R3.len (by intro u hu; exact bv_one u hu) (by omega) (by omega) E.size) rfl ?_
  rintro _ w4 ⟨A4, c4', rfl, R4, be_, gr_, hl_⟩
  have kp := Kept.own gr_ (kin B.lt kno) (kin (R2.sepLo hB) kno)
  refine ⟨kp, ?_⟩
  replace B := B.kep kp
  replace E := E.trans be_; have hk4 := R4.cat.bs.1
  refine wg_one 6 (by kernel_rfl) ?_; refine og_call rfl Try.func87 rfl rfl rfl (mvec_any A4 sg.A _ c4' sg.n sg.c _ _ _ R4.cat.bs (by omega) (Bs.ext S E) (by omega)) rfl ?_
  rintro e w5 ⟨A5, k5, c5', rfl, R5, hk5, ex⟩
  refine ⟨_, rfl, Kept.ext ex (kin B.lt kno), ?_⟩
  replace E := E.ext ex
  replace B := B.ext ex
  replace R4 := R4.ext ex
  refine wg_y 7 rfl (by kernel_rfl) (fun wr (kr : Kept [g] _ wr) => y_assign rfl) rfl ?_
  refine wg_done (by kernel_rfl) ?_
  refine wq_nop ?_
  refine wq_then_norm (hK2 ?_)
  refine wc_ret ?_
  refine hret rfl ?_
  exact ⟨A5, k5, c5', rfl, ⟨R5.bs, R5.cap⟩, E⟩
end
end Go.Proofs.Ytpgalbgonmclaaa
