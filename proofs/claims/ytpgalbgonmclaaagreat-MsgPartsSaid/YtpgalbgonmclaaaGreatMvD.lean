/- The reference's messages of bytes; the law MsgReads. No conditions: contracts of functions. -/
import Derived.Test.YtpgalbgonmclaaaGreatMvC
namespace Go.Proofs.YtpgalbgonmclaaaGreat
open Go.RowKit
attribute [local irreducible] Y Ef WL WC WK WQ WM OpM WN WF OpN WJ OpJ
open Wire Nd M20
def MsgR (base : Nat) (A0 : Option Addr) (n0 : Nat) (b0 : List UInt8) (w : World) (cs : Array Value) (m : Mess) : Prop :=
  ∃ gr i h0 h1 h2 s h4 h5 g l0 l1 l2 t l4 l5 it c0 c1 c2 q c4 c5 ct sg tg mb, cs = msgV gr m.epoch m.frm m.kind m.prop.kind i h0 h1 h2 s h4 h5 g l0 l1 l2 t l4 l5 m.prop.at_ it m.com.has c0 c1 c2 q c4 c5 ct sg tg mb ∧ m.epoch < 18446744073709551616 ∧ m.kind < 256 ∧ (-9223372036854775808 ≤ m.frm ∧ m.frm ≤ 9223372036854775807) ∧ Sub A0 n0 b0 gr.A gr.n m.group ∧
    PropS A0 n0 b0 (propV m.prop.kind i h0 h1 h2 s h4 h5 g l0 l1 l2 t l4 l5 m.prop.at_) m.prop ∧ ComR base A0 n0 b0 w (comV it m.com.has c0 c1 c2 q c4 c5 ct) m.com ∧ Sub A0 n0 b0 sg.A sg.n m.sig ∧ Sub A0 n0 b0 tg.A tg.n m.tag ∧ Sub A0 n0 b0 mb.A mb.n m.member
theorem MsgR.at {base : Nat} {A0 : Option Addr} {n0 : Nat} {b0 : List UInt8} {w : World} {cs : Array Value} {x : Mess} (h : MsgR base A0 n0 b0 w cs x) (HA : Bs w A0 n0 b0) : MsgAt w cs x := by
  obtain ⟨gr, i, h0, h1, h2, s, h4, h5, g, l0, l1, l2, t, l4, l5, it, c0, c1, c2, q, c4, c5, ct, sg, tg, mb, e, a, a1, a2, d, f, j, k, l, o⟩ := h
  exact ⟨gr, i, h0, h1, h2, s, h4, h5, g, l0, l1, l2, t, l4, l5, it, c0, c1, c2, q, c4, c5, ct, sg, tg, mb, e, a, a1, a2, d w HA, f.at HA, j.at HA, k w HA, l w HA, o w HA⟩
theorem MsgR.zero (base : Nat) (A0 : Option Addr) (n0 : Nat) (b0 : List UInt8) (w : World) : MsgR base A0 n0 b0 w zMsgV Mess.zero :=
  ⟨_, _, _, _, _, _, _, _, _, _, _, _, _, _, _, _, _, _, _, _, _, _, _, _, _, _, rfl, (by decide), (by decide), (by decide), Sub.nil _ _ _, PropS.zero, ComR.zero _ _ _ _ _, Sub.nil _ _ _, Sub.nil _ _ _, Sub.nil _ _ _⟩
end Go.Proofs.YtpgalbgonmclaaaGreat
