/- The bytes of messages: what msg tells, and what the reference hands back. -/
import Derived.Test.YtpgalbgonmclaaaGreatVs
import Derived.Test.YtpgalbgonmclaaaGreatMsJ
import Derived.Test.YtpgalbgonmclaaaGreatRow
import Derived.Test.YtpgalbgonmclaaaGreatCtxA
import Derived.Test.YtpgalbgonmclaaaGreatNdA
import Derived.Test.YtpgalbgonmclaaaGreatMsA
/- A region that draws its order, with blocks that every operation keeps. No conditions: plain lemmas of the model. -/
namespace Go.Proofs.YtpgalbgonmclaaaGreat
open Go.RowKit
/-- The blocks of G are as they were. -/
def Kept (G : List Nat) (w w' : World) : Prop := ∀ b ∈ G, w'.heap[b]? = w.heap[b]?
theorem Kept.refl (G : List Nat) (w : World) : Kept G w w := fun _ _ => rfl
theorem Kept.tr {G : List Nat} {w w' w'' : World} (h : Kept G w w') (k : Kept G w' w'') : Kept G w w'' := fun b hb => (k b hb).trans (h b hb)
theorem Kept.ext {G : List Nat} {w w' : World} (e : Ext w w') (h : ∀ b ∈ G, b < w.heap.size) : Kept G w w' := fun b hb => e.block b (h b hb)
theorem Kept.own {G : List Nat} {w w' : World} {o : Option Nat} (e : w.grownBy w' o) (h : ∀ b ∈ G, b < w.heap.size) (hn : ∀ b ∈ G, some b ≠ o) : Kept G w w' := fun b hb => e.block b (h b hb) (hn b hb)
theorem Kept.chs {G S : List Nat} {w w' : World} (e : Chs S w w') (h : ∀ b ∈ G, b < w.heap.size) (hn : ∀ b ∈ G, b ∉ S) : Kept G w w' := fun b hb => e.block b (h b hb) (hn b hb)
theorem Kept.chg {G : List Nat} {g : Nat} {w w' : World} (e : Chg w g w') (h : ∀ b ∈ G, b < w.heap.size) (hn : ∀ b ∈ G, b ≠ g) : Kept G w w' := fun b hb => e.block b (h b hb) (fun k => hn b hb (by injection k))
theorem Chs.own' {w w' : World} {o : Option Nat} (h : w.grownBy w' o) : Chs o.toList w w' :=
  ⟨h.os, h.tape, h.output, h.size, fun k hk hn => h.block k hk fun e => hn (by rw [← e]; simp)⟩
section
variable {P : Program} {ops : Array Oper} {Q : Exit → Act → World → Prop} {N : Nd} {L : List (Nat × Value)} {w : World} {G : List Nat}
section
variable {f : FuncId} {xs : List Operand} {ats : Array TypeId} {vs : List Value} {R : Ending → World → Prop} {fn : Func} {c : Code} {ty : TypeId} {dst : Option Tmp} {pos : String} {after : Array Edge}
end
end
theorem Kp.own {N : Nat} {Φ : World → Prop} {w w' : World} {o o' : Option Nat} (h : Kp N o.toList Φ w) (gr : w.grownBy w' o) (hgl : o' = o ∨ o' = some w.heap.size) : Kp N o'.toList Φ w' := by
  have h1 : Kp N o.toList Φ w' := h.chs (Chs.own' gr) (fun _ h => h)
  rcases hgl with rfl | rfl
  · exact h1
  · refine ⟨h1.1, fun w2 hw => h1.2 w2 fun k hk _ => hw k hk ?_⟩
    have := h.1
    simp; omega
theorem Ext.cellE {w w' : World} {a : Addr} {v : Value} (e : Ext w w') (h : w.cell? a = some v) : w'.cell? a = some v := (e.cell (cell_lt h)).trans h
end Go.Proofs.YtpgalbgonmclaaaGreat

/- Messages, plainly and in memory; which may be; their bytes: what msg hands back. -/
namespace Go.Proofs.YtpgalbgonmclaaaGreat
open Go.RowKit
attribute [local irreducible] Y Ef WL WC WK WQ WM OpM WN WF OpN
open Nd Wire
structure Mess where
  group : List UInt8
  epoch : Nat
  frm : Int
  kind : Nat
  prop : Prop20
  com : Com20
  sig : List UInt8
  tag : List UInt8
  member : List UInt8
def Mess.zero : Mess := ⟨[], 0, 0, 0, Prop20.zero, Com20.zero, [], [], []⟩
def msgV (gr : Hd) (ep : Nat) (fr : Int) (kd k : Nat) (i h0 h1 h2 : Hd) (s : Nat) (h4 h5 g l0 l1 l2 : Hd) (t : Nat) (l4 l5 : Hd) (z : Int) (it : Hd) (b : Bool) (c0 c1 c2 : Hd) (q : Nat) (c4 c5 ct sg tg mb : Hd) : Array Value :=
  #[.slice gr.A gr.n gr.c, .int .u64 (ep : Int), .int .i64 fr, .int .u8 (kd : Int), .int .u8 (k : Int), .slice i.A i.n i.c, .slice h0.A h0.n h0.c, .slice h1.A h1.n h1.c, .slice h2.A h2.n h2.c, .int .u8 (s : Int), .slice h4.A h4.n h4.c, .slice h5.A h5.n h5.c, .slice g.A g.n g.c, .slice l0.A l0.n l0.c, .slice l1.A l1.n l1.c, .slice l2.A l2.n l2.c, .int .u8 (t : Int), .slice l4.A l4.n l4.c, .slice l5.A l5.n l5.c, .int .i64 z, .slice it.A it.n it.c, .bool b, .slice c0.A c0.n c0.c, .slice c1.A c1.n c1.c, .slice c2.A c2.n c2.c, .int .u8 (q : Int), .slice c4.A c4.n c4.c, .slice c5.A c5.n c5.c, .slice ct.A ct.n ct.c, .slice sg.A sg.n sg.c, .slice tg.A tg.n tg.c, .slice mb.A mb.n mb.c]
def MsgAt (w : World) (cs : Array Value) (m : Mess) : Prop :=
  ∃ gr i h0 h1 h2 s h4 h5 g l0 l1 l2 t l4 l5 it c0 c1 c2 q c4 c5 ct sg tg mb, cs = msgV gr m.epoch m.frm m.kind m.prop.kind i h0 h1 h2 s h4 h5 g l0 l1 l2 t l4 l5 m.prop.at_ it m.com.has c0 c1 c2 q c4 c5 ct sg tg mb ∧ m.epoch < 18446744073709551616 ∧ m.kind < 256 ∧ (-9223372036854775808 ≤ m.frm ∧ m.frm ≤ 9223372036854775807) ∧ BsH w gr m.group ∧
    PropAt w (propV m.prop.kind i h0 h1 h2 s h4 h5 g l0 l1 l2 t l4 l5 m.prop.at_) m.prop ∧ ComAt w (comV it m.com.has c0 c1 c2 q c4 c5 ct) m.com ∧ BsH w sg m.sig ∧ BsH w tg m.tag ∧ BsH w mb m.member
theorem MsgAt.ext {w w' : World} {cs : Array Value} {m : Mess} (h : MsgAt w cs m) (e : Ext w w') : MsgAt w' cs m := by
  obtain ⟨gr, i, h0, h1, h2, s, h4, h5, g, l0, l1, l2, t, l4, l5, it, c0, c1, c2, q, c4, c5, ct, sg, tg, mb, rfl, a, b, c, d, f, j, k, l, o⟩ := h
  exact ⟨gr, i, h0, h1, h2, s, h4, h5, g, l0, l1, l2, t, l4, l5, it, c0, c1, c2, q, c4, c5, ct, sg, tg, mb, rfl, a, b, c, Bs.ext d e, PropAt.ext f e, ComAt.ext j e, Bs.ext k e, Bs.ext l e, Bs.ext o e⟩
def Mess.Fit (m : Mess) : Prop := m.group.length ≤ 1000000 ∧ m.prop.Fit ∧ m.com.Fit ∧ m.sig.length ≤ 1000000 ∧ m.tag.length ≤ 1000000 ∧ m.member.length ≤ 1000000
/-! Its bytes. -/
section
variable {cs ds : Array Value} {m : Mess} {c : Ctx} {g g' : Nat} {t t' : TypeId}
end
end Go.Proofs.YtpgalbgonmclaaaGreat

/- From a row's reading of a proposal, a commit, a message, a welcome or an info to the walk's word for it. No conditions beyond the row's own. -/
namespace Go.Proofs.YtpgalbgonmclaaaGreat
open Go.ChangeShapes Go.WideShapes Go.ChangeAt Go.RowKit
section
variable {H : Type} {enc : TypeId × Value → H} {W : World} {base : Nat} {spare : Nat → Bool} {held : Bool}
theorem PropAt.get {w : World} {cs : Array Value} {p : Prop20} (h : PropAt w cs p) : ∃ i h0 h1 h2 s h4 h5 g l0 l1 l2 t l4 l5, cs = propV p.kind i h0 h1 h2 s h4 h5 g l0 l1 l2 t l4 l5 p.at_ ∧ PropAt w (propV p.kind i h0 h1 h2 s h4 h5 g l0 l1 l2 t l4 l5 p.at_) p := by
  have H := h
  obtain ⟨i, h0, h1, h2, h4, h5, g, l0, l1, l2, l4, l5, rfl, _⟩ := h
  exact ⟨_, _, _, _, _, _, _, _, _, _, _, _, _, _, rfl, H⟩
theorem LeafAt.get {w : World} {cs : Array Value} {l : Leaf} (h : LeafAt w cs l) : ∃ h0 h1 h2 s h4 h5, cs = leafV h0 h1 h2 s h4 h5 ∧ LeafAt w (leafV h0 h1 h2 s h4 h5) l := by
  have H := h
  obtain ⟨h0, h1, h2, h4, h5, rfl, _⟩ := h
  exact ⟨_, _, _, _, _, _, rfl, H⟩
end
end Go.Proofs.YtpgalbgonmclaaaGreat

namespace Go.Proofs.YtpgalbgonmclaaaGreat
open Go.RowKit
attribute [local irreducible] Y Ef WL WC WK WQ WM OpM WN WF OpN
open Nd Wire
section
variable {cs ds : Array Value} {m : Mess} {c : Ctx}
theorem Told.of {w : World} {ok : Prop} [Decidable ok] {xs : List UInt8} {A : Option Addr} {k d z : Nat} (T : decide ok = true → z = 0 ∧ Bs w A k xs ∧ k ≤ d) (N : decide ok = false → z = 3 ∧ A = none ∧ k = 0 ∧ d = 0) : Told w ok xs A k z ∧ k ≤ d :=
  ⟨⟨fun o => ⟨(T (decide_eq_true o)).1, (T (decide_eq_true o)).2.1⟩, fun o => ⟨(N (decide_eq_false o)).1, (N (decide_eq_false o)).2.2.1⟩⟩, by
    by_cases o : ok
    · exact (T (decide_eq_true o)).2.2
    · have h := N (decide_eq_false o); omega⟩
/-! The reference. -/
end
end Go.Proofs.YtpgalbgonmclaaaGreat
