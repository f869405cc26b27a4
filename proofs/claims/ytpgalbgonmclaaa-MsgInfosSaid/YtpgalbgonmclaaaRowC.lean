/- From a row's reading of a proposal, a commit, a message, a welcome or an info to the walk's word for it. No conditions beyond the row's own. -/
import Derived.Test.YtpgalbgonmclaaaMsH
import Derived.Test.YtpgalbgonmclaaaVk
import Derived.Test.YtpgalbgonmclaaaRowX
import Derived.Test.YtpgalbgonmclaaaRow
import Derived.Test.YtpgalbgonmclaaaNdA
import Derived.Test.YtpgalbgonmclaaaMsA
/- The bytes of commits: what the reference hands back; the law MsgProposals. -/
namespace Go.Proofs.Ytpgalbgonmclaaa
open Go.RowKit
attribute [local irreducible] Y Ef WL WC WK WQ WM OpM WN WF OpN WG OpG
open Nd Wire
section
variable {cs : Array Value} {c : Com20} {g : Nat} {t : TypeId}
end
theorem ltold_any {ok : Prop} [Decidable ok] {A B : Option Addr} {k c m d z : Nat} {xs ys : List UInt8} (w : World) (T : Told w ok xs A k z) (HB : Bs w B m ys) (h : ok → ys = xs) (hk : ys.length ≤ 100000000) :
    Calls Try.prog 15 #[.slice A k c, .int .u8 ((z : Nat) : Int), .bool (decide ok), .slice B m d] w fun e w' => e = .returned (.bool true) ∧ Ext w w' := by
  by_cases o : ok
  · rw [decide_eq_true o]
    have e := h o
    subst e
    exact ltold_t _ (T.1 o).1 (T.1 o).2 HB (by rw [← (T.1 o).2.1]; exact hk)
  · rw [decide_eq_false o]
    exact ltold_f _ (T.2 o).1 (T.2 o).2
end Go.Proofs.Ytpgalbgonmclaaa

/- Messages, plainly and in memory; which may be; their bytes: what msg hands back. -/
namespace Go.Proofs.Ytpgalbgonmclaaa
open Go.RowKit
attribute [local irreducible] Y Ef WL WC WK WQ WM OpM WN WF OpN WG OpG
open Nd Wire
structure Mess where
  group : List UInt8
  epoch : Nat
  frm : Int
  kind : Nat
  prop : Prop20
  com : Com20
  sig : List UInt8
  tag : List UInt8
  member : List UInt8
def Mess.zero : Mess := ⟨[], 0, 0, 0, Prop20.zero, Com20.zero, [], [], []⟩
def msgV (gr : Hd) (ep : Nat) (fr : Int) (kd k : Nat) (i h0 h1 h2 : Hd) (s : Nat) (h4 h5 g l0 l1 l2 : Hd) (t : Nat) (l4 l5 : Hd) (z : Int) (it : Hd) (b : Bool) (c0 c1 c2 : Hd) (q : Nat) (c4 c5 ct sg tg mb : Hd) : Array Value :=
  #[.slice gr.A gr.n gr.c, .int .u64 (ep : Int), .int .i64 fr, .int .u8 (kd : Int), .int .u8 (k : Int), .slice i.A i.n i.c, .slice h0.A h0.n h0.c, .slice h1.A h1.n h1.c, .slice h2.A h2.n h2.c, .int .u8 (s : Int), .slice h4.A h4.n h4.c, .slice h5.A h5.n h5.c, .slice g.A g.n g.c, .slice l0.A l0.n l0.c, .slice l1.A l1.n l1.c, .slice l2.A l2.n l2.c, .int .u8 (t : Int), .slice l4.A l4.n l4.c, .slice l5.A l5.n l5.c, .int .i64 z, .slice it.A it.n it.c, .bool b, .slice c0.A c0.n c0.c, .slice c1.A c1.n c1.c, .slice c2.A c2.n c2.c, .int .u8 (q : Int), .slice c4.A c4.n c4.c, .slice c5.A c5.n c5.c, .slice ct.A ct.n ct.c, .slice sg.A sg.n sg.c, .slice tg.A tg.n tg.c, .slice mb.A mb.n mb.c]
def MsgAt (w : World) (cs : Array Value) (m : Mess) : Prop :=
  ∃ gr i h0 h1 h2 s h4 h5 g l0 l1 l2 t l4 l5 it c0 c1 c2 q c4 c5 ct sg tg mb, cs = msgV gr m.epoch m.frm m.kind m.prop.kind i h0 h1 h2 s h4 h5 g l0 l1 l2 t l4 l5 m.prop.at_ it m.com.has c0 c1 c2 q c4 c5 ct sg tg mb ∧ m.epoch < 18446744073709551616 ∧ m.kind < 256 ∧ (-9223372036854775808 ≤ m.frm ∧ m.frm ≤ 9223372036854775807) ∧ BsH w gr m.group ∧
    PropAt w (propV m.prop.kind i h0 h1 h2 s h4 h5 g l0 l1 l2 t l4 l5 m.prop.at_) m.prop ∧ ComAt w (comV it m.com.has c0 c1 c2 q c4 c5 ct) m.com ∧ BsH w sg m.sig ∧ BsH w tg m.tag ∧ BsH w mb m.member
theorem MsgAt.ext {w w' : World} {cs : Array Value} {m : Mess} (h : MsgAt w cs m) (e : Ext w w') : MsgAt w' cs m := by
  obtain ⟨gr, i, h0, h1, h2, s, h4, h5, g, l0, l1, l2, t, l4, l5, it, c0, c1, c2, q, c4, c5, ct, sg, tg, mb, rfl, a, b, c, d, f, j, k, l, o⟩ := h
  exact ⟨gr, i, h0, h1, h2, s, h4, h5, g, l0, l1, l2, t, l4, l5, it, c0, c1, c2, q, c4, c5, ct, sg, tg, mb, rfl, a, b, c, Bs.ext d e, PropAt.ext f e, ComAt.ext j e, Bs.ext k e, Bs.ext l e, Bs.ext o e⟩
def Mess.Small (m : Mess) : Prop := m.group.length ≤ 200 ∧ m.prop.Small ∧ m.com.Small ∧ m.sig.length ≤ 100 ∧ m.tag.length ≤ 100 ∧ m.member.length ≤ 100
instance (m : Mess) : Decidable m.Small := by unfold Mess.Small; infer_instance
def Mess.Fit (m : Mess) : Prop := m.group.length ≤ 1000000 ∧ m.prop.Fit ∧ m.com.Fit ∧ m.sig.length ≤ 1000000 ∧ m.tag.length ≤ 1000000 ∧ m.member.length ≤ 1000000
/-! Its bytes. -/
section
variable {cs ds : Array Value} {m : Mess} {c : Ctx} {g g' : Nat} {t t' : TypeId}
end
end Go.Proofs.Ytpgalbgonmclaaa

namespace Go.Proofs.Ytpgalbgonmclaaa
open Go.ChangeShapes Go.WideShapes Go.ChangeAt Go.RowKit
section
variable {H : Type} {enc : TypeId × Value → H} {W : World} {base : Nat} {spare : Nat → Bool} {held : Bool}
theorem glue {α : Type} (cs : List α) (o k : Nat) : cs.drop o = (cs.drop o).take k ++ cs.drop (o + k) := by rw [← List.drop_drop, List.take_append_drop]
theorem trod_i64 {fuel : Nat} {cs : List Value} {x : DataW H × List MemPlace} (h : DataW.trod enc Try.prog W base spare held fuel 3 cs = some x) : ∃ z : Int, cs = [.int .i64 z] ∧ -9223372036854775808 ≤ z ∧ z ≤ 9223372036854775807 := by
  cases fuel with
  | zero => simp [DataW.trod] at h
  | succ fuel =>
    simp only [DataW.trod, Try.underlying3] at h
    split at h <;> first | (rename_i hk; cases hk; done) | (rename_i hk _; cases hk; done) | skip
    all_goals first
      | (cases h; done)
      | (split at h
         · rename_i k hk2 k2 z hk1 hw
           injection hk1 with hk1
           injection hk1 with hk1
           subst hk1
           obtain ⟨rfl, hw⟩ := hw
           exact ⟨z, rfl, by simpa [Lit.wf, IntKind.min, IntKind.max, IntKind.bits, IntKind.signed] using hw⟩
         · cases h)
theorem one_of {cs : List Value} {o k : Nat} {v : Value} (hk : k = 1) (h : (cs.drop o).take k = [v]) : cs.drop o = v :: cs.drop (o + 1) := by
  subst hk
  rw [glue cs o 1, h]; rfl
theorem some_of {cs : List Value} {o k m : Nat} {V : Array Value} (hk : k = m) (h : ((cs.drop o).take k).toArray = V) : cs.drop o = V.toList ++ cs.drop (o + m) := by
  subst hk
  rw [glue cs o k, ← h]
theorem end_of {cs : List Value} {n : Nat} (h : cs.length = n) : cs.drop n = [] := List.drop_eq_nil_of_le (by omega)
theorem PropAt.get {w : World} {cs : Array Value} {p : Prop20} (h : PropAt w cs p) : ∃ i h0 h1 h2 s h4 h5 g l0 l1 l2 t l4 l5, cs = propV p.kind i h0 h1 h2 s h4 h5 g l0 l1 l2 t l4 l5 p.at_ ∧ PropAt w (propV p.kind i h0 h1 h2 s h4 h5 g l0 l1 l2 t l4 l5 p.at_) p := by
  have H := h
  obtain ⟨i, h0, h1, h2, h4, h5, g, l0, l1, l2, l4, l5, rfl, _⟩ := h
  exact ⟨_, _, _, _, _, _, _, _, _, _, _, _, _, _, rfl, H⟩
theorem LeafAt.get {w : World} {cs : Array Value} {l : Leaf} (h : LeafAt w cs l) : ∃ h0 h1 h2 s h4 h5, cs = leafV h0 h1 h2 s h4 h5 ∧ LeafAt w (leafV h0 h1 h2 s h4 h5) l := by
  have H := h
  obtain ⟨h0, h1, h2, h4, h5, rfl, _⟩ := h
  exact ⟨_, _, _, _, _, _, rfl, H⟩
end
end Go.Proofs.Ytpgalbgonmclaaa
