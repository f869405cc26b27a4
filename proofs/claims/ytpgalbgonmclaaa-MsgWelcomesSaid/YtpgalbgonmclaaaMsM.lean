/- Messages, plainly and in memory; which may be; their bytes: what msg hands back. -/
import Derived.Test.YtpgalbgonmclaaaMsI
import Derived.Test.YtpgalbgonmclaaaVk
/- The bytes of commits: what msg hands back. -/
namespace Go.Proofs.Ytpgalbgonmclaaa
open Go.RowKit
attribute [local irreducible] Y Ef WL WC WK WQ WM OpM WN WF OpN WG OpG
open Nd Wire
theorem flatMap_le {α : Type} {f : α → List UInt8} {B : Nat} : ∀ {l : List α}, (∀ x ∈ l, (f x).length ≤ B) → (l.flatMap f).length ≤ l.length * B
  | [], _ => by simp
  | x :: l, h => by
    have h1 := h x List.mem_cons_self
    have h2 := flatMap_le (l := l) fun y hy => h y (List.mem_cons_of_mem _ hy)
    rw [List.flatMap_cons, List.length_append, List.length_cons, Nat.add_mul, Nat.one_mul]
    omega
theorem flatMap_take {α : Type} {f : α → List UInt8} {xs : List α} {i : Nat} {x : α} (h : xs[i]? = some x) : (xs.take (i + 1)).flatMap f = (xs.take i).flatMap f ++ f x := by
  rw [take_snoc h, List.flatMap_append]; simp
theorem flatMap_full {α : Type} {f : α → List UInt8} {xs : List α} {i : Nat} (h : xs.length ≤ i) : (xs.take i).flatMap f = xs.flatMap f := by rw [List.take_of_length_le h]
theorem flatMap_tk_le {α : Type} {f : α → List UInt8} {B : Nat} {xs : List α} (i : Nat) (h : ∀ x ∈ xs, (f x).length ≤ B) : ((xs.take i).flatMap f).length ≤ i * B := by
  have h1 := flatMap_le (l := xs.take i) fun x hx => h x (List.mem_of_mem_take hx)
  have h2 : (xs.take i).length * B ≤ i * B := Nat.mul_le_mul_right _ (by rw [List.length_take]; omega)
  omega
section
variable {cs : Array Value} {c : Com20} {g : Nat} {t : TypeId}
end
end Go.Proofs.Ytpgalbgonmclaaa

/- The bytes of commits: what the reference hands back; the law MsgProposals. -/
namespace Go.Proofs.Ytpgalbgonmclaaa
open Go.RowKit
attribute [local irreducible] Y Ef WL WC WK WQ WM OpM WN WF OpN WG OpG
open Nd Wire
section
variable {cs : Array Value} {c : Com20} {g : Nat} {t : TypeId}
end
theorem ltold_any {ok : Prop} [Decidable ok] {A B : Option Addr} {k c m d z : Nat} {xs ys : List UInt8} (w : World) (T : Told w ok xs A k z) (HB : Bs w B m ys) (h : ok → ys = xs) (hk : ys.length ≤ 100000000) :
    Calls Try.prog 15 #[.slice A k c, .int .u8 ((z : Nat) : Int), .bool (decide ok), .slice B m d] w fun e w' => e = .returned (.bool true) ∧ Ext w w' := by
  by_cases o : ok
  · rw [decide_eq_true o]
    have e := h o
    subst e
    exact ltold_t _ (T.1 o).1 (T.1 o).2 HB (by rw [← (T.1 o).2.1]; exact hk)
  · rw [decide_eq_false o]
    exact ltold_f _ (T.2 o).1 (T.2 o).2
end Go.Proofs.Ytpgalbgonmclaaa

namespace Go.Proofs.Ytpgalbgonmclaaa
open Go.RowKit
attribute [local irreducible] Y Ef WL WC WK WQ WM OpM WN WF OpN WG OpG
open Nd Wire
structure Mess where
  group : List UInt8
  epoch : Nat
  frm : Int
  kind : Nat
  prop : Prop20
  com : Com20
  sig : List UInt8
  tag : List UInt8
  member : List UInt8
def Mess.zero : Mess := ⟨[], 0, 0, 0, Prop20.zero, Com20.zero, [], [], []⟩
def msgV (gr : Hd) (ep : Nat) (fr : Int) (kd k : Nat) (i h0 h1 h2 : Hd) (s : Nat) (h4 h5 g l0 l1 l2 : Hd) (t : Nat) (l4 l5 : Hd) (z : Int) (it : Hd) (b : Bool) (c0 c1 c2 : Hd) (q : Nat) (c4 c5 ct sg tg mb : Hd) : Array Value :=
  #[.slice gr.A gr.n gr.c, .int .u64 (ep : Int), .int .i64 fr, .int .u8 (kd : Int), .int .u8 (k : Int), .slice i.A i.n i.c, .slice h0.A h0.n h0.c, .slice h1.A h1.n h1.c, .slice h2.A h2.n h2.c, .int .u8 (s : Int), .slice h4.A h4.n h4.c, .slice h5.A h5.n h5.c, .slice g.A g.n g.c, .slice l0.A l0.n l0.c, .slice l1.A l1.n l1.c, .slice l2.A l2.n l2.c, .int .u8 (t : Int), .slice l4.A l4.n l4.c, .slice l5.A l5.n l5.c, .int .i64 z, .slice it.A it.n it.c, .bool b, .slice c0.A c0.n c0.c, .slice c1.A c1.n c1.c, .slice c2.A c2.n c2.c, .int .u8 (q : Int), .slice c4.A c4.n c4.c, .slice c5.A c5.n c5.c, .slice ct.A ct.n ct.c, .slice sg.A sg.n sg.c, .slice tg.A tg.n tg.c, .slice mb.A mb.n mb.c]
def MsgAt (w : World) (cs : Array Value) (m : Mess) : Prop :=
  ∃ gr i h0 h1 h2 s h4 h5 g l0 l1 l2 t l4 l5 it c0 c1 c2 q c4 c5 ct sg tg mb, cs = msgV gr m.epoch m.frm m.kind m.prop.kind i h0 h1 h2 s h4 h5 g l0 l1 l2 t l4 l5 m.prop.at_ it m.com.has c0 c1 c2 q c4 c5 ct sg tg mb ∧ m.epoch < 18446744073709551616 ∧ m.kind < 256 ∧ (-9223372036854775808 ≤ m.frm ∧ m.frm ≤ 9223372036854775807) ∧ BsH w gr m.group ∧
    PropAt w (propV m.prop.kind i h0 h1 h2 s h4 h5 g l0 l1 l2 t l4 l5 m.prop.at_) m.prop ∧ ComAt w (comV it m.com.has c0 c1 c2 q c4 c5 ct) m.com ∧ BsH w sg m.sig ∧ BsH w tg m.tag ∧ BsH w mb m.member
theorem MsgAt.ext {w w' : World} {cs : Array Value} {m : Mess} (h : MsgAt w cs m) (e : Ext w w') : MsgAt w' cs m := by
  obtain ⟨gr, i, h0, h1, h2, s, h4, h5, g, l0, l1, l2, t, l4, l5, it, c0, c1, c2, q, c4, c5, ct, sg, tg, mb, rfl, a, b, c, d, f, j, k, l, o⟩ := h
  exact ⟨gr, i, h0, h1, h2, s, h4, h5, g, l0, l1, l2, t, l4, l5, it, c0, c1, c2, q, c4, c5, ct, sg, tg, mb, rfl, a, b, c, Bs.ext d e, PropAt.ext f e, ComAt.ext j e, Bs.ext k e, Bs.ext l e, Bs.ext o e⟩
def Mess.Small (m : Mess) : Prop := m.group.length ≤ 200 ∧ m.prop.Small ∧ m.com.Small ∧ m.sig.length ≤ 100 ∧ m.tag.length ≤ 100 ∧ m.member.length ≤ 100
instance (m : Mess) : Decidable m.Small := by unfold Mess.Small; infer_instance
def Mess.Fit (m : Mess) : Prop := m.group.length ≤ 1000000 ∧ m.prop.Fit ∧ m.com.Fit ∧ m.sig.length ≤ 1000000 ∧ m.tag.length ≤ 1000000 ∧ m.member.length ≤ 1000000
theorem Mess.Small.fit {m : Mess} (h : m.Small) : m.Fit := ⟨by have := h.1; omega, h.2.1.fit, h.2.2.1.fit, by have := h.2.2.2.1; omega, by have := h.2.2.2.2.1; omega, by have := h.2.2.2.2.2; omega⟩
/-! Its bytes. -/
section
variable {cs ds : Array Value} {m : Mess} {c : Ctx} {g g' : Nat} {t t' : TypeId}
end
end Go.Proofs.Ytpgalbgonmclaaa
