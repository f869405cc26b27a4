/- Which commits may be: what msg answers. -/
import Derived.Test.YtpgalbgonmclaaaMsG
/- Commits, plainly and in memory. No conditions: plain definitions and lemmas. -/
namespace Go.Proofs.Ytpgalbgonmclaaa
open Go.RowKit
open Nd
structure Bxd where
  enc : List UInt8
  box : List UInt8
structure Stp where
  box : List UInt8
  to : List Bxd
structure Way20 where
  leaf : Leaf
  steps : List Stp
structure Item20 where
  ref : List UInt8
  prop : Prop20
structure Com20 where
  items : List Item20
  has : Bool
  way : Way20
def Way20.zero : Way20 := ⟨Leaf.zero, []⟩
def Com20.zero : Com20 := ⟨[], false, Way20.zero⟩
def twoV (h0 h1 : Hd) : Array Value := #[.slice h0.A h0.n h0.c, .slice h1.A h1.n h1.c]
def wayV (h0 h1 h2 : Hd) (s : Nat) (h4 h5 t : Hd) : Array Value := #[.slice h0.A h0.n h0.c, .slice h1.A h1.n h1.c, .slice h2.A h2.n h2.c, .int .u8 (s : Int), .slice h4.A h4.n h4.c, .slice h5.A h5.n h5.c, .slice t.A t.n t.c]
def itmV (r : Hd) (k : Nat) (i h0 h1 h2 : Hd) (s : Nat) (h4 h5 g l0 l1 l2 : Hd) (t : Nat) (l4 l5 : Hd) (z : Int) : Array Value := #[.slice r.A r.n r.c, .int .u8 (k : Int), .slice i.A i.n i.c, .slice h0.A h0.n h0.c, .slice h1.A h1.n h1.c, .slice h2.A h2.n h2.c, .int .u8 (s : Int), .slice h4.A h4.n h4.c, .slice h5.A h5.n h5.c, .slice g.A g.n g.c, .slice l0.A l0.n l0.c, .slice l1.A l1.n l1.c, .slice l2.A l2.n l2.c, .int .u8 (t : Int), .slice l4.A l4.n l4.c, .slice l5.A l5.n l5.c, .int .i64 z]
def comV (it : Hd) (b : Bool) (h0 h1 h2 : Hd) (s : Nat) (h4 h5 t : Hd) : Array Value := #[.slice it.A it.n it.c, .bool b, .slice h0.A h0.n h0.c, .slice h1.A h1.n h1.c, .slice h2.A h2.n h2.c, .int .u8 (s : Int), .slice h4.A h4.n h4.c, .slice h5.A h5.n h5.c, .slice t.A t.n t.c]
def BxdAt (w : World) (cs : Array Value) (x : Bxd) : Prop := ∃ h0 h1, cs = twoV h0 h1 ∧ BsH w h0 x.enc ∧ BsH w h1 x.box
def StpAt (w : World) (cs : Array Value) (x : Stp) : Prop := ∃ h0 h1, cs = twoV h0 h1 ∧ BsH w h0 x.box ∧ Els BxdAt 2 w h1.A h1.n x.to
def ItemAt (w : World) (cs : Array Value) (x : Item20) : Prop :=
  ∃ r i h0 h1 h2 s h4 h5 g l0 l1 l2 t l4 l5, cs = itmV r x.prop.kind i h0 h1 h2 s h4 h5 g l0 l1 l2 t l4 l5 x.prop.at_ ∧ BsH w r x.ref ∧ PropAt w (propV x.prop.kind i h0 h1 h2 s h4 h5 g l0 l1 l2 t l4 l5 x.prop.at_) x.prop
def WayAt (w : World) (cs : Array Value) (x : Way20) : Prop :=
  ∃ h0 h1 h2 s h4 h5 t, cs = wayV h0 h1 h2 s h4 h5 t ∧ LeafAt w (leafV h0 h1 h2 s h4 h5) x.leaf ∧ Els StpAt 2 w t.A t.n x.steps
def ComAt (w : World) (cs : Array Value) (x : Com20) : Prop :=
  ∃ it h0 h1 h2 s h4 h5 t, cs = comV it x.has h0 h1 h2 s h4 h5 t ∧ Els ItemAt 17 w it.A it.n x.items ∧ WayAt w (wayV h0 h1 h2 s h4 h5 t) x.way
section
variable {w w' : World} {cs : Array Value}
theorem BxdAt.ext {x : Bxd} (h : BxdAt w cs x) (e : Ext w w') : BxdAt w' cs x := by
  obtain ⟨h0, h1, rfl, a, b⟩ := h
  exact ⟨h0, h1, rfl, Bs.ext a e, Bs.ext b e⟩
theorem StpAt.ext {x : Stp} (h : StpAt w cs x) (e : Ext w w') : StpAt w' cs x := by
  obtain ⟨h0, h1, rfl, a, b⟩ := h
  exact ⟨h0, h1, rfl, Bs.ext a e, b.ext e fun _ _ h => BxdAt.ext h e⟩
theorem ItemAt.ext {x : Item20} (h : ItemAt w cs x) (e : Ext w w') : ItemAt w' cs x := by
  obtain ⟨r, i, h0, h1, h2, s, h4, h5, g, l0, l1, l2, t, l4, l5, rfl, a, b⟩ := h
  exact ⟨r, i, h0, h1, h2, s, h4, h5, g, l0, l1, l2, t, l4, l5, rfl, Bs.ext a e, PropAt.ext b e⟩
theorem WayAt.ext {x : Way20} (h : WayAt w cs x) (e : Ext w w') : WayAt w' cs x := by
  obtain ⟨h0, h1, h2, s, h4, h5, t, rfl, a, b⟩ := h
  exact ⟨h0, h1, h2, s, h4, h5, t, rfl, LeafAt.ext a e, b.ext e fun _ _ h => StpAt.ext h e⟩
theorem ComAt.ext {x : Com20} (h : ComAt w cs x) (e : Ext w w') : ComAt w' cs x := by
  obtain ⟨it, h0, h1, h2, s, h4, h5, t, rfl, a, b⟩ := h
  exact ⟨it, h0, h1, h2, s, h4, h5, t, rfl, a.ext e fun _ _ h => ItemAt.ext h e, WayAt.ext b e⟩
end
/-! Which may be, and which are no more than is looked at. -/
def Bxd.Small (b : Bxd) : Prop := b.enc.length ≤ 100 ∧ b.box.length ≤ 100
instance (b : Bxd) : Decidable b.Small := by unfold Bxd.Small; infer_instance
def Stp.Small (s : Stp) : Prop := s.box.length ≤ 100 ∧ s.to.length ≤ 20 ∧ ∀ b ∈ s.to, b.Small
instance (s : Stp) : Decidable s.Small := by unfold Stp.Small; infer_instance
def Item20.Small (x : Item20) : Prop := x.ref.length ≤ 100 ∧ x.prop.Small
instance (x : Item20) : Decidable x.Small := by unfold Item20.Small; infer_instance
def Com20.Small (c : Com20) : Prop := c.items.length ≤ 70 ∧ c.way.steps.length ≤ 20 ∧ (⟨0, c.way.leaf, Par.zero⟩ : Node).Small ∧ (∀ x ∈ c.items, x.Small) ∧ ∀ s ∈ c.way.steps, s.Small
instance (c : Com20) : Decidable c.Small := by unfold Com20.Small; infer_instance
/-- No more than any machine holds here. -/
def Bxd.Fit (b : Bxd) : Prop := b.enc.length ≤ 1000000 ∧ b.box.length ≤ 1000000
def Stp.Fit (s : Stp) : Prop := s.box.length ≤ 1000000 ∧ s.to.length ≤ 10000 ∧ ∀ b ∈ s.to, b.Fit
def Item20.Fit (x : Item20) : Prop := x.ref.length ≤ 1000000 ∧ x.prop.Fit
def Way20.Fit (x : Way20) : Prop := x.leaf.Fit ∧ x.steps.length ≤ 10000 ∧ ∀ s ∈ x.steps, s.Fit
def Com20.Fit (c : Com20) : Prop := c.items.length ≤ 10000 ∧ (∀ x ∈ c.items, x.Fit) ∧ c.way.Fit
theorem Bxd.Small.fit {b : Bxd} (h : b.Small) : b.Fit := ⟨by have := h.1; omega, by have := h.2; omega⟩
theorem Stp.Small.fit {s : Stp} (h : s.Small) : s.Fit := ⟨by have := h.1; omega, by have := h.2.1; omega, fun b hb => (h.2.2 b hb).fit⟩
theorem Item20.Small.fit {x : Item20} (h : x.Small) : x.Fit := ⟨by have := h.1; omega, h.2.fit⟩
theorem Com20.Small.fit {c : Com20} (h : c.Small) : c.Fit := ⟨by have := h.1; omega, fun x hx => (h.2.2.2.1 x hx).fit, h.2.2.1.fit.1, by have := h.2.1; omega, fun s hs => (h.2.2.2.2 s hs).fit⟩
end Go.Proofs.Ytpgalbgonmclaaa

namespace Go.Proofs.Ytpgalbgonmclaaa
open Go.RowKit
attribute [local irreducible] Y Ef WL WC WK WQ WM OpM WN WF OpN
open Nd
section
variable {cs : Array Value} {x : Item20} {s : Stp} {b : Bxd} {y : Way20} {c : Com20}
theorem any_not {α : Type} {p : α → Prop} [DecidablePred p] (l : List α) : (l.any fun b => !decide (p b)) = true ↔ ¬ ∀ b ∈ l, p b := by
  rw [List.any_eq_true]
  constructor
  · rintro ⟨b, hb, h⟩ k
    rw [decide_eq_true (k b hb)] at h
    cases h
  · intro h
    exact Classical.byContradiction fun k => h fun b hb => Classical.byContradiction fun e => k ⟨b, hb, by rw [decide_eq_false e]; rfl⟩
end
end Go.Proofs.Ytpgalbgonmclaaa
