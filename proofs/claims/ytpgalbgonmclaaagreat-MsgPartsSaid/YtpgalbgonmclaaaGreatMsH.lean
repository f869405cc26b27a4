/- Commits, plainly and in memory. No conditions: plain definitions and lemmas. -/
import Derived.Test.YtpgalbgonmclaaaGreatMsE
/- Slices of structs in memory, read element by element. No conditions: plain lemmas. -/
namespace Go.Proofs.YtpgalbgonmclaaaGreat
open Go.RowKit
/-- A slice of structs of sz cells: each element's cells are as R says. -/
def Els {α : Type} (R : World → Array Value → α → Prop) (sz : Nat) (w : World) (A : Option Addr) (n : Nat) (xs : List α) : Prop :=
  xs.length = n ∧ ∃ vs : List Value, vs.length = n * sz ∧ At w A vs ∧ ∀ i x, xs[i]? = some x → R w ((vs.drop (i * sz)).take sz).toArray x
section
variable {α : Type} {R : World → Array Value → α → Prop} {sz : Nat} {w w' : World} {A : Option Addr} {n : Nat} {xs : List α}
theorem Els.ext (h : Els R sz w A n xs) (e : Ext w w') (hR : ∀ cs x, R w cs x → R w' cs x) : Els R sz w' A n xs := by
  obtain ⟨h1, vs, h2, h3, h4⟩ := h
  exact ⟨h1, vs, h2, h3.ext e, fun i x hx => hR _ _ (h4 i x hx)⟩
theorem Els.nil (R : World → Array Value → α → Prop) (sz : Nat) (w : World) (A : Option Addr) : Els R sz w A 0 [] := ⟨rfl, [], by simp, .inl rfl, fun i x hx => by simp at hx⟩
theorem Els.get (h : Els R sz w A n xs) (hz : 0 < sz) {i : Nat} (hi : i < n) :
    ∃ b off cs x, A = some ⟨b, off, none⟩ ∧ b < w.heap.size ∧ xs[i]? = some x ∧ cs.size = sz ∧ R w cs x ∧ ∀ j v, cs[j]? = some v → w.cell? ⟨b, off + (i * sz + j), none⟩ = some v := by
  obtain ⟨h1, vs, h2, h3, h4⟩ := h
  obtain ⟨x, hx⟩ : ∃ x, xs[i]? = some x := ⟨xs[i]'(by omega), List.getElem?_eq_getElem _⟩
  have hmul : (i + 1) * sz ≤ n * sz := Nat.mul_le_mul_right sz (by omega)
  rw [Nat.add_mul, Nat.one_mul] at hmul
  rcases h3 with h0 | ⟨b, off, hA, hc⟩
  · rw [h0] at h2; simp at h2; omega
  · have hcell : ∀ j v, ((vs.drop (i * sz)).take sz).toArray[j]? = some v → w.cell? ⟨b, off + (i * sz + j), none⟩ = some v := fun j v hv => by
      have hj : j < sz := by
        rcases Nat.lt_or_ge j sz with h | h
        · exact h
        · rw [Array.getElem?_eq_none (by simp; omega)] at hv; cases hv
      rw [List.getElem?_toArray, List.getElem?_take_of_lt hj, List.getElem?_drop] at hv
      exact hc _ _ hv
    have hs : ((vs.drop (i * sz)).take sz).toArray.size = sz := by simp; omega
    obtain ⟨v, hv⟩ : ∃ v, ((vs.drop (i * sz)).take sz).toArray[0]? = some v := ⟨_, Array.getElem?_eq_getElem (by rw [hs]; exact hz)⟩
    exact ⟨b, off, _, x, hA, cell_lt (hcell 0 v hv), hx, hs, h4 i x hx, hcell⟩
theorem Els.get2 (h : Els R sz w A n xs) (hz : 0 < sz) {i : Nat} (hi : i < n) :
    ∃ b off cs x, A = some ⟨b, off, none⟩ ∧ b < w.heap.size ∧ xs[i]? = some x ∧ cs.size = sz ∧ R w cs x ∧ ∀ j v, cs[j]? = some v → w.cell? ⟨b, off + i * sz + j, none⟩ = some v := by
  obtain ⟨b, off, cs, x, h1, h2, h3, h4, h5, h6⟩ := h.get hz hi
  exact ⟨b, off, cs, x, h1, h2, h3, h4, h5, fun j v hv => by rw [Nat.add_assoc]; exact h6 j v hv⟩
end
section
variable {P : Program} {L : List (Nat × Value)} {w : World} {ty t e : TypeId} {x y : Operand}
theorem y_ixsE {A : Option Addr} {b off n m j s : Nat} {k : IntKind} {a : Int} (e1 : A = some ⟨b, off, none⟩) (hx : ev L x = some (.slice A n m)) (hy : ev L y = some (.int k a)) (hu : P.underlying t = some (.slice e)) (hs : (P.info? e).map (·.size) = some s) (ha : a = (j : Int)) (hj : j < n) :
    Y P L w (.indexAddr t x y) ty (.pointer (some ⟨b, off + j * s, none⟩)) := by
  subst e1
  exact y_ixsp hx hy hu hs ha hj
end
theorem take_snoc {α : Type} {xs : List α} {i : Nat} {x : α} (h : xs[i]? = some x) : xs.take (i + 1) = xs.take i ++ [x] := by
  obtain ⟨hlt, he⟩ := List.getElem?_eq_some_iff.1 h
  rw [List.take_succ_eq_append_getElem hlt, he]
theorem all_snoc {α : Type} {p : α → Prop} {xs : List α} {i : Nat} {x : α} (h : xs[i]? = some x) (ha : ∀ y ∈ xs.take i, p y) (hx : p x) : ∀ y ∈ xs.take (i + 1), p y := by
  rw [take_snoc h]
  intro y hy
  rcases List.mem_append.1 hy with h | h
  · exact ha y h
  · simp only [List.mem_singleton] at h; subst h; exact hx
theorem all_full {α : Type} {p : α → Prop} {xs : List α} {i : Nat} (hi : xs.length ≤ i) (ha : ∀ y ∈ xs.take i, p y) : ∀ y ∈ xs, p y := by
  rwa [List.take_of_length_le hi] at ha
theorem ix_mem {α : Type} {xs : List α} {i : Nat} {x : α} (h : xs[i]? = some x) : x ∈ xs := List.mem_of_getElem? h
end Go.Proofs.YtpgalbgonmclaaaGreat

namespace Go.Proofs.YtpgalbgonmclaaaGreat
open Go.RowKit
open Nd
structure Bxd where
  enc : List UInt8
  box : List UInt8
structure Stp where
  box : List UInt8
  to : List Bxd
structure Way20 where
  leaf : Leaf
  steps : List Stp
structure Item20 where
  ref : List UInt8
  prop : Prop20
structure Com20 where
  items : List Item20
  has : Bool
  way : Way20
def Way20.zero : Way20 := ⟨Leaf.zero, []⟩
def Com20.zero : Com20 := ⟨[], false, Way20.zero⟩
def twoV (h0 h1 : Hd) : Array Value := #[.slice h0.A h0.n h0.c, .slice h1.A h1.n h1.c]
def wayV (h0 h1 h2 : Hd) (s : Nat) (h4 h5 t : Hd) : Array Value := #[.slice h0.A h0.n h0.c, .slice h1.A h1.n h1.c, .slice h2.A h2.n h2.c, .int .u8 (s : Int), .slice h4.A h4.n h4.c, .slice h5.A h5.n h5.c, .slice t.A t.n t.c]
def itmV (r : Hd) (k : Nat) (i h0 h1 h2 : Hd) (s : Nat) (h4 h5 g l0 l1 l2 : Hd) (t : Nat) (l4 l5 : Hd) (z : Int) : Array Value := #[.slice r.A r.n r.c, .int .u8 (k : Int), .slice i.A i.n i.c, .slice h0.A h0.n h0.c, .slice h1.A h1.n h1.c, .slice h2.A h2.n h2.c, .int .u8 (s : Int), .slice h4.A h4.n h4.c, .slice h5.A h5.n h5.c, .slice g.A g.n g.c, .slice l0.A l0.n l0.c, .slice l1.A l1.n l1.c, .slice l2.A l2.n l2.c, .int .u8 (t : Int), .slice l4.A l4.n l4.c, .slice l5.A l5.n l5.c, .int .i64 z]
def comV (it : Hd) (b : Bool) (h0 h1 h2 : Hd) (s : Nat) (h4 h5 t : Hd) : Array Value := #[.slice it.A it.n it.c, .bool b, .slice h0.A h0.n h0.c, .slice h1.A h1.n h1.c, .slice h2.A h2.n h2.c, .int .u8 (s : Int), .slice h4.A h4.n h4.c, .slice h5.A h5.n h5.c, .slice t.A t.n t.c]
def BxdAt (w : World) (cs : Array Value) (x : Bxd) : Prop := ∃ h0 h1, cs = twoV h0 h1 ∧ BsH w h0 x.enc ∧ BsH w h1 x.box
def StpAt (w : World) (cs : Array Value) (x : Stp) : Prop := ∃ h0 h1, cs = twoV h0 h1 ∧ BsH w h0 x.box ∧ Els BxdAt 2 w h1.A h1.n x.to
def ItemAt (w : World) (cs : Array Value) (x : Item20) : Prop :=
  ∃ r i h0 h1 h2 s h4 h5 g l0 l1 l2 t l4 l5, cs = itmV r x.prop.kind i h0 h1 h2 s h4 h5 g l0 l1 l2 t l4 l5 x.prop.at_ ∧ BsH w r x.ref ∧ PropAt w (propV x.prop.kind i h0 h1 h2 s h4 h5 g l0 l1 l2 t l4 l5 x.prop.at_) x.prop
def WayAt (w : World) (cs : Array Value) (x : Way20) : Prop :=
  ∃ h0 h1 h2 s h4 h5 t, cs = wayV h0 h1 h2 s h4 h5 t ∧ LeafAt w (leafV h0 h1 h2 s h4 h5) x.leaf ∧ Els StpAt 2 w t.A t.n x.steps
def ComAt (w : World) (cs : Array Value) (x : Com20) : Prop :=
  ∃ it h0 h1 h2 s h4 h5 t, cs = comV it x.has h0 h1 h2 s h4 h5 t ∧ Els ItemAt 17 w it.A it.n x.items ∧ WayAt w (wayV h0 h1 h2 s h4 h5 t) x.way
section
variable {w w' : World} {cs : Array Value}
theorem BxdAt.ext {x : Bxd} (h : BxdAt w cs x) (e : Ext w w') : BxdAt w' cs x := by
  obtain ⟨h0, h1, rfl, a, b⟩ := h
  exact ⟨h0, h1, rfl, Bs.ext a e, Bs.ext b e⟩
theorem StpAt.ext {x : Stp} (h : StpAt w cs x) (e : Ext w w') : StpAt w' cs x := by
  obtain ⟨h0, h1, rfl, a, b⟩ := h
  exact ⟨h0, h1, rfl, Bs.ext a e, b.ext e fun _ _ h => BxdAt.ext h e⟩
theorem ItemAt.ext {x : Item20} (h : ItemAt w cs x) (e : Ext w w') : ItemAt w' cs x := by
  obtain ⟨r, i, h0, h1, h2, s, h4, h5, g, l0, l1, l2, t, l4, l5, rfl, a, b⟩ := h
  exact ⟨r, i, h0, h1, h2, s, h4, h5, g, l0, l1, l2, t, l4, l5, rfl, Bs.ext a e, PropAt.ext b e⟩
theorem WayAt.ext {x : Way20} (h : WayAt w cs x) (e : Ext w w') : WayAt w' cs x := by
  obtain ⟨h0, h1, h2, s, h4, h5, t, rfl, a, b⟩ := h
  exact ⟨h0, h1, h2, s, h4, h5, t, rfl, LeafAt.ext a e, b.ext e fun _ _ h => StpAt.ext h e⟩
theorem ComAt.ext {x : Com20} (h : ComAt w cs x) (e : Ext w w') : ComAt w' cs x := by
  obtain ⟨it, h0, h1, h2, s, h4, h5, t, rfl, a, b⟩ := h
  exact ⟨it, h0, h1, h2, s, h4, h5, t, rfl, a.ext e fun _ _ h => ItemAt.ext h e, WayAt.ext b e⟩
end
/-! Which may be, and which are no more than is looked at. -/
def okBxd (b : Bxd) : Prop := b.enc.length = 32 ∧ b.box.length = 48
instance (b : Bxd) : Decidable (okBxd b) := by unfold okBxd; infer_instance
def okStp (s : Stp) : Prop := s.box.length = 32 ∧ ∀ b ∈ s.to, okBxd b
instance (s : Stp) : Decidable (okStp s) := by unfold okStp; infer_instance
def okWay (x : Way20) : Prop := okLeafS x.leaf 3 ∧ x.steps.length ≤ 16 ∧ ∀ s ∈ x.steps, okStp s
instance (x : Way20) : Decidable (okWay x) := by unfold okWay; infer_instance
def noWay (x : Way20) : Prop := x.leaf = Leaf.zero ∧ x.steps.length = 0
instance (x : Way20) : Decidable (noWay x) := by unfold noWay; infer_instance
def okItem (x : Item20) : Prop := x.ref.length = 32 ∧ noProp x.prop ∨ x.ref.length = 0 ∧ okProp x.prop
instance (x : Item20) : Decidable (okItem x) := by unfold okItem; infer_instance
def okCom (c : Com20) : Prop := c.items.length ≤ 64 ∧ (∀ x ∈ c.items, okItem x) ∧ (c.has = true ∧ okWay c.way ∨ c.has = false ∧ noWay c.way)
instance (c : Com20) : Decidable (okCom c) := by unfold okCom; infer_instance
/-- No more than any machine holds here. -/
def Bxd.Fit (b : Bxd) : Prop := b.enc.length ≤ 1000000 ∧ b.box.length ≤ 1000000
def Stp.Fit (s : Stp) : Prop := s.box.length ≤ 1000000 ∧ s.to.length ≤ 10000 ∧ ∀ b ∈ s.to, b.Fit
def Item20.Fit (x : Item20) : Prop := x.ref.length ≤ 1000000 ∧ x.prop.Fit
def Way20.Fit (x : Way20) : Prop := x.leaf.Fit ∧ x.steps.length ≤ 10000 ∧ ∀ s ∈ x.steps, s.Fit
def Com20.Fit (c : Com20) : Prop := c.items.length ≤ 10000 ∧ (∀ x ∈ c.items, x.Fit) ∧ c.way.Fit
end Go.Proofs.YtpgalbgonmclaaaGreat
