/- The bytes of commits: what the reference hands back; the law MsgProposals. -/
import Derived.Test.YtpgalbgonmclaaaMsK
namespace Go.Proofs.Ytpgalbgonmclaaa
open Go.RowKit
attribute [local irreducible] Y Ef WL WC WK WQ WM OpM WN WF OpN WG OpG
open Nd Wire
theorem itmB_sm {x : Item20} (h : x.Small) : (itmB rpropB x).length ≤ 1701 := by
  have h2 := vec_le x.ref; have h3 := rpropB_sm h.2; have h4 := h.1
  unfold itmB
  split <;> rw [List.length_cons] <;> omega
theorem bxdB_sm {b : Bxd} (h : b.Small) : (bxdB b).length ≤ 208 := by
  have h2 := vec_le b.enc; have h3 := vec_le b.box; have := h.1; have := h.2
  unfold bxdB
  rw [List.length_append]; omega
theorem stpB_sm {s : Stp} (h : s.Small) : (stpB s).length ≤ 4300 := by
  have h2 := vec_le s.box; have h3 := vec_le (s.to.flatMap bxdB); have := h.1
  have h4 := flatMap_le (l := s.to) (f := bxdB) (B := 208) fun b hb => bxdB_sm (h.2.2 b hb)
  have h5 : s.to.length * 208 ≤ 20 * 208 := Nat.mul_le_mul_right _ h.2.1
  unfold stpB
  rw [List.length_append]; omega
theorem comB_eq {c : Com20} (h : okCom c) : comB rpropB c = comB propB c := by
  have e : c.items.flatMap (itmB rpropB) = c.items.flatMap (itmB propB) := by
    have key : ∀ l : List Item20, (∀ x ∈ l, okItem x) → l.flatMap (itmB rpropB) = l.flatMap (itmB propB) := by
      intro l
      induction l with
      | nil => intro _; rfl
      | cons x l ih =>
        intro hl
        rw [List.flatMap_cons, List.flatMap_cons, ih fun y hy => hl y (List.mem_cons_of_mem _ hy)]
        congr 1
        unfold itmB
        rcases hl x List.mem_cons_self with h | h
        · rw [if_pos (by omega), if_pos (by omega)]
        · rw [if_neg (by omega), if_neg (by omega), rpropB_ok h.2]
    exact key _ h.2.1
  unfold comB
  rw [e]
theorem comB_sm {c : Com20} (h : c.Small) : (comB rpropB c).length ≤ 250000 := by
  obtain ⟨h1, h2, h3, h4, h5⟩ := h
  have i1 := flatMap_le (l := c.items) (f := itmB rpropB) (B := 1701) fun x hx => itmB_sm (h4 x hx)
  have i2 : c.items.length * 1701 ≤ 70 * 1701 := Nat.mul_le_mul_right _ h1
  have i3 := vec_le (c.items.flatMap (itmB rpropB))
  have j1 := flatMap_le (l := c.way.steps) (f := stpB) (B := 4300) fun x hx => stpB_sm (h5 x hx)
  have j2 : c.way.steps.length * 4300 ≤ 20 * 4300 := Nat.mul_le_mul_right _ h2
  have j3 := vec_le (c.way.steps.flatMap stpB)
  have j4 := leafB_sm h3
  unfold comB
  rw [List.length_append]
  split
  · rw [List.length_cons, List.length_append]; omega
  · rw [List.length_singleton]; omega
section
variable {cs : Array Value} {c : Com20} {g : Nat} {t : TypeId}
end
end Go.Proofs.Ytpgalbgonmclaaa
