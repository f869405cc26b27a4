/- What the message layer's reader takes behind each other in a vector: steps of a way, commits. No conditions: contracts of the program's functions. -/
import Derived.Test.YtpgalbgonmclaaaMsX
namespace Go.Proofs.Ytpgalbgonmclaaa
open Go.RowKit
attribute [local irreducible] Y Ef WL WC WK WQ WM OpM WN WF OpN WJ OpJ WG OpG
open Wire Nd M20
section
variable {α : Type} {gc : Nat} {tc e : TypeId} {cf : Hd → Array Value} {R : World → Array Value → α → Prop} {sz gi N3 x gx : Nat} {zs : List α} {w w' : World}
end
theorem ElsK.len {α : Type} {R : World → Array Value → α → Prop} {sz : Nat} {e : TypeId} {base N : Nat} {S : List Nat} {w : World} {A : Option Addr} {n c : Nat} {zs : List α} (h : ElsK R sz e base N S w A n c zs) : zs.length = n := h.1
theorem ElsK.own {α : Type} {R : World → Array Value → α → Prop} {sz : Nat} {e : TypeId} {base N : Nat} {S : List Nat} {w : World} {A : Option Addr} {n c : Nat} {zs : List α} (h : ElsK R sz e base N S w A n c zs) : ∀ g ∈ (Value.slice A n c).ownBlock.toList, base ≤ g ∧ g < w.heap.size := by
  obtain ⟨_, vals, hr, _⟩ := h; exact hr.ownGe
section
variable {N3 M x gx gs gi base : Nat} {T : List Nat} {hd : Hd} {st : St}
end
theorem mem2 {P : Nat → Prop} {a b : Nat} {L : List Nat} (ha : P a) (hb : P b) (hL : ∀ k ∈ L, P k) : ∀ k ∈ a :: b :: L, P k := fun k hk => by
  simp only [List.mem_cons] at hk
  rcases hk with rfl | rfl | hk
  · exact ha
  · exact hb
  · exact hL k hk
section
variable {N gi gr : Nat} {S : List Nat} {s : St}
end
theorem just_le (k n : Nat) (s : St) : slen (justX k n s) ≤ slen s := by
  have h := num_le (s := s) k
  unfold justX
  rcases st_cases (numX k s).2 with ⟨c, hc⟩ | ⟨q, hq⟩
  · rw [hc]; exact Nat.zero_le _
  · rw [hq] at h ⊢
    dsimp only
    split
    · exact h
    · exact Nat.zero_le _
section
variable {N3 M x gx gc gi base : Nat} {T : List Nat} {st : St}
end
section
variable {N gi gr : Nat} {S : List Nat} {s : St}
end
end Go.Proofs.Ytpgalbgonmclaaa
