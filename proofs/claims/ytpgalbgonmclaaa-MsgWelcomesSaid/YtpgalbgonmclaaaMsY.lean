/- What the message layer's reader takes behind each other in a vector: steps of a way, commits. No conditions: contracts of the program's functions. -/
import Derived.Test.YtpgalbgonmclaaaMsX
namespace Go.Proofs.Ytpgalbgonmclaaa
open Go.RowKit
attribute [local irreducible] Y Ef WL WC WK WQ WM OpM WN WF OpN WJ OpJ WG OpG
open Wire Nd M20
/-- A row that grows in a block: the block's cells but for the row are as they were. -/
def RowJ {α : Type} (gc : Nat) (tc : TypeId) (cf : Hd → Array Value) (R : World → Array Value → α → Prop) (sz : Nat) (e : TypeId) (gi : Nat) (N3 x gx : Nat) (zs : List α) (w : World) : Prop :=
  ∃ h : Hd, Blk w gc tc (cf h) ∧ ElsK R sz e N3 w.heap.size [x, gx, gc, gi] w h.A h.n h.c zs
section
variable {α : Type} {gc : Nat} {tc e : TypeId} {cf : Hd → Array Value} {R : World → Array Value → α → Prop} {sz gi N3 x gx : Nat} {zs : List α} {w w' : World}
theorem RowJ.start (B : Blk w gc tc (cf nilH)) : RowJ gc tc cf R sz e gi N3 x gx [] w := ⟨nilH, B, ElsK.empty _ _ _ _ _ _ _⟩
theorem RowJ.note (h : RowJ gc tc cf R sz e gi N3 x gx zs w) (k : Chs [gi] w w') (hn : gc ≠ gi) (hi : gi < N3) : RowJ gc tc cf R sz e gi N3 x gx zs w' := by
  obtain ⟨hd, B, E⟩ := h
  exact ⟨hd, B.chs k (by simpa using hn), (E.chs k (by simp) (by simpa using hi)).bump k.size (Nat.le_refl _)⟩
theorem RowJ.els (h : RowJ gc tc cf R sz e gi N3 x gx zs w) : ∃ h : Hd, Blk w gc tc (cf h) ∧ ElsF N3 R sz w h.A h.n zs := by
  obtain ⟨hd, B, E⟩ := h
  exact ⟨hd, B, E.els⟩
end
theorem ElsK.len {α : Type} {R : World → Array Value → α → Prop} {sz : Nat} {e : TypeId} {base N : Nat} {S : List Nat} {w : World} {A : Option Addr} {n c : Nat} {zs : List α} (h : ElsK R sz e base N S w A n c zs) : zs.length = n := h.1
theorem ElsK.own {α : Type} {R : World → Array Value → α → Prop} {sz : Nat} {e : TypeId} {base N : Nat} {S : List Nat} {w : World} {A : Option Addr} {n c : Nat} {zs : List α} (h : ElsK R sz e base N S w A n c zs) : ∀ g ∈ (Value.slice A n c).ownBlock.toList, base ≤ g ∧ g < w.heap.size := by
  obtain ⟨_, vals, hr, _⟩ := h; exact hr.ownGe
theorem lat_own {w w' : World} {o : Option Nat} {M : Nat} (gr : w.grownBy w' o) (hM : M ≤ w.heap.size) (hS : ∀ k ∈ o.toList, M ≤ k) : Lat M [] w w' := (Chs.own' gr).lat hM fun k hk hlt => absurd hlt (by have := hS k hk; omega)
section
variable {N3 M x gx gs gi base : Nat} {T : List Nat} {hd : Hd} {st : St}
end
theorem mem2 {P : Nat → Prop} {a b : Nat} {L : List Nat} (ha : P a) (hb : P b) (hL : ∀ k ∈ L, P k) : ∀ k ∈ a :: b :: L, P k := fun k hk => by
  simp only [List.mem_cons] at hk
  rcases hk with rfl | rfl | hk
  · exact ha
  · exact hb
  · exact hL k hk
theorem pVec_dec {xs v r : List UInt8} (h : pVec xs = .ok (v, r)) : r.length < xs.length := by
  obtain ⟨k, h1, h2, h3, _⟩ := pVec_drop h
  rw [h3, List.length_drop]; omega
theorem vec_dec {xs r : List UInt8} (h : (vecX (.ok xs)).2 = .ok r) : r.length < xs.length := by
  rw [vecX_ok] at h
  cases hp : pVec xs with
  | error c => rw [hp] at h; cases h
  | ok p =>
    rw [hp] at h
    injection h with h
    subst h
    exact pVec_dec (v := p.1) hp
section
variable {N gi gr : Nat} {S : List Nat} {s : St}
end
theorem just_le (k n : Nat) (s : St) : slen (justX k n s) ≤ slen s := by
  have h := num_le (s := s) k
  unfold justX
  rcases st_cases (numX k s).2 with ⟨c, hc⟩ | ⟨q, hq⟩
  · rw [hc]; exact Nat.zero_le _
  · rw [hq] at h ⊢
    dsimp only
    split
    · exact h
    · exact Nat.zero_le _
section
variable {N3 M x gx gc gi base : Nat} {T : List Nat} {st : St}
end
section
variable {N gi gr : Nat} {S : List Nat} {s : St}
end
end Go.Proofs.Ytpgalbgonmclaaa
