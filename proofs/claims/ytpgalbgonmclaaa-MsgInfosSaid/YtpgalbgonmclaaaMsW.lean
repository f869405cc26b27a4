/- What bytes as a whole are: packages, proposals, commits, messages; how great what is read can be. No conditions: contracts of the program's functions. -/
import Derived.Test.YtpgalbgonmclaaaMsZ
namespace Go.Proofs.Ytpgalbgonmclaaa
open Go.RowKit
attribute [local irreducible] Y Ef WL WC WK WQ WM OpM WN WF OpN WJ OpJ WG OpG
open Wire Nd M20
theorem vec_fit {s : St} {B : Nat} (h : slen s ≤ B) : (vecX s).1.length ≤ B ∧ slen (vecX s).2 ≤ B := by have := vecX_le s; omega
theorem whole_code {α : Type} (z : α) (p : α × St) (ok : Bool) : (wholeX z p ok).2 = if endX p.2 ≠ 0 then endX p.2 else if ok then 0 else 3 := by
  unfold wholeX
  split
  · rfl
  · split <;> rfl
theorem whole_no {α : Type} {z : α} {p : α × St} {ok : Bool} (h : (if endX p.2 ≠ 0 then endX p.2 else if ok then 0 else 3) ≠ 0) : wholeX z p ok = (z, if endX p.2 ≠ 0 then endX p.2 else if ok then 0 else 3) := by
  rw [← whole_code z] at h ⊢
  exact Prod.ext (wholeX_zero h) rfl
theorem whole_yes {α : Type} {z : α} {p : α × St} {ok : Bool} (h : ¬ (if endX p.2 ≠ 0 then endX p.2 else if ok then 0 else 3) ≠ 0) : wholeX z p ok = (p.1, 0) := by
  unfold wholeX
  split at h
  · rename_i h1; exact absurd h1 h
  · rename_i h1
    rw [if_neg h1]
    split at h
    · rename_i h2; rw [if_pos h2]
    · exact absurd (show (3 : Nat) ≠ 0 by decide) h
def zMsgV : Array Value := msgV nilH 0 0 0 0 nilH nilH nilH nilH 0 nilH nilH nilH nilH nilH nilH 0 nilH nilH 0 nilH false nilH nilH nilH 0 nilH nilH nilH nilH nilH nilH
theorem MsgF.zero (base : Nat) (w : World) : MsgF base w zMsgV Mess.zero :=
  ⟨_, _, _, _, _, _, _, _, _, _, _, _, _, _, _, _, _, _, _, _, _, _, _, _, _, _, rfl, (by decide), (by decide), (by decide), Fb.nil _ _ _, PropF.zero _ _, ComF.zero _ _, Fb.nil _ _ _, Fb.nil _ _ _, Fb.nil _ _ _⟩
theorem PackF.size {base : Nat} {w : World} {cs : Array Value} {x : Pack} (h : PackF base w cs x) : cs.size = 8 ∧ ones cs.toList = true := by
  obtain ⟨i, h0, h1, h2, h4, h5, g, rfl, _⟩ := h; exact ⟨rfl, rfl⟩
theorem PropF.size {base : Nat} {w : World} {cs : Array Value} {x : Prop20} (h : PropF base w cs x) : cs.size = 16 ∧ ones cs.toList = true := by
  obtain ⟨i, h0, h1, h2, h4, h5, g, l0, l1, l2, l4, l5, rfl, _⟩ := h; exact ⟨rfl, rfl⟩
theorem ComF.size {base : Nat} {w : World} {cs : Array Value} {x : Com20} (h : ComF base w cs x) : cs.size = 9 ∧ ones cs.toList = true := by
  obtain ⟨it, h0, h1, h2, s, h4, h5, t, rfl, _⟩ := h; exact ⟨rfl, rfl⟩
theorem MsgF.size {base : Nat} {w : World} {cs : Array Value} {x : Mess} (h : MsgF base w cs x) : cs.size = 32 ∧ ones cs.toList = true := by
  obtain ⟨gr, i, h0, h1, h2, s, h4, h5, g, l0, l1, l2, t, l4, l5, it, c0, c1, c2, q, c4, c5, ct, sg, tg, mb, rfl, _⟩ := h; exact ⟨rfl, rfl⟩
theorem whole_cells {old cs : Array Value} {k : Nat} (h : old.size = k) (hc : cs.size = k) : (old.toList.take 0 ++ cs.toList ++ old.toList.drop (0 + cs.size)).toArray = cs := by
  have e : old.toList.drop (0 + cs.size) = [] := List.drop_of_length_le (by simp; omega)
  rw [e]; simp
end Go.Proofs.Ytpgalbgonmclaaa
