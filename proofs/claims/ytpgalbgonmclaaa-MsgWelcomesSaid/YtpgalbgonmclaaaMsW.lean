/- What bytes as a whole are: packages, proposals, commits, messages; how great what is read can be. No conditions: contracts of the program's functions. -/
import Derived.Test.YtpgalbgonmclaaaMsZ
namespace Go.Proofs.Ytpgalbgonmclaaa
open Go.RowKit
attribute [local irreducible] Y Ef WL WC WK WQ WM OpM WN WF OpN WJ OpJ WG OpG
open Wire Nd M20
theorem eachN_all {α : Type} {f : St → α × St} {P : α → Prop} {B : Nat} (hf : ∀ ys : List UInt8, ys.length ≤ B → P (f (.ok ys)).1) (hle : ∀ ys r : List UInt8, (f (.ok ys)).2 = .ok r → r.length ≤ ys.length) : ∀ (n : Nat) (ys : List UInt8), ys.length ≤ B → ∀ x ∈ (eachN f n ys).1, P x
  | 0, ys, _, x, hx => by cases hx
  | n + 1, [], _, x, hx => by cases hx
  | n + 1, y :: ys, hB, x, hx => by
    have e : eachN f (n + 1) (y :: ys) = match (f (.ok (y :: ys))).2 with
      | .error c => ([(f (.ok (y :: ys))).1], .error c)
      | .ok r => ((f (.ok (y :: ys))).1 :: (eachN f n r).1, (eachN f n r).2) := rfl
    have h0 := hf _ hB
    rcases st_cases (f (.ok (y :: ys))).2 with ⟨c, hc⟩ | ⟨r, hr⟩
    · rw [hc] at e
      rw [e] at hx
      simp only [List.mem_singleton] at hx
      subst hx; exact h0
    · rw [hr] at e
      rw [e] at hx
      rcases List.mem_cons.1 hx with rfl | hx
      · exact h0
      · exact eachN_all hf hle n r (by have := hle _ _ hr; omega) x hx
theorem eachN_len {α : Type} {f : St → α × St} : ∀ (n : Nat) (ys : List UInt8), (eachN f n ys).1.length ≤ n
  | 0, ys => Nat.le_refl _
  | n + 1, [] => Nat.zero_le _
  | n + 1, y :: ys => by
    have e : eachN f (n + 1) (y :: ys) = match (f (.ok (y :: ys))).2 with
      | .error c => ([(f (.ok (y :: ys))).1], .error c)
      | .ok r => ((f (.ok (y :: ys))).1 :: (eachN f n r).1, (eachN f n r).2) := rfl
    rcases st_cases (f (.ok (y :: ys))).2 with ⟨c, hc⟩ | ⟨r, hr⟩
    · rw [hc] at e
      rw [e]; show 1 ≤ n + 1; omega
    · rw [hr] at e
      rw [e]
      have := eachN_len (f := f) n r
      show _ + 1 ≤ _; omega
theorem each_fit {α : Type} {f : St → α × St} {P : α → Prop} {s : St} {B : Nat} (h : slen s ≤ B) (hf : ∀ ys : List UInt8, ys.length ≤ B → P (f (.ok ys)).1) (hle : ∀ ys r : List UInt8, (f (.ok ys)).2 = .ok r → r.length ≤ ys.length) : (eachX f s).1.length ≤ B ∧ ∀ x ∈ (eachX f s).1, P x := by
  rcases st_cases (vecX s).2 with ⟨c, hc⟩ | ⟨q, hq⟩
  · rw [eachX_no hc]; exact ⟨Nat.zero_le _, fun x hx => by cases hx⟩
  · rw [eachX_yes hq]
    have h1 := (vecX_le s).1
    exact ⟨Nat.le_trans (eachN_len _ _) (by omega), eachN_all hf hle _ _ (by omega)⟩
theorem each_le {α : Type} (f : St → α × St) (s : St) : slen (eachX f s).2 ≤ slen s := by
  rcases st_cases (vecX s).2 with ⟨c, hc⟩ | ⟨q, hq⟩
  · rw [eachX_no hc]; exact Nat.zero_le _
  · rw [eachX_yes hq]
    have h1 := (vecX_le s).2
    rw [hq] at h1
    show slen (thenX q _) ≤ _
    cases (eachN f (vecX s).1.length (vecX s).1).2 with
    | error c => exact Nat.zero_le _
    | ok z => exact h1
theorem vec_fit {s : St} {B : Nat} (h : slen s ≤ B) : (vecX s).1.length ≤ B ∧ slen (vecX s).2 ≤ B := by have := vecX_le s; omega
theorem le_of {α : Type} {f : St → α × St} (h : ∀ s, slen (f s).2 ≤ slen s) (ys r : List UInt8) (e : (f (.ok ys)).2 = .ok r) : r.length ≤ ys.length := by
  have := h (.ok ys)
  rw [e] at this; exact this
theorem flag_le (s : St) : slen (flagX s).2 ≤ slen s := by
  have h := num_le (s := s) 1
  unfold flagX
  rcases st_cases (numX 1 s).2 with ⟨c, hc⟩ | ⟨q, hq⟩
  · rw [hc]; exact Nat.zero_le _
  · rw [hq] at h ⊢
    dsimp only
    split
    · exact Nat.zero_le _
    · exact h
theorem whole_code {α : Type} (z : α) (p : α × St) (ok : Bool) : (wholeX z p ok).2 = if endX p.2 ≠ 0 then endX p.2 else if ok then 0 else 3 := by
  unfold wholeX
  split
  · rfl
  · split <;> rfl
theorem whole_no {α : Type} {z : α} {p : α × St} {ok : Bool} (h : (if endX p.2 ≠ 0 then endX p.2 else if ok then 0 else 3) ≠ 0) : wholeX z p ok = (z, if endX p.2 ≠ 0 then endX p.2 else if ok then 0 else 3) := by
  rw [← whole_code z] at h ⊢
  exact Prod.ext (wholeX_zero h) rfl
theorem whole_yes {α : Type} {z : α} {p : α × St} {ok : Bool} (h : ¬ (if endX p.2 ≠ 0 then endX p.2 else if ok then 0 else 3) ≠ 0) : wholeX z p ok = (p.1, 0) := by
  unfold wholeX
  split at h
  · rename_i h1; exact absurd h1 h
  · rename_i h1
    rw [if_neg h1]
    split at h
    · rename_i h2; rw [if_pos h2]
    · exact absurd (show (3 : Nat) ≠ 0 by decide) h
def zMsgV : Array Value := msgV nilH 0 0 0 0 nilH nilH nilH nilH 0 nilH nilH nilH nilH nilH nilH 0 nilH nilH 0 nilH false nilH nilH nilH 0 nilH nilH nilH nilH nilH nilH
theorem MsgF.zero (base : Nat) (w : World) : MsgF base w zMsgV Mess.zero :=
  ⟨_, _, _, _, _, _, _, _, _, _, _, _, _, _, _, _, _, _, _, _, _, _, _, _, _, _, rfl, (by decide), (by decide), (by decide), Fb.nil _ _ _, PropF.zero _ _, ComF.zero _ _, Fb.nil _ _ _, Fb.nil _ _ _, Fb.nil _ _ _⟩
theorem PackF.size {base : Nat} {w : World} {cs : Array Value} {x : Pack} (h : PackF base w cs x) : cs.size = 8 ∧ ones cs.toList = true := by
  obtain ⟨i, h0, h1, h2, h4, h5, g, rfl, _⟩ := h; exact ⟨rfl, rfl⟩
theorem PropF.size {base : Nat} {w : World} {cs : Array Value} {x : Prop20} (h : PropF base w cs x) : cs.size = 16 ∧ ones cs.toList = true := by
  obtain ⟨i, h0, h1, h2, h4, h5, g, l0, l1, l2, l4, l5, rfl, _⟩ := h; exact ⟨rfl, rfl⟩
theorem ComF.size {base : Nat} {w : World} {cs : Array Value} {x : Com20} (h : ComF base w cs x) : cs.size = 9 ∧ ones cs.toList = true := by
  obtain ⟨it, h0, h1, h2, s, h4, h5, t, rfl, _⟩ := h; exact ⟨rfl, rfl⟩
theorem MsgF.size {base : Nat} {w : World} {cs : Array Value} {x : Mess} (h : MsgF base w cs x) : cs.size = 32 ∧ ones cs.toList = true := by
  obtain ⟨gr, i, h0, h1, h2, s, h4, h5, g, l0, l1, l2, t, l4, l5, it, c0, c1, c2, q, c4, c5, ct, sg, tg, mb, rfl, _⟩ := h; exact ⟨rfl, rfl⟩
theorem whole_cells {old cs : Array Value} {k : Nat} (h : old.size = k) (hc : cs.size = k) : (old.toList.take 0 ++ cs.toList ++ old.toList.drop (0 + cs.size)).toArray = cs := by
  have e : old.toList.drop (0 + cs.size) = [] := List.drop_of_length_le (by simp; omega)
  rw [e]; simp
end Go.Proofs.Ytpgalbgonmclaaa
