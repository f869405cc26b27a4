/- What bytes of messages, infos, welcomes and secrets are read as, plainly: there, and back. No conditions: plain lemmas. -/
import Derived.Test.YtpgalbgonmclaaaGreatMsQ
import Derived.Test.YtpgalbgonmclaaaGreatMsN
/- What is signed tells what is meant; the law MsgApart. -/
namespace Go.Proofs.YtpgalbgonmclaaaGreat
open Go.RowKit
attribute [local irreducible] Y Ef WL WC WK WQ WM OpM WN WF OpN WG OpG
namespace M20
open Wire Nd
end M20
open M20
theorem Told.code {w : World} {ok : Prop} {xs : List UInt8} {A : Option Addr} {k z : Nat} (h : Told w ok xs A k z) : (z = 0 ↔ ok) ∧ (z = 0 ∨ z = 3) := by
  by_cases o : ok
  · have := (h.1 o).1; exact ⟨⟨fun _ => o, fun _ => this⟩, .inl this⟩
  · have := (h.2 o).1; exact ⟨⟨fun e => by omega, fun e => absurd e o⟩, .inr this⟩
theorem MsgAt.ep {w : World} {cs : Array Value} {m : Mess} (h : MsgAt w cs m) : m.epoch < 18446744073709551616 := by
  obtain ⟨gr, i, h0, h1, h2, s, h4, h5, g, l0, l1, l2, t, l4, l5, it, c0, c1, c2, q, c4, c5, ct, sg, tg, mb, _, a, _⟩ := h
  exact a
end Go.Proofs.YtpgalbgonmclaaaGreat

namespace Go.Proofs.YtpgalbgonmclaaaGreat
open Go.RowKit
namespace M20
open Wire Nd
/-! Back: what is read stands there. -/
theorem justX_of {k n : Nat} {s : St} {r : List UInt8} (h : justX k n s = .ok r) : s = .ok (be k n ++ r) := by
  unfold justX at h
  split at h
  · rename_i q hq
    split at h
    · rename_i hn
      injection h with h
      have := (num_of hq).1
      rw [hn] at this
      rw [this, h]
    · cases h
  · cases h
theorem flagX_of {s : St} {r : List UInt8} (h : (flagX s).2 = .ok r) : s = .ok ((if (flagX s).1 then 1 else 0) :: r) := by
  unfold flagX at h ⊢
  split at h
  · rename_i q hq
    have h1 := (num1_of hq).1
    show s = .ok ((if (if 1 < (numX 1 s).1 then ((false, .error 3) : Bool × St) else (decide ((numX 1 s).1 = 1), .ok q)).1 then 1 else 0) :: r)
    split at h
    · cases h
    · rename_i hn
      rw [if_neg hn]
      injection h with h
      subst h
      show s = .ok ((if decide ((numX 1 s).1 = 1) = true then 1 else 0) :: q)
      rcases Nat.eq_zero_or_pos (numX 1 s).1 with h0 | h0
      · rw [h0, if_neg (by decide)]; rw [h0] at h1; exact h1
      · have h2 : (numX 1 s).1 = 1 := by omega
        rw [h2, if_pos (by decide)]; rw [h2] at h1; exact h1
  · cases h
theorem leafI_back {s : St} {r : List UInt8} (h : (leafI s).2 = .ok r) : okLeaf (leafI s).1 ∧ s = .ok (leafB (leafI s).1 ++ r) := by
  cases s with
  | error c => cases h
  | ok xs =>
    show okLeaf (leafX (.ok xs)).1.1 ∧ (.ok xs : St) = .ok (leafB (leafX (.ok xs)).1.1 ++ r)
    have h' : (if (leafX (.ok xs)).1.2 ≠ 0 then (.error (leafX (.ok xs)).1.2 : St) else (leafX (.ok xs)).2) = .ok r := h
    split at h'
    · cases h'
    · rename_i hz
      have hz : (leafX (.ok xs)).1.2 = 0 := by omega
      have e : leafX (.ok xs) = (((leafX (.ok xs)).1.1, 0), (leafX (.ok xs)).2) := by
        rw [← hz]
      obtain ⟨k1, r', k2, k3⟩ := leaf_back (good_ok xs) e
      rw [h'] at k2
      injection k2 with k2
      subst k2
      exact ⟨k1, k3⟩
theorem packX_back {s : St} {r : List UInt8} (h : (packX s).2 = .ok r) : s = .ok (packB (packX s).1 ++ r) := by
  obtain ⟨v, hv⟩ : ∃ v, v = justX 2 1 (justX 2 1 s) := ⟨_, rfl⟩
  have hp : packX s = (⟨(vecX v).1, (leafI (vecX v).2).1, (vecX (leafI (vecX v).2).2).1⟩, (vecX (leafI (vecX v).2).2).2) := by rw [hv]; rfl
  rw [hp] at h ⊢
  have e1 := vecX_of h
  obtain ⟨_, e2⟩ := leafI_back e1
  have e3 := vecX_of e2
  rw [hv] at e3
  have e4 := justX_of (justX_of e3)
  rw [e4]
  congr 1
  rw [hv]
  unfold packB packT
  simp only [List.append_assoc]; rfl
theorem propX_back {s : St} {r : List UInt8} (h : (propX s).2 = .ok r) : s = .ok (propB (propX s).1 ++ r) := by
  obtain ⟨k, t, hk⟩ : ∃ k t, numX 1 s = (k, t) := ⟨_, _, rfl⟩
  unfold propX at h ⊢
  rw [hk] at h ⊢
  dsimp only at h ⊢
  have hs : ∀ q, t = .ok q → s = .ok (UInt8.ofNat k :: q) := fun q hq => by
    have := (num1_of (s := s) (r := q) (by rw [hk]; exact hq)).1
    rw [hk] at this; exact this
  by_cases h1 : k = 1
  · subst h1
    rw [if_pos rfl] at h ⊢
    have e := packX_back h
    rw [hs _ e]
    unfold propB
    rw [if_pos rfl]; rfl
  · rw [if_neg h1] at h ⊢
    by_cases h2 : k = 2
    · subst h2
      rw [if_pos rfl] at h ⊢
      have e := (leafI_back h).2
      rw [hs _ e]
      unfold propB
      rw [if_neg (show ¬ (2 : Nat) = 1 by decide), if_pos rfl]; rfl
    · rw [if_neg h2] at h ⊢
      by_cases h3 : k = 3
      · subst h3
        rw [if_pos rfl] at h ⊢
        have e := (num_of h).1
        rw [hs _ e]
        unfold propB
        rw [if_neg (show ¬ (3 : Nat) = 1 by decide), if_neg (show ¬ (3 : Nat) = 2 by decide)]; rfl
      · rw [if_neg h3] at h
        cases t <;> cases h
theorem itemX_back {s : St} {r : List UInt8} (h : (itemX s).2 = .ok r) (ok : okItem (itemX s).1) : s = .ok (itmB propB (itemX s).1 ++ r) := by
  obtain ⟨k, t, hk⟩ : ∃ k t, numX 1 s = (k, t) := ⟨_, _, rfl⟩
  unfold itemX at h ok ⊢
  rw [hk] at h ok ⊢
  dsimp only at h ok ⊢
  have hs : ∀ q, t = .ok q → s = .ok (UInt8.ofNat k :: q) := fun q hq => by
    have := (num1_of (s := s) (r := q) (by rw [hk]; exact hq)).1
    rw [hk] at this; exact this
  by_cases h1 : k = 1
  · subst h1
    rw [if_pos rfl] at h ok ⊢
    rw [hs _ (propX_back h)]
    unfold itmB
    rw [if_neg (by show ¬ 0 < ([] : List UInt8).length; simp)]; rfl
  · rw [if_neg h1] at h ok ⊢
    by_cases h2 : k = 2
    · subst h2
      rw [if_pos rfl] at h ok ⊢
      rw [hs _ (vecX_of h)]
      have hl : 0 < (vecX t).1.length := by
        rcases ok with h | h
        · have h1 : (vecX t).1.length = 32 := h.1
          omega
        · exact absurd (show okProp Prop20.zero from h.2) (by decide)
      unfold itmB
      rw [if_pos hl]; rfl
    · rw [if_neg h2] at h
      cases t <;> cases h
theorem eachN_back {α : Type} {f : St → α × St} {g : α → List UInt8} {P : α → Prop} (hf : ∀ s r, (f s).2 = .ok r → P (f s).1 → s = .ok (g (f s).1 ++ r)) (hg : ∀ x, 0 < (g x).length) : ∀ {n : Nat} {ys q : List UInt8}, ys.length ≤ n → (eachN f n ys).2 = .ok q → (∀ x ∈ (eachN f n ys).1, P x) → q = [] ∧ ys = (eachN f n ys).1.flatMap g
  | 0, ys, q, hn, h, _ => by
    have : ys = [] := List.eq_nil_of_length_eq_zero (by omega)
    subst this
    injection h with h
    exact ⟨h.symm, rfl⟩
  | n + 1, [], q, _, h, _ => by injection h with h; exact ⟨h.symm, rfl⟩
  | n + 1, y :: ys, q, hn, h, hp => by
    have e : eachN f (n + 1) (y :: ys) = match (f (.ok (y :: ys))).2 with
      | .error c => ([(f (.ok (y :: ys))).1], .error c)
      | .ok r => ((f (.ok (y :: ys))).1 :: (eachN f n r).1, (eachN f n r).2) := rfl
    cases hr : (f (.ok (y :: ys))).2 with
    | error c => rw [e, hr] at h; cases h
    | ok r =>
      rw [hr] at e
      rw [e] at h hp ⊢
      have e1 := hf _ _ hr (hp _ List.mem_cons_self)
      injection e1 with e1
      have hl : (y :: ys).length = (g (f (.ok (y :: ys))).1).length + r.length := by
        have := congrArg List.length e1
        rw [List.length_append] at this
        exact this
      have hp1 := hg (f (.ok (y :: ys))).1
      obtain ⟨k1, k2⟩ := eachN_back hf hg (n := n) (ys := r) (by rw [List.length_cons] at hl hn; omega) h (fun x hx => hp x (List.mem_cons_of_mem _ hx))
      refine ⟨k1, ?_⟩
      rw [List.flatMap_cons, ← k2]
      exact e1
def thenX (r : List UInt8) : St → St
  | .ok _ => .ok r
  | .error c => .error c
theorem eachX_no {α : Type} {f : St → α × St} {s : St} {c : Nat} (h : (vecX s).2 = .error c) : eachX f s = ([], .error c) := by unfold eachX; rw [h]
theorem eachX_yes {α : Type} {f : St → α × St} {s : St} {r : List UInt8} (h : (vecX s).2 = .ok r) : eachX f s = ((eachN f (vecX s).1.length (vecX s).1).1, thenX r (eachN f (vecX s).1.length (vecX s).1).2) := by
  unfold eachX; rw [h]
  dsimp only
  cases (eachN f (vecX s).1.length (vecX s).1).2 <;> rfl
theorem thenX_ok {q r : List UInt8} {t : St} (h : thenX q t = .ok r) : ∃ z, t = .ok z ∧ q = r := by
  cases t with
  | error c => cases h
  | ok z => injection h with h; exact ⟨z, rfl, h⟩
theorem st_cases (t : St) : (∃ c, t = .error c) ∨ ∃ q, t = .ok q := by
  cases t with
  | error c => exact .inl ⟨c, rfl⟩
  | ok q => exact .inr ⟨q, rfl⟩
theorem eachX_back {α : Type} {f : St → α × St} {g : α → List UInt8} {P : α → Prop} (hf : ∀ s r, (f s).2 = .ok r → P (f s).1 → s = .ok (g (f s).1 ++ r)) (hg : ∀ x, 0 < (g x).length) {s : St} {r : List UInt8} (h : (eachX f s).2 = .ok r) (hp : ∀ x ∈ (eachX f s).1, P x) : s = .ok (vec ((eachX f s).1.flatMap g) ++ r) := by
  rcases st_cases (vecX s).2 with ⟨c, hv⟩ | ⟨q, hv⟩
  · rw [eachX_no hv] at h; cases h
  · rw [eachX_yes hv] at h hp ⊢
    obtain ⟨z, hE, rfl⟩ := thenX_ok h
    have e1 := (eachN_back hf hg (Nat.le_refl _) hE hp).2
    show s = .ok (vec ((eachN f (vecX s).1.length (vecX s).1).1.flatMap g) ++ q)
    rw [← e1]
    exact vecX_of hv
theorem bxdX_back {s : St} {r : List UInt8} (h : (bxdX s).2 = .ok r) : s = .ok (bxdB (bxdX s).1 ++ r) := by
  have e1 := vecX_of (s := (vecX s).2) (r := r) h
  have e2 := vecX_of e1
  unfold bxdB
  rw [List.append_assoc]
  exact e2
theorem stpX_back {s : St} {r : List UInt8} (h : (stpX s).2 = .ok r) : s = .ok (stpB (stpX s).1 ++ r) := by
  have e1 := eachX_back (f := bxdX) (g := bxdB) (P := fun _ => True) (fun s r h _ => bxdX_back h) bxdB_pos (s := (vecX s).2) (r := r) h (fun _ _ => trivial)
  have e2 := vecX_of e1
  unfold stpB
  rw [List.append_assoc]
  exact e2
theorem comX_back {s : St} {r : List UInt8} (h : (comX s).2 = .ok r) (ok : okCom (comX s).1) : s = .ok (comB propB (comX s).1 ++ r) := by
  obtain ⟨i, hi⟩ : ∃ i, i = eachX itemX s := ⟨_, rfl⟩
  obtain ⟨f, hf⟩ : ∃ f, f = flagX i.2 := ⟨_, rfl⟩
  have hc : comX s = if f.1 then (⟨i.1, true, ⟨(leafI f.2).1, (eachX stpX (leafI f.2).2).1⟩⟩, (eachX stpX (leafI f.2).2).2) else (⟨i.1, false, Way20.zero⟩, f.2) := by rw [hf, hi]; rfl
  rw [hc] at h ok ⊢
  have key : ∀ q, i.2 = .ok q → (∀ x ∈ i.1, okItem x) → s = .ok (vec (i.1.flatMap (itmB propB)) ++ q) := fun q hq hp => by
    rw [hi] at hq hp ⊢
    exact eachX_back (f := itemX) (g := itmB propB) (P := okItem) (fun s r h ok => itemX_back h ok) itmB_pos hq hp
  rcases Bool.eq_false_or_eq_true f.1 with hb | hb
  · rw [hb, if_pos rfl] at h ok ⊢
    have e1 := eachX_back (f := stpX) (g := stpB) (P := fun _ => True) (fun s r h _ => stpX_back h) stpB_pos h (fun _ _ => trivial)
    have e2 := (leafI_back e1).2
    rw [hf] at e2
    have e3 := flagX_of e2
    rw [← hf, hb, if_pos rfl] at e3
    have e4 := key _ e3 ok.2.1
    rw [e4]
    unfold comB
    rw [if_pos rfl]
    simp only [List.append_assoc, List.cons_append]
  · rw [hb, if_neg (by decide)] at h ok ⊢
    rw [hf] at h
    have e3 := flagX_of h
    rw [← hf, hb, if_neg (by decide)] at e3
    have e4 := key _ e3 ok.2.1
    rw [e4]
    unfold comB
    rw [if_neg (show ¬ (false = true) by decide), List.append_assoc]; rfl
/-! Messages. -/
end M20
end Go.Proofs.YtpgalbgonmclaaaGreat
