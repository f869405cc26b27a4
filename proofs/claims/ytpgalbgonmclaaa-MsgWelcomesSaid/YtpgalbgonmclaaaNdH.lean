/- Nodes that are taken of bytes at a place: what the reference answers. -/
import Derived.Test.YtpgalbgonmclaaaNdF
import Derived.Test.YtpgalbgonmclaaaNdC
/- Leaves and nodes that are taken of bytes at a place: what the reference answers. -/
namespace Go.Proofs.Ytpgalbgonmclaaa
open Go.RowKit
attribute [local irreducible] Y Ef WL WC WK WQ WM OpM WN WF OpN WJ OpJ
open Wire Nd
namespace Nd
theorem pVec_err {xs : List UInt8} {c : Nat} (h : pVec xs = .error c) : c ≠ 0 ∧ c < 256 := by
  unfold pVec at h
  cases hp : pLen xs with
  | error z => rw [hp] at h; injection h with h; subst h; exact pLen_err hp
  | ok p =>
    rw [hp] at h
    have h' : (if p.2.length < p.1 then (.error 4 : Except Nat (List UInt8 × List UInt8)) else .ok (p.2.take p.1, p.2.drop p.1)) = .error c := h
    split at h'
    · injection h' with h'; omega
    · cases h'
theorem vecX_ok (xs : List UInt8) : vecX (.ok xs) = match pVec xs with
    | .error c => ([], .error c)
    | .ok (v, r) => (v, .ok r) := rfl
theorem vecAt_st {b : List UInt8} {at_ : Nat} (hat : at_ ≤ b.length) : (vecX (.ok (b.drop at_))).1 = (vecAt b at_).1 ∧ ((vecAt b at_).2.2 = 0 → (vecX (.ok (b.drop at_))).2 = .ok (b.drop (vecAt b at_).2.1) ∧ (vecAt b at_).2.1 ≤ b.length) ∧ ((vecAt b at_).2.2 ≠ 0 → (vecX (.ok (b.drop at_))).2 = .error (vecAt b at_).2.2) := by
  rw [vecX_ok]
  cases hp : pVec (b.drop at_) with
  | error z =>
    have hz := pVec_err hp
    rw [vecAt_err hp]
    exact ⟨rfl, fun h => absurd h hz.1, fun _ => rfl⟩
  | ok p =>
    obtain ⟨v, r⟩ := p
    rw [vecAt_ok hp]
    obtain ⟨k, h1, h2, h3, h4⟩ := pVec_drop hp
    rw [List.length_drop] at h2
    refine ⟨rfl, fun _ => ⟨?_, Nat.sub_le _ _⟩, fun h => absurd rfl h⟩
    have hr : r.length = b.length - at_ - (k + v.length) := by rw [h3, List.length_drop, List.length_drop]
    show (.ok r : St) = .ok (b.drop (b.length - r.length))
    rw [show b.length - r.length = at_ + (k + v.length) by omega, h3, List.drop_drop]
def slen : St → Nat
  | .ok xs => xs.length
  | .error _ => 0
theorem vecX_le (s : St) : (vecX s).1.length ≤ slen s ∧ slen (vecX s).2 ≤ slen s := by
  cases s with
  | error c => exact ⟨Nat.le_refl _, Nat.le_refl _⟩
  | ok xs =>
    rw [vecX_ok]
    cases hp : pVec xs with
    | error c => exact ⟨Nat.zero_le _, Nat.zero_le _⟩
    | ok p =>
      obtain ⟨v, r⟩ := p
      obtain ⟨k, h1, h2, h3, h4⟩ := pVec_drop hp
      have hr : r.length = xs.length - (k + v.length) := by rw [h3, List.length_drop]
      exact ⟨show v.length ≤ xs.length by omega, show r.length ≤ xs.length by omega⟩
end Nd
/-- A leaf whose slices lie in given bytes. -/
def LeafS (A : Option Addr) (n : Nat) (b : List UInt8) (cs : Array Value) (l : Leaf) : Prop := LeafC (fun h xs => Sub A n b h.A h.n xs) cs l
theorem LeafS.at {A : Option Addr} {n : Nat} {b : List UInt8} {cs : Array Value} {l : Leaf} {w : World} (h : LeafS A n b cs l) (HA : Bs w A n b) : LeafAt w cs l := LeafC.imp h fun _ _ s => s w HA
theorem Sub.nil (A : Option Addr) (n : Nat) (b : List UInt8) : Sub A n b none 0 [] := fun w _ => Bs.nil w _
theorem LeafS.zero (A : Option Addr) (n : Nat) (b : List UInt8) : LeafS A n b zLeafV Leaf.zero := ⟨nilH, nilH, nilH, nilH, nilH, rfl, by decide, Sub.nil _ _ _, Sub.nil _ _ _, Sub.nil _ _ _, Sub.nil _ _ _, Sub.nil _ _ _⟩
theorem numX1_at {b : List UInt8} {p : Nat} (h : p < b.length) : numX 1 (.ok (b.drop p)) = ((b.getD p 0).toNat, .ok (b.drop (p + 1))) := by
  rw [numX_ok, if_neg (by rw [List.length_drop]; omega), drop_cons h]
  simp [nb]
theorem numX1_end {b : List UInt8} {p : Nat} (h : b.length ≤ p) : numX 1 (.ok (b.drop p)) = (0, .error 4) := by
  rw [numX_ok, if_pos (by rw [List.length_drop]; omega)]
theorem At.slot {w : World} {A : Option Addr} {vals : List Value} {j : Nat} {v : Value} (h : At w A vals) (hj : vals[j]? = some v) : ∃ bb oo, A = some ⟨bb, oo, none⟩ ∧ w.cell? ⟨bb, oo + j, none⟩ = some v := by
  rcases h with h | ⟨b, o, hA, hc⟩
  · subst h; cases hj
  · exact ⟨b, o, hA, hc _ _ hj⟩
end Go.Proofs.Ytpgalbgonmclaaa

namespace Go.Proofs.Ytpgalbgonmclaaa
open Go.RowKit
attribute [local irreducible] Y Ef WL WC WK WQ WM OpM WN WF OpN WJ OpJ
open Wire Nd
theorem Bs.cellN {w : World} {b off n : Nat} {xs : List UInt8} (h : Bs w (some ⟨b, off, none⟩) n xs) {k : Nat} (hk : k < n) : w.cell? ⟨b, off + k, none⟩ = some (.int .u8 ((xs.getD k 0).toNat : Int)) := by
  obtain ⟨b', o', e, _, hc⟩ := h.get hk
  injection e with e
  injection e with e1 e2 _
  subst e1; subst e2
  exact hc
def NodeS (A : Option Addr) (n : Nat) (b : List UInt8) (base : Nat) (w : World) (cs : Array Value) (x : Node) : Prop := NodeC (fun h xs => Sub A n b h.A h.n xs) (fun h zs => Fz base w h.A h.n zs) cs x
theorem NodeS.at {A : Option Addr} {n base : Nat} {b : List UInt8} {cs : Array Value} {x : Node} {w : World} (h : NodeS A n b base w cs x) (HA : Bs w A n b) : NodeAt w cs x := NodeC.imp h (fun _ _ s => s w HA) (fun _ _ z => z.1)
theorem NodeS.zero (A : Option Addr) (n : Nat) (b : List UInt8) (base : Nat) (w : World) : NodeS A n b base w zNodeV Node.zero :=
  ⟨nilH, nilH, nilH, nilH, nilH, nilH, nilH, nilH, rfl, by decide, by decide, Sub.nil _ _ _, Sub.nil _ _ _, Sub.nil _ _ _, Sub.nil _ _ _, Sub.nil _ _ _, Sub.nil _ _ _, Sub.nil _ _ _, Fz.nil _ _ _⟩
end Go.Proofs.Ytpgalbgonmclaaa
