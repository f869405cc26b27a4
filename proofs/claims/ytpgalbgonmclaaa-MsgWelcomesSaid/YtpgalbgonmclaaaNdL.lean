/- The reference's word for nodes that may be and their bytes, and the law NodeBytes. -/
import Derived.Test.YtpgalbgonmclaaaNdH
import Derived.Test.YtpgalbgonmclaaaNdD
/- The laws NodeTakes and NodeRows: they answer true whatever they are given. -/
namespace Go.Proofs.Ytpgalbgonmclaaa
open Go.RowKit
attribute [local irreducible] Y Ef WL WC WK WQ WM OpM WN WF OpN WJ OpJ
open Wire Nd
namespace Nd
theorem num_le {s : St} (k : Nat) : slen (numX k s).2 ≤ slen s := by
  cases s with
  | error c => exact Nat.le_refl _
  | ok xs =>
    rw [numX_ok]
    split
    · exact Nat.zero_le _
    · show (xs.drop k).length ≤ xs.length
      rw [List.length_drop]; omega
theorem fit_zero : Leaf.zero.Fit := ⟨Nat.zero_le _, Nat.zero_le _, Nat.zero_le _, Nat.zero_le _, Nat.zero_le _⟩
theorem fit_par0 : Par.zero.Fit := ⟨Nat.zero_le _, Nat.zero_le _, Nat.zero_le _⟩
theorem endX_drop {b : List UInt8} {k : Nat} : endX (.ok (b.drop k)) = if k < b.length then 5 else 0 := by
  by_cases h : k < b.length
  · rw [if_pos h, drop_cons h]; rfl
  · rw [if_neg h, List.drop_of_length_le (by omega)]; rfl
end Nd
theorem nodeAt_zero (w : World) : NodeAt w zNodeV Node.zero := (NodeF.zero 0 w).at
theorem NodeS.kk {A : Option Addr} {n base : Nat} {b : List UInt8} {cs : Array Value} {x : Node} {w : World} {S : List Nat} (h : NodeS A n b base w cs x) (hS : ∀ g ∈ S, g < base) : Kp w.heap.size S (fun w => NodeS A n b base w cs x) w := by
  obtain ⟨h0, h1, h2, h4, h5, p0, p1, p2, e, hk, hs, b0, b1, b2, b4, b5, q0, q1, q2⟩ := h
  exact ⟨Nat.le_refl _, fun w2 hw => ⟨h0, h1, h2, h4, h5, p0, p1, p2, e, hk, hs, b0, b1, b2, b4, b5, q0, q1, (q2.kk hS).2 w2 hw⟩⟩
theorem NodeS.ext {A : Option Addr} {n base : Nat} {b : List UInt8} {cs : Array Value} {x : Node} {w w' : World} (h : NodeS A n b base w cs x) (e : Ext w w') : NodeS A n b base w' cs x := NodeC.imp h (fun _ _ s => s) (fun _ _ z => z.ext e)
namespace Nd
end Nd
end Go.Proofs.Ytpgalbgonmclaaa

/- There and back, plainly: vectors, leaves, parents and nodes come back of their bytes, and bytes of what is taken of them. No program in sight. -/
namespace Go.Proofs.Ytpgalbgonmclaaa
open Go.RowKit
namespace Wire
theorem nb1 (a : UInt8) : nb [a] = a.toNat := by simp [nb]
theorem num1_cons (a : UInt8) (r : List UInt8) : numX 1 (.ok (a :: r)) = (a.toNat, .ok r) := by
  rw [numX_ok, if_neg (by simp)]
  show (nb [a], _) = _
  rw [nb1]; rfl
theorem be4 (n : Nat) : be 4 n = [UInt8.ofNat (n / 16777216), UInt8.ofNat (n / 65536), UInt8.ofNat (n / 256), UInt8.ofNat n] := by
  simp only [be, List.nil_append, List.cons_append, Nat.div_div_eq_div_mul]
end Wire
open Wire Nd
namespace Nd
/-- No state has the error 0. -/
def Good (s : St) : Prop := ∀ c, s = .error c → c ≠ 0
theorem good_ok (xs : List UInt8) : Good (.ok xs) := fun c h => by cases h
end Nd
end Go.Proofs.Ytpgalbgonmclaaa

/- The law NodeBack: a node comes back of its bytes, and bytes of what is taken of them. -/
namespace Go.Proofs.Ytpgalbgonmclaaa
open Go.RowKit
attribute [local irreducible] Y Ef WL WC WK WQ WM OpM WN WF OpN WJ OpJ
open Wire Nd
def Node.Small (n : Node) : Prop := n.leaf.box.length ≤ 200 ∧ n.leaf.sign.length ≤ 200 ∧ n.leaf.ident.length ≤ 200 ∧ n.leaf.parent.length ≤ 200 ∧ n.leaf.sig.length ≤ 200 ∧ n.par.box.length ≤ 200 ∧ n.par.hash.length ≤ 200 ∧ n.par.late.length ≤ 60
instance (n : Node) : Decidable n.Small := by unfold Node.Small; exact inferInstance
theorem Node.Small.fit {n : Node} (h : n.Small) : n.Fit := by
  obtain ⟨h1, h2, h3, h4, h5, h6, h7, h8⟩ := h
  exact ⟨⟨by omega, by omega, by omega, by omega, by omega⟩, by omega, by omega, by omega⟩
namespace Nd
end Nd
end Go.Proofs.Ytpgalbgonmclaaa

namespace Go.Proofs.Ytpgalbgonmclaaa
open Go.RowKit
attribute [local irreducible] Y Ef WL WC WK WQ WM OpM WN WF OpN WJ OpJ
open Wire Nd
theorem leafN_zero {l : Leaf} : (⟨0, l, Par.zero⟩ : Node) = Node.zero ↔ l = Leaf.zero := ⟨fun h => congrArg Node.leaf h, fun h => by rw [h]; rfl⟩
end Go.Proofs.Ytpgalbgonmclaaa
