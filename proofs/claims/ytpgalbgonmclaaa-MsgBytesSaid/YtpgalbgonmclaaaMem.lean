/- The seat's own element types, and bytes that a call owns. No conditions; no statement on the program's functions. -/
import Derived.Test.YtpgalbgonmclaaaChecked
import Derived.Test.YtpgalbgonmclaaaLib
namespace Go.Proofs.Ytpgalbgonmclaaa
open Go.RowKit

theorem eltB : Elt Try.prog 22 5 1 := Elt.of Try.underlying22 (z := .int .u8 0) (by kernel_rfl) rfl

/-- Bytes that a call owns: their row lies at a block's head, from block 'base' on. -/
def Own (w : World) (base : Nat) (A : Option Addr) (n c : Nat) (xs : List UInt8) : Prop := w.ownsRow base 5 1 (.slice A n c) n (xs.map bv)
section
variable {w w' : World} {base n c : Nat} {A : Option Addr} {xs ys : List UInt8}
theorem Own.len (h : Own w base A n c xs) : xs.length = n := by have := h.1; simpa using this
theorem Own.bs (h : Own w base A n c xs) : Bs w A n xs := ⟨h.len, own_at h⟩
theorem Own.congr {n' : Nat} {ys : List UInt8} (h : Own w base A n c xs) (hn : n = n') (hx : xs = ys) : Own w base A n' c ys := by subst hn; subst hx; exact h
theorem Own.empty (w : World) (base : Nat) : Own w base none 0 0 [] := World.ownsRow_nil _ _ _ _
theorem Own.alloc (h : Own w base A n c xs) (o : Obj) : Own (w.alloc o) base A n c xs := World.ownsRow.alloc h o
theorem Own.drewN (h : Own w base A n c xs) (k : Nat) : Own (w.drewN k) base A n c xs := h
theorem Own.below (h : Own w base A n c xs) {w' : World} (hb : Below w.heap.size w w') : Own w' base A n c xs :=
  World.ownsRow.kept (row := none) h ⟨hb.os, hb.tape, hb.output, hb.size, fun k hk _ => hb.block k hk⟩ (by cases A with | none => exact .inl rfl | some a => exact .inr (by simp [Value.ownBlock]))
theorem Own.lower (h : Own w base A n c xs) {b : Nat} (hb : b ≤ base) : Own w b A n c xs := by
  refine ⟨h.1, ?_⟩
  rcases h.2 with h | ⟨g, cap, cur, hv, hg, r⟩
  · exact .inl h
  · exact .inr ⟨g, cap, cur, hv, by omega, r⟩
end
end Go.Proofs.Ytpgalbgonmclaaa
