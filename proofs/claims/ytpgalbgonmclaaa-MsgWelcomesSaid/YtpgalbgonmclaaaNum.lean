/- Slices of numbers: read, and owned by the call. No conditions. -/
import Derived.Test.YtpgalbgonmclaaaRow
import Derived.Test.YtpgalbgonmclaaaLib
namespace Go.Proofs.Ytpgalbgonmclaaa
open Go.RowKit

/-- The numbers at an address. -/
def Ns (k : IntKind) (w : World) (A : Option Addr) (n : Nat) (xs : List Nat) : Prop := xs.length = n ∧ At w A (xs.map (iv k))
section
variable {k : IntKind} {w w' : World} {A : Option Addr} {n : Nat} {xs : List Nat}
theorem Ns.get (h : Ns k w A n xs) {i : Nat} (hi : i < n) : ∃ b off x, A = some ⟨b, off, none⟩ ∧ Hid (x = xs.getD i 0) ∧ b < w.heap.size ∧ w.cell? ⟨b, off + i, none⟩ = some (.int k (x : Int)) := by
  have hl : i < xs.length := by rw [h.1]; exact hi
  obtain ⟨b, off, e, hb, hc⟩ := h.2.get (k := i) (by simpa using hl)
  exact ⟨b, off, _, e, rfl, hb, by simpa [iv, hl] using hc⟩
theorem Ns.below (h : Ns k w A n xs) (hb : Below w.heap.size w w') : Ns k w' A n xs := ⟨h.1, h.2.below hb⟩
theorem Ns.grown {g : Nat} (h : Ns k w A n xs) (hg : w.grownBy w' (some g)) (hne : ∀ b off, A = some ⟨b, off, none⟩ → b ≠ g) : Ns k w' A n xs := by
  refine ⟨h.1, ?_⟩
  rcases h.2 with h0 | ⟨b, off, hA, hc⟩
  · exact .inl h0
  · exact .inr ⟨b, off, hA, fun j u hu => hg.cell (hc j u hu) (by simpa using hne b off hA)⟩
theorem Ns.one (w : World) (t : TypeId) {x : Nat} {v : Value} (h : v = .int k (x : Int)) : Ns k (w.alloc (.cells #[v] t)) (some ⟨w.heap.size, 0, none⟩) 1 [x] := by
  subst h; exact ⟨rfl, At.of_add (cell_one_new _ _ _)⟩
end

/-- Numbers that a call owns. -/
def OwnN (w : World) (base : Nat) (A : Option Addr) (n c : Nat) (xs : List Nat) : Prop := w.ownsRow base 46 1 (.slice A n c) n (xs.map (iv .u64))
section
variable {w w' : World} {base n c : Nat} {A : Option Addr} {xs ys : List Nat}
theorem OwnN.app (h : w.ownsRow base 46 1 (.slice A n c) n (xs.map (iv .u64) ++ ys.map (iv .u64))) : OwnN w base A n c (xs ++ ys) := by
  unfold OwnN; rw [List.map_append]; exact h
theorem OwnN.len (h : OwnN w base A n c xs) : xs.length = n := by have := h.1; simpa using this
theorem OwnN.congr {n' : Nat} {ys : List Nat} (h : OwnN w base A n c xs) (hn : n = n') (hx : xs = ys) : OwnN w base A n' c ys := by subst hn; subst hx; exact h
theorem OwnN.empty (w : World) (base : Nat) : OwnN w base none 0 0 [] := World.ownsRow_nil _ _ _ _
theorem OwnN.alloc (h : OwnN w base A n c xs) (o : Obj) : OwnN (w.alloc o) base A n c xs := World.ownsRow.alloc h o
theorem OwnN.below (h : OwnN w base A n c xs) (hb : Below w.heap.size w w') : OwnN w' base A n c xs :=
  World.ownsRow.kept (row := none) h ⟨hb.os, hb.tape, hb.output, hb.size, fun k hk _ => hb.block k hk⟩ (by cases A with | none => exact .inl rfl | some a => exact .inr (by simp [Value.ownBlock]))
theorem OwnN.set {g : Nat} (h : OwnN w base (some ⟨g, 0, none⟩) n c xs) (i : Nat) {v : Value} {x : Nat} (hv : v = .int .u64 (x : Int)) : OwnN (w.setCell ⟨g, i, none⟩ v) base (some ⟨g, 0, none⟩) n c (xs.set i x) ∧ w.grownBy (w.setCell ⟨g, i, none⟩ v) (some g) := by
  subst hv
  obtain ⟨h1, h2⟩ := World.ownsRow.stored h i (.int .u64 (x : Int))
  refine ⟨?_, h2⟩
  unfold OwnN
  rw [List.map_set]
  exact h1
end
end Go.Proofs.Ytpgalbgonmclaaa
