/- From a row's reading of a byte slice to the walk's word for it. No conditions beyond the row's own. -/
import Derived.Test.YtjllhimhiekchaaChecked
import Derived.Test.YtjllhimhiekchaaLib
import Derived.ProofKit
import Derived.OpenShut
import Derived.ShutString
import Derived.ChangeOld
/- The seat's own element types, and bytes that a call owns. No conditions; no statement on the program's functions. -/
namespace Go.Proofs.Ytjllhimhiekchaa
open Go.RowKit

theorem eltB : Elt Try.prog 22 5 1 := Elt.of Try.underlying22 (z := .int .u8 0) (by kernel_rfl) rfl

/-- Bytes that a call owns: their row lies at a block's head, from block 'base' on. -/
def Own (w : World) (base : Nat) (A : Option Addr) (n c : Nat) (xs : List UInt8) : Prop := w.ownsRow base 5 1 (.slice A n c) n (xs.map bv)
section
variable {w w' : World} {base n c : Nat} {A : Option Addr} {xs ys : List UInt8}
theorem Own.app (h : w.ownsRow base 5 1 (.slice A n c) n (xs.map bv ++ ys.map bv)) : Own w base A n c (xs ++ ys) := by
  unfold Own; rw [List.map_append]; exact h
theorem Own.len (h : Own w base A n c xs) : xs.length = n := by have := h.1; simpa using this
theorem Own.bs (h : Own w base A n c xs) : Bs w A n xs := ⟨h.len, own_at h⟩
theorem Own.congr {n' : Nat} {ys : List UInt8} (h : Own w base A n c xs) (hn : n = n') (hx : xs = ys) : Own w base A n' c ys := by subst hn; subst hx; exact h
theorem Own.empty (w : World) (base : Nat) : Own w base none 0 0 [] := World.ownsRow_nil _ _ _ _
theorem Own.lit (w : World) (hb : base ≤ w.heap.size) (x : UInt8) : Own (w.alloc (.cells #[.int .u8 (x.toNat : Int)] 5)) base (some ⟨w.heap.size, 0, none⟩) 1 1 [x] :=
  World.ownsRow_lit w #[.int .u8 (x.toNat : Int)] 1 hb (by unfold maxLen; omega) rfl
theorem Own.alloc (h : Own w base A n c xs) (o : Obj) : Own (w.alloc o) base A n c xs := World.ownsRow.alloc h o
theorem Own.drewN (h : Own w base A n c xs) (k : Nat) : Own (w.drewN k) base A n c xs := h
theorem Own.below (h : Own w base A n c xs) {w' : World} (hb : Below w.heap.size w w') : Own w' base A n c xs :=
  World.ownsRow.kept (row := none) h ⟨hb.os, hb.tape, hb.output, hb.size, fun k hk _ => hb.block k hk⟩ (by cases A with | none => exact .inl rfl | some a => exact .inr (by simp [Value.ownBlock]))
theorem Own.lower (h : Own w base A n c xs) {b : Nat} (hb : b ≤ base) : Own w b A n c xs := by
  refine ⟨h.1, ?_⟩
  rcases h.2 with h | ⟨g, cap, cur, hv, hg, r⟩
  · exact .inl h
  · exact .inr ⟨g, cap, cur, hv, by omega, r⟩
end
end Go.Proofs.Ytjllhimhiekchaa

namespace Go.Proofs.Ytjllhimhiekchaa
open Go.ChangeShapes Go.WideShapes Go.ChangeAt Go.RowKit

theorem own : ownKnob Try.prog.godebug = none := by kernel_rfl
theorem laidOut : laidOutB Try.prog = true := by kernel_rfl

theorem u8_back {z : Int} (h : (Lit.int .u8 z).wf = true) : Value.int .u8 z = bv (UInt8.ofNat z.toNat) := by
  have hb : 0 ≤ z ∧ z ≤ 255 := bounds_u8 h
  unfold bv
  rw [UInt8.toNat_ofNat']
  congr 1
  omega

/-- A byte slice that came in: it reads as some bytes, and its length is an int's. -/
theorem open_bytes {H : Type} {enc : TypeId × Value → H} {W : World} {base : Nat} {spare : Nat → Bool} {held : Bool} {a : Option Addr} {len cap : Nat} {d : DataW H} {p : List MemPlace}
    (h : DataW.Trod enc Try.prog W base spare held 22 (.slice a len cap) d p) : (∃ xs, Bs W a len xs) ∧ len ≤ maxLen := by
  obtain ⟨fuel, hf⟩ := h
  rcases open_ints Try.underlying22 Try.underlying5 (by kernel_rfl) hf with ⟨hcs, _⟩ | ⟨x, l, c, zs, hcs, _, hl, hm, hz, _, hcell, hwz⟩
  · simp [Value.cells] at hcs
    obtain ⟨rfl, rfl, rfl⟩ := hcs
    exact ⟨⟨[], rfl, At.nil⟩, by unfold maxLen; omega⟩
  · simp [Value.cells] at hcs
    obtain ⟨rfl, rfl, rfl⟩ := hcs
    refine ⟨⟨(zs.take len).map fun z => UInt8.ofNat z.toNat, by have hz' : len ≤ zs.length := (by have h := hz; split at h <;> omega); simp; omega, At.of_add fun j u hu => ?_⟩, by unfold maxLen at hm ⊢; omega⟩
    simp only [List.map_map, List.getElem?_map, Option.map_eq_some_iff, Function.comp_apply] at hu
    obtain ⟨z, hz1, rfl⟩ := hu
    rw [List.getElem?_take] at hz1
    split at hz1
    · obtain ⟨hlt, hz2⟩ := List.getElem?_eq_some_iff.1 hz1
      have hw := hwz z (List.mem_of_getElem? hz1)
      rw [hcell j hlt, ← u8_back hw]
      simp [hlt, hz2]
    · cases hz1
section
variable {H : Type} {enc : TypeId × Value → H} {W : World} {base : Nat} {spare : Nat → Bool} {held : Bool}
end
end Go.Proofs.Ytjllhimhiekchaa
