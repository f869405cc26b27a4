/- From a row's reading of a byte slice to the walk's word for it. No conditions beyond the row's own. -/
import Derived.Test.YtpgalbgonmclaaaChecked
import Derived.Test.YtpgalbgonmclaaaLib
import Derived.ProofKit
import Derived.OpenShut
import Derived.ShutString
import Derived.ChangeOld
/- The seat's own element types, and bytes that a call owns. No conditions; no statement on the program's functions. -/
namespace Go.Proofs.Ytpgalbgonmclaaa
open Go.RowKit

theorem eltB : Elt Try.prog 22 5 1 := Elt.of Try.underlying22 (z := .int .u8 0) (by kernel_rfl) rfl

/-- Bytes that a call owns: their row lies at a block's head, from block 'base' on. -/
def Own (w : World) (base : Nat) (A : Option Addr) (n c : Nat) (xs : List UInt8) : Prop := w.ownsRow base 5 1 (.slice A n c) n (xs.map bv)
section
variable {w w' : World} {base n c : Nat} {A : Option Addr} {xs ys : List UInt8}
theorem Own.app (h : w.ownsRow base 5 1 (.slice A n c) n (xs.map bv ++ ys.map bv)) : Own w base A n c (xs ++ ys) := by
  unfold Own; rw [List.map_append]; exact h
theorem Own.len (h : Own w base A n c xs) : xs.length = n := by have := h.1; simpa using this
theorem Own.bs (h : Own w base A n c xs) : Bs w A n xs := ⟨h.len, own_at h⟩
theorem Own.congr {n' : Nat} {ys : List UInt8} (h : Own w base A n c xs) (hn : n = n') (hx : xs = ys) : Own w base A n' c ys := by subst hn; subst hx; exact h
theorem Own.empty (w : World) (base : Nat) : Own w base none 0 0 [] := World.ownsRow_nil _ _ _ _
theorem Own.alloc (h : Own w base A n c xs) (o : Obj) : Own (w.alloc o) base A n c xs := World.ownsRow.alloc h o
theorem Own.drewN (h : Own w base A n c xs) (k : Nat) : Own (w.drewN k) base A n c xs := h
theorem Own.below (h : Own w base A n c xs) {w' : World} (hb : Below w.heap.size w w') : Own w' base A n c xs :=
  World.ownsRow.kept (row := none) h ⟨hb.os, hb.tape, hb.output, hb.size, fun k hk _ => hb.block k hk⟩ (by cases A with | none => exact .inl rfl | some a => exact .inr (by simp [Value.ownBlock]))
theorem Own.lower (h : Own w base A n c xs) {b : Nat} (hb : b ≤ base) : Own w b A n c xs := by
  refine ⟨h.1, ?_⟩
  rcases h.2 with h | ⟨g, cap, cur, hv, hg, r⟩
  · exact .inl h
  · exact .inr ⟨g, cap, cur, hv, by omega, r⟩
end
end Go.Proofs.Ytpgalbgonmclaaa

namespace Go.Proofs.Ytpgalbgonmclaaa
open Go.ChangeShapes Go.WideShapes Go.ChangeAt Go.RowKit

theorem own : ownKnob Try.prog.godebug = none := by kernel_rfl
theorem laidOut : laidOutB Try.prog = true := by kernel_rfl

theorem u8_back {z : Int} (h : (Lit.int .u8 z).wf = true) : Value.int .u8 z = bv (UInt8.ofNat z.toNat) := by
  have hb : 0 ≤ z ∧ z ≤ 255 := bounds_u8 h
  unfold bv
  rw [UInt8.toNat_ofNat']
  congr 1
  omega

/-- A byte slice that came in: it reads as some bytes, and its length is an int's. -/
theorem open_bytes {H : Type} {enc : TypeId × Value → H} {W : World} {base : Nat} {spare : Nat → Bool} {held : Bool} {a : Option Addr} {len cap : Nat} {d : DataW H} {p : List MemPlace}
    (h : DataW.Trod enc Try.prog W base spare held 22 (.slice a len cap) d p) : (∃ xs, Bs W a len xs) ∧ len ≤ maxLen := by
  obtain ⟨fuel, hf⟩ := h
  rcases open_ints Try.underlying22 Try.underlying5 (by kernel_rfl) hf with ⟨hcs, _⟩ | ⟨x, l, c, zs, hcs, _, hl, hm, hz, _, hcell, hwz⟩
  · simp [Value.cells] at hcs
    obtain ⟨rfl, rfl, rfl⟩ := hcs
    exact ⟨⟨[], rfl, At.nil⟩, by unfold maxLen; omega⟩
  · simp [Value.cells] at hcs
    obtain ⟨rfl, rfl, rfl⟩ := hcs
    refine ⟨⟨(zs.take len).map fun z => UInt8.ofNat z.toNat, by have hz' : len ≤ zs.length := (by have h := hz; split at h <;> omega); simp; omega, At.of_add fun j u hu => ?_⟩, by unfold maxLen at hm ⊢; omega⟩
    simp only [List.map_map, List.getElem?_map, Option.map_eq_some_iff, Function.comp_apply] at hu
    obtain ⟨z, hz1, rfl⟩ := hu
    rw [List.getElem?_take] at hz1
    split at hz1
    · obtain ⟨hlt, hz2⟩ := List.getElem?_eq_some_iff.1 hz1
      have hw := hwz z (List.mem_of_getElem? hz1)
      rw [hcell j hlt, ← u8_back hw]
      simp [hlt, hz2]
    · cases hz1
/-- The same, with its capacity. -/
theorem open_bytesC {H : Type} {enc : TypeId × Value → H} {W : World} {base : Nat} {spare : Nat → Bool} {held : Bool} {a : Option Addr} {len cap : Nat} {d : DataW H} {p : List MemPlace}
    (h : DataW.Trod enc Try.prog W base spare held 22 (.slice a len cap) d p) : (∃ xs, Bs W a len xs) ∧ len ≤ maxLen ∧ len ≤ cap := by
  obtain ⟨h1, h2⟩ := open_bytes h
  refine ⟨h1, h2, ?_⟩
  obtain ⟨fuel, hf⟩ := h
  rcases open_ints Try.underlying22 Try.underlying5 (by kernel_rfl) hf with ⟨hcs, _⟩ | ⟨x, l, c, zs, hcs, _, hl, _⟩
  · simp [Value.cells] at hcs
    omega
  · simp [Value.cells] at hcs
    omega
theorem mapM_all {α β : Type} {f : α → Option β} : ∀ {l : List α} {ys : List β}, l.mapM f = some ys → ∀ a ∈ l, ∃ b, f a = some b
  | [], _, _, a, ha => by cases ha
  | x :: l, ys, h, a, ha => by
    rw [List.mapM_cons] at h
    cases hx : f x with
    | none => simp [hx] at h
    | some y =>
      cases hl : l.mapM f with
      | none => simp [hx, hl] at h
      | some zs =>
        rcases List.mem_cons.1 ha with rfl | ha
        · exact ⟨y, hx⟩
        · exact mapM_all hl a ha
section
variable {H : Type} {enc : TypeId × Value → H} {W : World} {base : Nat} {spare : Nat → Bool} {held : Bool}
/-- A struct that came in: its cells, and that each field reads as it should. -/
theorem trod_struct {t : TypeId} {fs : Array Field} {fuel : Nat} {cs : List Value} {x : DataW H × List MemPlace} (hu : Try.prog.underlying t = some (.struct fs)) (h : DataW.trod enc Try.prog W base spare held fuel t cs = some x) :
    ∃ fuel', cs.length = Try.prog.cellsOf t ∧ ∀ (i : Nat) (f : Field), fs[i]? = some f → ∃ y, DataW.trod enc Try.prog W base spare held fuel' f.type ((cs.drop f.offset).take (Try.prog.cellsOf f.type)) = some y := by
  cases fuel with
  | zero => simp [DataW.trod] at h
  | succ fuel =>
    simp only [DataW.trod, hu] at h
    split at h
    · rename_i hl
      refine ⟨fuel, hl, fun i f hf => ?_⟩
      cases hm : (fs.toList.mapM fun f => DataW.trod enc Try.prog W base spare held fuel f.type ((cs.drop f.offset).take (Try.prog.cellsOf f.type))) with
      | none => simp [hm] at h
      | some ys => exact mapM_all hm f (by rw [← Array.getElem?_toList] at hf; exact List.mem_of_getElem? hf)
    · cases h
theorem trod_bytes {fuel : Nat} {cs : List Value} {x : DataW H × List MemPlace} (h : DataW.trod enc Try.prog W base spare held fuel 22 cs = some x) : ∃ a n c xs, cs = [.slice a n c] ∧ Bs W a n xs ∧ n ≤ maxLen := by
  have h' := h
  rcases open_ints Try.underlying22 Try.underlying5 (by kernel_rfl) h with ⟨hcs, _⟩ | ⟨x, l, c, zs, hcs, _⟩
  · obtain ⟨⟨xs, hb⟩, hm⟩ := open_bytes (a := none) (len := 0) (cap := 0) ⟨fuel, by simpa [Value.cells, hcs] using h'⟩
    exact ⟨none, 0, 0, xs, hcs, hb, hm⟩
  · obtain ⟨⟨xs, hb⟩, hm⟩ := open_bytes (a := some x) (len := l) (cap := c) ⟨fuel, by simpa [Value.cells, hcs] using h'⟩
    exact ⟨some x, l, c, xs, hcs, hb, hm⟩
/-- What has more cells than one is a struct's or an array's value. -/
theorem agg_of {v : Value} {cs : List Value} (h : v.cells.toList = cs) (h1 : cs.length ≠ 1) : v = .agg cs.toArray := by
  cases v <;> first | (exfalso; apply h1; rw [← h]; rfl) | (simp only [Value.cells] at h; subst h; rfl)
end
end Go.Proofs.Ytpgalbgonmclaaa
