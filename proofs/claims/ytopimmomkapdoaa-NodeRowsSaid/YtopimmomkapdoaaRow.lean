/- From a row's reading of a byte slice to the walk's word for it. No conditions beyond the row's own. -/
import Derived.Test.YtopimmomkapdoaaMem
import Derived.ProofKit
import Derived.OpenShut
import Derived.ShutString
import Derived.ChangeOld
namespace Go.Proofs.Ytopimmomkapdoaa
open Go.ChangeShapes Go.WideShapes Go.ChangeAt Go.RowKit

theorem own : ownKnob Try.prog.godebug = none := by kernel_rfl
theorem laidOut : laidOutB Try.prog = true := by kernel_rfl

theorem u8_back {z : Int} (h : (Lit.int .u8 z).wf = true) : Value.int .u8 z = bv (UInt8.ofNat z.toNat) := by
  have hb : 0 ≤ z ∧ z ≤ 255 := bounds_u8 h
  unfold bv
  rw [UInt8.toNat_ofNat']
  congr 1
  omega

/-- A byte slice that came in: it reads as some bytes, and its length is an int's. -/
theorem open_bytes {H : Type} {enc : TypeId × Value → H} {W : World} {base : Nat} {spare : Nat → Bool} {held : Bool} {a : Option Addr} {len cap : Nat} {d : DataW H} {p : List MemPlace}
    (h : DataW.Trod enc Try.prog W base spare held 22 (.slice a len cap) d p) : (∃ xs, Bs W a len xs) ∧ len ≤ maxLen := by
  obtain ⟨fuel, hf⟩ := h
  rcases open_ints Try.underlying22 Try.underlying5 (by kernel_rfl) hf with ⟨hcs, _⟩ | ⟨x, l, c, zs, hcs, _, hl, hm, hz, _, hcell, hwz⟩
  · simp [Value.cells] at hcs
    obtain ⟨rfl, rfl, rfl⟩ := hcs
    exact ⟨⟨[], rfl, At.nil⟩, by unfold maxLen; omega⟩
  · simp [Value.cells] at hcs
    obtain ⟨rfl, rfl, rfl⟩ := hcs
    refine ⟨⟨(zs.take len).map fun z => UInt8.ofNat z.toNat, by have hz' : len ≤ zs.length := (by have h := hz; split at h <;> omega); simp; omega, At.of_add fun j u hu => ?_⟩, by unfold maxLen at hm ⊢; omega⟩
    simp only [List.map_map, List.getElem?_map, Option.map_eq_some_iff, Function.comp_apply] at hu
    obtain ⟨z, hz1, rfl⟩ := hu
    rw [List.getElem?_take] at hz1
    split at hz1
    · obtain ⟨hlt, hz2⟩ := List.getElem?_eq_some_iff.1 hz1
      have hw := hwz z (List.mem_of_getElem? hz1)
      rw [hcell j hlt, ← u8_back hw]
      simp [hlt, hz2]
    · cases hz1
/-- The same, with its capacity. -/
theorem open_bytesC {H : Type} {enc : TypeId × Value → H} {W : World} {base : Nat} {spare : Nat → Bool} {held : Bool} {a : Option Addr} {len cap : Nat} {d : DataW H} {p : List MemPlace}
    (h : DataW.Trod enc Try.prog W base spare held 22 (.slice a len cap) d p) : (∃ xs, Bs W a len xs) ∧ len ≤ maxLen ∧ len ≤ cap := by
  obtain ⟨h1, h2⟩ := open_bytes h
  refine ⟨h1, h2, ?_⟩
  obtain ⟨fuel, hf⟩ := h
  rcases open_ints Try.underlying22 Try.underlying5 (by kernel_rfl) hf with ⟨hcs, _⟩ | ⟨x, l, c, zs, hcs, _, hl, _⟩
  · simp [Value.cells] at hcs
    omega
  · simp [Value.cells] at hcs
    omega
end Go.Proofs.Ytopimmomkapdoaa
