/- From a row's reading of a byte slice to the walk's word for it. No conditions beyond the row's own. -/
import Derived.Test.YtgfafidlkldeaaaGreatChecked
import Derived.Test.YtgfafidlkldeaaaGreatLib
import Derived.ProofKit
import Derived.OpenShut
import Derived.ShutString
import Derived.ChangeOld
set_option linter.unusedVariables false
set_option linter.unusedSimpArgs false
namespace Go.Proofs.YtgfafidlkldeaaaGreat
section
open Go.RowKit
theorem bF : vm Tryz.prog 23 5 1 := vm.of Tryz.underlying23 (z := .int .u8 0) Kr rfl
def Own (w : World) (base : Nat) (A : Oa) (n c : Nat) (xs : Lb) : Prop := w.ownsRow base 5 1 (.slice A n c) n (xs.map bv)
section
variable {w w' : World} {base n c : Nat} {A : Oa} {xs ys : Lb}
theorem Own.app (h : w.ownsRow base 5 1 (.slice A n c) n (xs.map bv ++ ys.map bv)) : Own w base A n c (xs ++ ys) := by
 unfold Own; rw [List.map_append]; exact h
theorem Own.len (h : Own w base A n c xs) : xs.length = n := by have := h.1; simpa using this
theorem Own.bs (h : Own w base A n c xs) : Bs w A n xs := ⟨h.len, Cn h⟩
theorem Own.congr {n' : Nat} {ys : Lb} (h : Own w base A n c xs) (hn : n = n') (hx : xs = ys) : Own w base A n' c ys := by subst hn; subst hx; exact h
theorem Own.empty (w : World) (base : Nat) : Own w base none 0 0 [] := World.ownsRow_nil _ _ _ _
theorem Own.lit (w : World) (hb : base ≤ w.heap.size) (x : UInt8) : Own (w.alloc (.cells #[.int .u8 (x.toNat : Int)] 5)) base (some ⟨w.heap.size, 0, none⟩) 1 1 [x] :=
 World.ownsRow_lit w #[.int .u8 (x.toNat : Int)] 1 hb (by unfold maxLen; omega) rfl
theorem Own.alloc (h : Own w base A n c xs) (o : Obj) : Own (w.alloc o) base A n c xs := World.ownsRow.alloc h o
theorem Own.below (h : Own w base A n c xs) {w' : World} (hb : Below w.heap.size w w') : Own w' base A n c xs :=
 World.ownsRow.kept (row := none) h ⟨hb.os, hb.tape, hb.output, hb.size, fun k hk _ => hb.block k hk⟩ (by cases A with | none => exact .inl rfl | some a => exact .inr (by simp [Value.ownBlock]))
theorem Own.lower (h : Own w base A n c xs) {b : Nat} (hb : b ≤ base) : Own w b A n c xs := by
 refine ⟨h.1, ?_⟩
 rcases h.2 with h | ⟨g, cap, cur, hv, hg, r⟩
 ·exact .inl h
 ·exact .inr ⟨g, cap, cur, hv, by omega, r⟩
end
end
section
open Go.ChangeShapes Go.WideShapes Go.ChangeAt Go.RowKit
theorem own : ownKnob Tryz.prog.godebug = none := by kernel_rfl
theorem laidOut : laidOutB Tryz.prog = true := by kernel_rfl
theorem Hj {z : Int} (h : (Lit.int .u8 z).wf = true) : Value.int .u8 z = bv (UInt8.ofNat z.toNat) := by
 have hb : 0 ≤ z ∧ z ≤ 255 := bounds_u8 h
 unfold bv
 rw [UInt8.toNat_ofNat']
 congr 1
 omega
theorem iK {H : Type} {enc : TypeId × Value → H} {W : World} {base : Nat} {spare : Nat → Bool} {held : Bool} {a : Oa} {len cap : Nat} {d : DataW H} {p : List MemPlace}
  (h : DataW.Trod enc Tryz.prog W base spare held 23 (.slice a len cap) d p) : (∃ xs, Bs W a len xs) ∧ len ≤ maxLen := by
 obtain ⟨fuel, hf⟩ := h
 rcases open_ints Tryz.underlying23 Tryz.underlying5 Kr hf with ⟨hcs, _⟩ | ⟨x, l, c, zs, hcs, _, hl, hm, hz, _, hcell, hwz⟩
 ·simp [Value.cells] at hcs
  obtain ⟨rfl, rfl, rfl⟩ := hcs
  exact ⟨⟨[], rfl, At.nil⟩, by unfold maxLen; omega⟩
 ·simp [Value.cells] at hcs
  obtain ⟨rfl, rfl, rfl⟩ := hcs
  refine ⟨⟨(zs.take len).map fun z => UInt8.ofNat z.toNat, by have hz' : len ≤ zs.length := (by have h := hz; split at h <;> omega); simp; omega, At.ov fun j u hu => ?_⟩, by unfold maxLen at hm ⊢; omega⟩
  simp only [List.map_map, List.getElem?_map, Option.map_eq_some_iff, Function.comp_apply] at hu
  obtain ⟨z, hz1, rfl⟩ := hu
  rw [List.getElem?_take] at hz1
  split at hz1
  ·obtain ⟨hlt, hz2⟩ := List.getElem?_eq_some_iff.1 hz1
   have hw := hwz z (List.mem_of_getElem? hz1)
   rw [hcell j hlt, ← Hj hw]
   simp [hlt, hz2]
  ·cases hz1
theorem nC {H : Type} {enc : TypeId × Value → H} {W : World} {base : Nat} {spare : Nat → Bool} {held : Bool} {a : Oa} {len cap : Nat} {d : DataW H} {p : List MemPlace}
  (h : DataW.Trod enc Tryz.prog W base spare held 23 (.slice a len cap) d p) : (∃ xs, Bs W a len xs) ∧ len ≤ maxLen ∧ len ≤ cap := by
 obtain ⟨h1, h2⟩ := iK h
 refine ⟨h1, h2, ?_⟩
 obtain ⟨fuel, hf⟩ := h
 rcases open_ints Tryz.underlying23 Tryz.underlying5 Kr hf with ⟨hcs, _⟩ | ⟨x, l, c, zs, hcs, _, hl, _⟩
 ·simp [Value.cells] at hcs
  omega
 ·simp [Value.cells] at hcs
  omega
theorem tx {α β : Type} {f : α → Option β} : ∀ {l : List α} {ys : List β}, l.mapM f = some ys → ∀ a ∈ l, ∃ b, f a = some b
  | [], _, _, a, ha => by cases ha
  | x :: l, ys, h, a, ha => by
    rw [List.mapM_cons] at h
    cases hx : f x with
    | none => simp [hx] at h
    | some y =>
      cases hl : l.mapM f with
      | none => simp [hx, hl] at h
      | some zs =>
        rcases List.mem_cons.1 ha with rfl | ha
        · exact ⟨y, hx⟩
        · exact tx hl a ha
section
variable {H : Type} {enc : TypeId × Value → H} {W : World} {base : Nat} {spare : Nat → Bool} {held : Bool}
theorem trod_struct {t : TypeId} {fs : Array Field} {fuel : Nat} {cs : List Value} {x : DataW H × List MemPlace} (hu : Tryz.prog.underlying t = some (.struct fs)) (h : DataW.trod enc Tryz.prog W base spare held fuel t cs = some x) :
    ∃ fuel', cs.length = Tryz.prog.cellsOf t ∧ ∀ (i : Nat) (f : Field), fs[i]? = some f → ∃ y, DataW.trod enc Tryz.prog W base spare held fuel' f.type ((cs.drop f.offset).take (Tryz.prog.cellsOf f.type)) = some y := by
  cases fuel with
  | zero => simp [DataW.trod] at h
  | succ fuel =>
    simp only [DataW.trod, hu] at h
    split at h
    · rename_i hl
      refine ⟨fuel, hl, fun i f hf => ?_⟩
      cases hm : (fs.toList.mapM fun f => DataW.trod enc Tryz.prog W base spare held fuel f.type ((cs.drop f.offset).take (Tryz.prog.cellsOf f.type))) with
      | none => simp [hm] at h
      | some ys => exact tx hm f (by rw [← Array.getElem?_toList] at hf; exact List.mem_of_getElem? hf)
    · cases h
theorem bR {fuel : Nat} {cs : List Value} {x : DataW H × List MemPlace} (h : DataW.trod enc Tryz.prog W base spare held fuel 23 cs = some x) : ∃ a n c xs, cs = [.slice a n c] ∧ Bs W a n xs ∧ n ≤ maxLen := by
 have h' := h
 rcases open_ints Tryz.underlying23 Tryz.underlying5 Kr h with ⟨hcs, _⟩ | ⟨x, l, c, zs, hcs, _⟩
 ·obtain ⟨⟨xs, hb⟩, hm⟩ := iK (a := none) (len := 0) (cap := 0) ⟨fuel, by simpa [Value.cells, hcs] using h'⟩
  exact ⟨none, 0, 0, xs, hcs, hb, hm⟩
 ·obtain ⟨⟨xs, hb⟩, hm⟩ := iK (a := some x) (len := l) (cap := c) ⟨fuel, by simpa [Value.cells, hcs] using h'⟩
  exact ⟨some x, l, c, xs, hcs, hb, hm⟩
theorem DM {fuel : Nat} {cs : List Value} {x : DataW H × List MemPlace} (h : DataW.trod enc Tryz.prog W base spare held fuel 38 cs = some x) : ∃ n : Nat, cs = [.int .u64 (n : Int)] ∧ n < 18446744073709551616 := by
  cases fuel with
  | zero => simp [DataW.trod] at h
  | succ fuel =>
    simp only [DataW.trod, Tryz.underlying38] at h
    split at h <;> first | (rename_i hk; cases hk; done) | (rename_i hk _; cases hk; done) | skip
    all_goals first
      | (cases h; done)
      | (split at h
         · rename_i k hk2 k2 z hk1 hw
           injection hk1 with hk1
           injection hk1 with hk1
           subst hk1
           obtain ⟨rfl, hw⟩ := hw
           have hz : 0 ≤ z ∧ z ≤ 18446744073709551615 := by simpa [Lit.wf, IntKind.min, IntKind.max, IntKind.bits, IntKind.signed] using hw
           obtain ⟨N, rfl⟩ : ∃ N : Nat, z = N := Int.eq_ofNat_of_zero_le hz.1
           exact ⟨N, rfl, by omega⟩
         · cases h)
theorem yD {fuel : Nat} {cs : List Value} {x : DataW H × List MemPlace} (h : DataW.trod enc Tryz.prog W base spare held fuel 5 cs = some x) : ∃ n : Nat, cs = [.int .u8 (n : Int)] ∧ n < 256 := by
  cases fuel with
  | zero => simp [DataW.trod] at h
  | succ fuel =>
    simp only [DataW.trod, Tryz.underlying5] at h
    split at h <;> first | (rename_i hk; cases hk; done) | (rename_i hk _; cases hk; done) | skip
    all_goals first
      | (cases h; done)
      | (split at h
         · rename_i k hk2 k2 z hk1 hw
           injection hk1 with hk1
           injection hk1 with hk1
           subst hk1
           obtain ⟨rfl, hw⟩ := hw
           have hz : 0 ≤ z ∧ z ≤ 255 := by simpa [Lit.wf, IntKind.min, IntKind.max, IntKind.bits, IntKind.signed] using hw
           obtain ⟨N, rfl⟩ : ∃ N : Nat, z = N := Int.eq_ofNat_of_zero_le hz.1
           exact ⟨N, rfl, by omega⟩
         · cases h)
theorem wX {v : Value} {cs : List Value} (h : v.cells.toList = cs) (h1 : cs.length ≠ 1) : v = .agg cs.toArray := by
 cases v <;> first | (exfalso; apply h1; rw [← h]; rfl) | (simp only [Value.cells] at h; subst h; rfl)
theorem fN {cs : List Value} {i k : Nat} {v : Value} (hk : k = 1) (h : (cs.drop i).take k = [v]) : cs[i]? = some v := by
 subst hk
 have : ((cs.drop i).take 1)[0]? = some v := by rw [h]; rfl
 rwa [List.getElem?_take_of_lt Om, List.getElem?_drop, Nat.add_zero] at this
end
end
end Go.Proofs.YtgfafidlkldeaaaGreat
