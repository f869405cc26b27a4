/- From a row's reading of a node, a leaf or ints to the walk's word for them. No conditions beyond the row's own. -/
import Derived.Test.YtopimmomkapdoaaRow
import Derived.Test.YtopimmomkapdoaaNdA
namespace Go.Proofs.Ytopimmomkapdoaa
open Go.ChangeShapes Go.WideShapes Go.ChangeAt Go.RowKit
section
variable {H : Type} {enc : TypeId × Value → H} {W : World} {base : Nat} {spare : Nat → Bool} {held : Bool}
theorem trod_ints {fuel : Nat} {cs : List Value} {x : DataW H × List MemPlace} (h : DataW.trod enc Try.prog W base spare held fuel 26 cs = some x) : ∃ a n c zs, cs = [.slice a n c] ∧ Zs W a n zs ∧ n ≤ maxLen := by
  rcases open_ints Try.underlying26 Try.underlying3 (by kernel_rfl) h with ⟨hcs, _⟩ | ⟨x, l, c, zs, hcs, _, hl, hm, hz, _, hcell, hwz⟩
  · exact ⟨none, 0, 0, [], hcs, Zs.nil W none, by unfold maxLen; omega⟩
  · have hz' : l ≤ zs.length := (by have h := hz; split at h <;> omega)
    refine ⟨some x, l, c, zs.take l, hcs, ⟨by simp; omega, At.of_add fun j u hu => ?_, fun z h => ?_⟩, by unfold maxLen at hm ⊢; omega⟩
    · simp only [List.getElem?_map, Option.map_eq_some_iff] at hu
      obtain ⟨z, hz1, rfl⟩ := hu
      rw [List.getElem?_take] at hz1
      split at hz1
      · obtain ⟨hlt, hz2⟩ := List.getElem?_eq_some_iff.1 hz1
        rw [hcell j hlt]
        simp [hlt, hz2, zv]
      · cases hz1
    · have hw := hwz z (List.mem_of_mem_take h)
      simpa [Lit.wf, IntKind.min, IntKind.max, IntKind.bits, IntKind.signed] using hw
theorem sub_at {cs : List Value} {o k i : Nat} {v : Value} (hi : i < k) (h : ((cs.drop o).take k)[i]? = some v) : cs[o + i]? = some v := by
  rwa [List.getElem?_take_of_lt hi, List.getElem?_drop] at h
theorem trod_leaf {fuel : Nat} {cs : List Value} {x : DataW H × List MemPlace} (h : DataW.trod enc Try.prog W base spare held fuel 25 cs = some x) :
    cs.length = 6 ∧ ∃ (h0 h1 h2 h4 h5 : Hd) (l : Leaf), (∀ i, i < 6 → cs[i]? = (leafV h0 h1 h2 l.src h4 h5)[i]?) ∧ l.src < 256 ∧ BsH W h0 l.box ∧ BsH W h1 l.sign ∧ BsH W h2 l.ident ∧ BsH W h4 l.parent ∧ BsH W h5 l.sig := by
  obtain ⟨fuel', hl, hfs⟩ := trod_struct Try.underlying25 h
  have hc : Try.prog.cellsOf 25 = 6 := by kernel_rfl
  rw [hc] at hl
  have c1 : Try.prog.cellsOf 22 = 1 := by kernel_rfl
  have c2 : Try.prog.cellsOf 5 = 1 := by kernel_rfl
  obtain ⟨y0, t0⟩ := hfs 0 _ rfl
  obtain ⟨y1, t1⟩ := hfs 1 _ rfl
  obtain ⟨y2, t2⟩ := hfs 2 _ rfl
  obtain ⟨y3, t3⟩ := hfs 3 _ rfl
  obtain ⟨y4, t4⟩ := hfs 4 _ rfl
  obtain ⟨y5, t5⟩ := hfs 5 _ rfl
  obtain ⟨A0, n0, k0, x0, e0, b0, _⟩ := trod_bytes t0
  obtain ⟨A1, n1, k1, x1, e1, b1, _⟩ := trod_bytes t1
  obtain ⟨A2, n2, k2, x2, e2, b2, _⟩ := trod_bytes t2
  obtain ⟨N, e3, m3⟩ := trod_u8 t3
  obtain ⟨A4, n4, k4, x4, e4, b4, _⟩ := trod_bytes t4
  obtain ⟨A5, n5, k5, x5, e5, b5, _⟩ := trod_bytes t5
  have q0 := take1 (i := 0) c1 e0
  have q1 := take1 (i := 1) c1 e1
  have q2 := take1 (i := 2) c1 e2
  have q3 := take1 (i := 3) c2 e3
  have q4 := take1 (i := 4) c1 e4
  have q5 := take1 (i := 5) c1 e5
  refine ⟨hl, ⟨A0, n0, k0⟩, ⟨A1, n1, k1⟩, ⟨A2, n2, k2⟩, ⟨A4, n4, k4⟩, ⟨A5, n5, k5⟩, ⟨x0, x1, x2, N, x4, x5⟩, fun i hi => ?_, m3, b0, b1, b2, b4, b5⟩
  match i with
  | 0 => exact q0
  | 1 => exact q1
  | 2 => exact q2
  | 3 => exact q3
  | 4 => exact q4
  | 5 => exact q5
  | i + 6 => omega
theorem trod_par {fuel : Nat} {cs : List Value} {x : DataW H × List MemPlace} (h : DataW.trod enc Try.prog W base spare held fuel 28 cs = some x) :
    cs.length = 3 ∧ ∃ (h0 h1 h2 : Hd) (p : Par), (∀ i, i < 3 → cs[i]? = (parV h0 h1 h2)[i]?) ∧ BsH W h0 p.box ∧ BsH W h1 p.hash ∧ ZsH W h2 p.late := by
  obtain ⟨fuel', hl, hfs⟩ := trod_struct Try.underlying28 h
  have hc : Try.prog.cellsOf 28 = 3 := by kernel_rfl
  rw [hc] at hl
  have c1 : Try.prog.cellsOf 22 = 1 := by kernel_rfl
  have c2 : Try.prog.cellsOf 26 = 1 := by kernel_rfl
  obtain ⟨y0, t0⟩ := hfs 0 _ rfl
  obtain ⟨y1, t1⟩ := hfs 1 _ rfl
  obtain ⟨y2, t2⟩ := hfs 2 _ rfl
  obtain ⟨A0, n0, k0, x0, e0, b0, _⟩ := trod_bytes t0
  obtain ⟨A1, n1, k1, x1, e1, b1, _⟩ := trod_bytes t1
  obtain ⟨A2, n2, k2, x2, e2, b2, _⟩ := trod_ints t2
  have q0 := take1 (i := 0) c1 e0
  have q1 := take1 (i := 1) c1 e1
  have q2 := take1 (i := 2) c2 e2
  refine ⟨hl, ⟨A0, n0, k0⟩, ⟨A1, n1, k1⟩, ⟨A2, n2, k2⟩, ⟨x0, x1, x2⟩, fun i hi => ?_, b0, b1, b2⟩
  match i with
  | 0 => exact q0
  | 1 => exact q1
  | 2 => exact q2
  | i + 3 => omega
theorem open_leaf {v : Value} {d : DataW H} {p : List MemPlace} (h : DataW.Trod enc Try.prog W base spare held 25 v d p) : ∃ cs x, v = .agg cs ∧ LeafAt W cs x := by
  obtain ⟨fuel, hf⟩ := h
  obtain ⟨hl, h0, h1, h2, h4, h5, l, hcs, hs, b0, b1, b2, b4, b5⟩ := trod_leaf hf
  have e : v.cells.toList = (leafV h0 h1 h2 l.src h4 h5).toList := by
    apply List.ext_getElem?
    intro i
    by_cases hi : i < 6
    · rw [hcs i hi, Array.getElem?_toList]
    · rw [List.getElem?_eq_none (by omega), List.getElem?_eq_none (show 6 ≤ i by omega)]
  exact ⟨_, l, agg_of e (show 6 ≠ 1 by omega), h0, h1, h2, h4, h5, rfl, hs, b0, b1, b2, b4, b5⟩
theorem open_node {v : Value} {d : DataW H} {p : List MemPlace} (h : DataW.Trod enc Try.prog W base spare held 30 v d p) : ∃ cs x, v = .agg cs ∧ NodeAt W cs x := by
  obtain ⟨fuel, hf⟩ := h
  obtain ⟨fuel', hl, hfs⟩ := trod_struct Try.underlying30 hf
  have hc : Try.prog.cellsOf 30 = 10 := by kernel_rfl
  rw [hc] at hl
  have c0 : Try.prog.cellsOf 5 = 1 := by kernel_rfl
  have c1 : Try.prog.cellsOf 25 = 6 := by kernel_rfl
  have c2 : Try.prog.cellsOf 28 = 3 := by kernel_rfl
  obtain ⟨y0, t0⟩ := hfs 0 _ rfl
  obtain ⟨y1, t1⟩ := hfs 1 _ rfl
  obtain ⟨y2, t2⟩ := hfs 2 _ rfl
  obtain ⟨N, e0, m0⟩ := trod_u8 t0
  have q0 := take1 (i := 0) c0 e0
  obtain ⟨_, h0, h1, h2, h4, h5, l, hcs, hs, b0, b1, b2, b4, b5⟩ := trod_leaf t1
  obtain ⟨_, p0, p1, p2, q, hps, d0, d1, d2⟩ := trod_par t2
  have e : v.cells.toList = (nodeV N h0 h1 h2 l.src h4 h5 p0 p1 p2).toList := by
    apply List.ext_getElem?
    intro i
    match i with
    | 0 => exact q0
    | 1 => exact sub_at (o := 1) (i := 0) (show 0 < Try.prog.cellsOf 25 by rw [c1]; omega) (hcs 0 (by omega))
    | 2 => exact sub_at (o := 1) (i := 1) (show 1 < Try.prog.cellsOf 25 by rw [c1]; omega) (hcs 1 (by omega))
    | 3 => exact sub_at (o := 1) (i := 2) (show 2 < Try.prog.cellsOf 25 by rw [c1]; omega) (hcs 2 (by omega))
    | 4 => exact sub_at (o := 1) (i := 3) (show 3 < Try.prog.cellsOf 25 by rw [c1]; omega) (hcs 3 (by omega))
    | 5 => exact sub_at (o := 1) (i := 4) (show 4 < Try.prog.cellsOf 25 by rw [c1]; omega) (hcs 4 (by omega))
    | 6 => exact sub_at (o := 1) (i := 5) (show 5 < Try.prog.cellsOf 25 by rw [c1]; omega) (hcs 5 (by omega))
    | 7 => exact sub_at (o := 7) (i := 0) (show 0 < Try.prog.cellsOf 28 by rw [c2]; omega) (hps 0 (by omega))
    | 8 => exact sub_at (o := 7) (i := 1) (show 1 < Try.prog.cellsOf 28 by rw [c2]; omega) (hps 1 (by omega))
    | 9 => exact sub_at (o := 7) (i := 2) (show 2 < Try.prog.cellsOf 28 by rw [c2]; omega) (hps 2 (by omega))
    | i + 10 => rw [List.getElem?_eq_none (by omega), List.getElem?_eq_none (show 10 ≤ i + 10 by omega)]
  exact ⟨_, ⟨N, l, q⟩, agg_of e (show 10 ≠ 1 by omega), h0, h1, h2, h4, h5, p0, p1, p2, rfl, m0, hs, b0, b1, b2, b4, b5, d0, d1, d2⟩
end
end Go.Proofs.Ytopimmomkapdoaa
