/- From a row's reading of a package or a proposal to the walk's word for it. No conditions beyond the row's own. -/
import Derived.Test.YtpgalbgonmclaaaGreatNdB
import Derived.Test.YtpgalbgonmclaaaGreatMsA
namespace Go.Proofs.YtpgalbgonmclaaaGreat
open Go.ChangeShapes Go.WideShapes Go.ChangeAt Go.RowKit
section
variable {H : Type} {enc : TypeId × Value → H} {W : World} {base : Nat} {spare : Nat → Bool} {held : Bool}
theorem trod_pack {fuel : Nat} {cs : List Value} {x : DataW H × List MemPlace} (h : DataW.trod enc Tryz.prog W base spare held fuel 27 cs = some x) :
    cs.length = 8 ∧ ∃ (i h0 h1 h2 h4 h5 g : Hd) (p : Pack), (∀ k, k < 8 → cs[k]? = (packV i h0 h1 h2 p.leaf.src h4 h5 g)[k]?) ∧ p.leaf.src < 256 ∧ BsH W i p.init ∧ BsH W h0 p.leaf.box ∧ BsH W h1 p.leaf.sign ∧ BsH W h2 p.leaf.ident ∧ BsH W h4 p.leaf.parent ∧ BsH W h5 p.leaf.sig ∧ BsH W g p.sig := by
  obtain ⟨fuel', hl, hfs⟩ := trod_struct Tryz.underlying27 h
  have hc : Tryz.prog.cellsOf 27 = 8 := by kernel_rfl
  rw [hc] at hl
  have c1 : Tryz.prog.cellsOf 22 = 1 := by kernel_rfl
  have c2 : Tryz.prog.cellsOf 25 = 6 := by kernel_rfl
  obtain ⟨y0, t0⟩ := hfs 0 _ rfl
  obtain ⟨y1, t1⟩ := hfs 1 _ rfl
  obtain ⟨y2, t2⟩ := hfs 2 _ rfl
  obtain ⟨A0, n0, k0, x0, e0, d0, _⟩ := trod_bytes t0
  obtain ⟨_, h0, h1, h2, h4, h5, l, hcs, hs, b0, b1, b2, b4, b5⟩ := trod_leaf t1
  obtain ⟨A2, n2, k2, x2, e2, d2, _⟩ := trod_bytes t2
  have q0 := take1 (i := 0) c1 e0
  have q2 := take1 (i := 7) c1 e2
  refine ⟨hl, ⟨A0, n0, k0⟩, h0, h1, h2, h4, h5, ⟨A2, n2, k2⟩, ⟨x0, l, x2⟩, fun k hk => ?_, hs, d0, b0.1, b1.1, b2.1, b4.1, b5.1, d2⟩
  match k with
  | 0 => exact q0
  | 1 => exact sub_at (o := 1) (i := 0) (show 0 < Tryz.prog.cellsOf 25 by rw [c2]; omega) (hcs 0 (by omega))
  | 2 => exact sub_at (o := 1) (i := 1) (show 1 < Tryz.prog.cellsOf 25 by rw [c2]; omega) (hcs 1 (by omega))
  | 3 => exact sub_at (o := 1) (i := 2) (show 2 < Tryz.prog.cellsOf 25 by rw [c2]; omega) (hcs 2 (by omega))
  | 4 => exact sub_at (o := 1) (i := 3) (show 3 < Tryz.prog.cellsOf 25 by rw [c2]; omega) (hcs 3 (by omega))
  | 5 => exact sub_at (o := 1) (i := 4) (show 4 < Tryz.prog.cellsOf 25 by rw [c2]; omega) (hcs 4 (by omega))
  | 6 => exact sub_at (o := 1) (i := 5) (show 5 < Tryz.prog.cellsOf 25 by rw [c2]; omega) (hcs 5 (by omega))
  | 7 => exact q2
  | k + 8 => omega
end
end Go.Proofs.YtpgalbgonmclaaaGreat
