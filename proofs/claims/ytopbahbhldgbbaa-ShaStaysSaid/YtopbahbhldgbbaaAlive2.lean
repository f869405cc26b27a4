/- The chapter's example of the digest holds. No conditions. -/
import Derived.Test.YtopbahbhldgbbaaDigest
import Derived.Test.YtopbahbhldgbbaaSame
import Derived.Lib.SlBytesConst
namespace Go.Proofs.Ytopbahbhldgbbaa
open Go.RowKit
theorem bss_nil (w : World) : Bss w none 0 [] := ⟨rfl, [], rfl, At.nil, fun i hi => by omega⟩
theorem bs_lit {w : World} {t : TypeId} (cs : Array Value) (xs : List UInt8) (h : cs.toList = xs.map bv) {n : Nat} (hn : xs.length = n) : Bs (w.alloc (.cells cs t)) (some ⟨w.heap.size, 0, none⟩) n xs :=
  ⟨hn, lit_at cs _ h⟩
theorem bs_litF {w : World} {t : TypeId} {fr : Nat × Nat} (cs : Array Value) (xs : List UInt8) (h : cs.toList = xs.map bv) {n : Nat} (hn : xs.length = n) : Bs (w.alloc (.cells cs t fr)) (some ⟨w.heap.size, 0, none⟩) n xs :=
  ⟨hn, .inr ⟨w.heap.size, 0, rfl, fun j u hu => by
    rw [Nat.zero_add, cell_of_row _ _ _ cs t fr (heap_alloc_new w _), ← Array.getElem?_toList, h]; exact hu⟩⟩
theorem conv_const (w : World) (C : Array Value) (n c : Nat) : (convert 24 24 (.slice (some ⟨w.heap.size, 0, none⟩) n c)).run Try.prog (w.alloc (.cells C 5)) = .ok (.slice (some ⟨w.heap.size, 0, none⟩) n c) (w.alloc (.cells C 5 (C.size, C.size + 1))) :=
  Lib.run_convert_bytes_const (P := Try.prog) w _ _ C n c Try.underlying24 Try.underlying5
theorem abc_cell (i : Nat) (h : i < 32) : (bys (Sha.sum [97, 98, 99]))[i]? = some (.int .u8 (([0xba, 0x78, 0x16, 0xbf, 0x8f, 0x01, 0xcf, 0xea, 0x41, 0x41, 0x40, 0xde, 0x5d, 0xae, 0x22, 0x23, 0xb0, 0x03, 0x61, 0xa3, 0x96, 0x17, 0x7a, 0x9c, 0xb4, 0x10, 0xff, 0x61, 0xf2, 0x00, 0x15, 0xad] : List UInt8).getD i 0).toNat) := by
  rw [Sha.abc]
  exact bys_get (by simpa using h)
set_option maxHeartbeats 400000 in
set_option maxRecDepth 100000 in
theorem alive2_any (w : World) : Calls Try.prog 10 #[] w fun e w' => e = .returned (.bool true) ∧ Below w.heap.size w w' := by
  obtain ⟨S, hS⟩ : ∃ S, Hid (S = Sha.sum [97, 98, 99]) := ⟨_, rfl⟩
  have hSl : Hid (S.length = 32) := by rw [hS.out]; exact Sha.sum_length _
  have hcv := conv_const
  go_enter Try.func10, Try.ntmps10
  go_wp2_with (first
    | (go_at_call 13; refine (sum_any _ 3 _ [97, 98, 99] _ (bs_litF (w := w) _ _ rfl rfl) (by omega)).mono ?_; rw [← hS.out]; rintro e w2 ⟨rfl, hb2⟩
       have HB2 : Hid (Below w.heap.size w w2) := ((Below.refl _ _).alloc (Nat.le_refl _) _).trans (hb2.mono (by simp))
       clear hb2)
    | refine arr_alloc rfl _ rfl _ zb32 w2.heap.size rfl ?_
    | (refine arr_store rfl _ (.tmp 1) (.tmp 4) rfl w2.heap.size (bys S) rfl rfl _ _ (Blk.new w2 _ _) 32 sb32 (by rw [bys_size]; exact hSl.out) rfl (bys_one _) ?_
       have hk : Blk ((w2.alloc (.cells (bys (zbs 32)) 28)).setRow w2.heap.size (bys S)) w2.heap.size 28 (bys S) := (Blk.new w2 _ _).row _
       have HB3 : Hid (Below w.heap.size w ((w2.alloc (.cells (bys (zbs 32)) 28)).setRow w2.heap.size (bys S))) := bel_row (HB2.out.alloc HB2.out.size _) HB2.out.size _
       generalize (w2.alloc (.cells (bys (zbs 32)) 28)).setRow w2.heap.size (bys S) = w3 at *
       have c0 : w3.cell? ⟨w2.heap.size, 0, none⟩ = some (.int .u8 186) := by rw [hk.cell, hS.out]; exact abc_cell 0 (by omega)
       have c1 : w3.cell? ⟨w2.heap.size, 1, none⟩ = some (.int .u8 120) := by rw [hk.cell, hS.out]; exact abc_cell 1 (by omega)
       have c2 : w3.cell? ⟨w2.heap.size, 2, none⟩ = some (.int .u8 22) := by rw [hk.cell, hS.out]; exact abc_cell 2 (by omega)
       have c3 : w3.cell? ⟨w2.heap.size, 3, none⟩ = some (.int .u8 191) := by rw [hk.cell, hS.out]; exact abc_cell 3 (by omega)
       clear hk)
    | (go_at_call 17; refine (of_any none 0 0 [] _ (bss_nil _) (by omega) (by simp)).mono ?_; rintro e w4 ⟨g4, rfl, hg4, hk4, hb4⟩
       have HB4 : Hid (Below w.heap.size w w4) := HB3.out.trans (hb4.mono HB3.out.size)
       clear hg4 hk4 hb4))
  go_ret
  exact ⟨rfl, HB4.out⟩

end Go.Proofs.Ytopbahbhldgbbaa
