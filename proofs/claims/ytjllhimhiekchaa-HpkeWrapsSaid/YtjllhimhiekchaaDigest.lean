/- The reference's Digest is the plain function; the code's Of. At most 2^45 bytes. -/
import Derived.Test.YtjllhimhiekchaaSha1
import Derived.Test.YtjllhimhiekchaaSha5
namespace Go.Proofs.Ytjllhimhiekchaa
open Go.RowKit

set_option maxRecDepth 100000 in
set_option maxHeartbeats 2000000 in
theorem table_any (w : World) : Calls Try.prog 84 #[] w fun e w' => ∃ g1 g2, e = .returned (.tuple #[.slice (some ⟨g1, 0, none⟩) 8 8, .slice (some ⟨g2, 0, none⟩) 64 64]) ∧ Ns .u64 w' (some ⟨g1, 0, none⟩) 8 Sha.H0 ∧ Ns .u64 w' (some ⟨g2, 0, none⟩) 64 Sha.K ∧ Below w.heap.size w w' := by
  go_enter Try.func84, Try.ntmps84
  go_wp2
  go_ret2
  refine ⟨_, _, rfl, ?_, ?_, ((Below.refl _ _).alloc (Nat.le_refl _) _).alloc (by simp) _⟩
  · refine Ns.below (w := w.alloc _) ?_ ((Below.refl _ _).alloc (Nat.le_refl _) _)
    exact nsLit (w := w) Sha.H0 _ rfl rfl
  · have h := nsLit (w := w.alloc (.cells (nums .u64 Sha.H0) 52)) (t := 52) (k := .u64) Sha.K (nums .u64 Sha.K) rfl rfl (n := 64)
    rw [World.size_alloc] at h
    exact h
set_option maxHeartbeats 400000 in
theorem digest_any (A : Option Addr) (n c : Nat) (xs : List UInt8) (w : World) (ha : Bs w A n xs) (hn : n ≤ 35184372088832) :
    Calls Try.prog 70 #[.slice A n c] w fun e w' => ∃ A' c', e = .returned (.slice A' 32 c') ∧ Own w' w.heap.size A' 32 c' (Sha.sum xs) ∧ Below w.heap.size w w' := by
  have HA := Lib.hid ha
  clear ha
  go_enter Try.func70, Try.ntmps70
  go_wp2_with (first
    | (go_at_call 84; refine (table_any _).mono ?_; rintro e w1 ⟨g1, g2, rfl, h1, h2, hb1⟩
       have H1 := Lib.hid h1; have H2 := Lib.hid h2; have HB1 := Lib.hid hb1
       clear h1 h2 hb1)
    | (go_at_call 85; refine (sumr_any A _ _ n c _ _ xs _ (HA.out.below HB1.out) hn H1.out H2.out).mono ?_; rintro e w2 ⟨A2, c2, rfl, ho2, hb2⟩
       have HO2 := Lib.hid ho2
       have HB2 : Hid (Below w.heap.size w w2) := HB1.out.trans (hb2.mono HB1.out.size)
       have hs1 := HB1.out.size
       clear ho2 hb2))
  go_ret
  exact ⟨A2, c2, rfl, HO2.out.lower hs1, HB2.out⟩

/-- Of's digest lies in a block of its own. -/
theorem of_any (A : Option Addr) (n c : Nat) (xss : List (List UInt8)) (w : World) (ha : Bss w A n xss) (hn : n ≤ 35184372088832) (hlen : xss.flatten.length ≤ 35184372088832) :
    Calls Try.prog 82 #[.slice A n c] w fun e w' => ∃ g, e = .returned (.slice (some ⟨g, 0, none⟩) 32 32) ∧ w.heap.size ≤ g ∧ Blk w' g 95 (bys (Sha.sum xss.flatten)) ∧ Below w.heap.size w w' := by
  have HA := Lib.hid ha; have HL := Lib.hid hlen
  clear ha
  go_enter Try.func82, Try.ntmps82
  go_wp2_with (first
    | (go_at_call 56; refine (concat_any A n c xss _ HA.out (by omega) (by omega)).mono ?_; rintro e w1 ⟨A1, m1, c1, rfl, ho1, hb1⟩
       have HO1 := Lib.hid ho1; have HB1 := Lib.hid hb1
       have hm1 : m1 ≤ 35184372088832 := by have := ho1.len; omega
       clear ho1 hb1)
    | (go_at_call 96; refine (sum_any A1 m1 c1 xss.flatten _ HO1.out.bs hm1).mono ?_; rintro e w2 ⟨rfl, hb2⟩
       have HB2 : Hid (Below w.heap.size w w2) := HB1.out.trans (hb2.mono HB1.out.size)
       clear hb2)
    | refine arr_alloc rfl _ rfl _ zb32 w2.heap.size rfl ?_
    | refine arr_store rfl _ (.tmp 3) (.tmp 6) rfl w2.heap.size (bys (Sha.sum xss.flatten)) rfl rfl _ _ (Blk.new w2 _ _) 32 sb32 rfl rfl (bys_one _) ?_)
  go_ret
  exact ⟨w2.heap.size, rfl, HB2.out.size, (Blk.new w2 _ _).row _, bel_row (HB2.out.alloc HB2.out.size _) HB2.out.size _⟩
end Go.Proofs.Ytjllhimhiekchaa
