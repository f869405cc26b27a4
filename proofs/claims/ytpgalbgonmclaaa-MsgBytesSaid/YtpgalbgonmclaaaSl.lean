/- slices.Clone, Grow (of nil) and Concat, of bytes: what each hands back, in new memory. Lengths up to 2^46. -/
import Derived.Test.YtpgalbgonmclaaaMem
import Derived.Lib.SliceRun
import Derived.Lib.AppendZeros
namespace Go.Proofs.Ytpgalbgonmclaaa
open Go.RowKit

theorem Own.made (w : World) (base cap : Nat) (cur : Array Value) (hb : base ≤ w.heap.size) (hm : cap ≤ maxLen) (hs : cur.size = cap) : Own (w.alloc (.cells cur 5)) base (some ⟨w.heap.size, 0, none⟩) 0 cap [] :=
  World.ownsRow_made w cur cap hb hm (by omega)

set_option maxHeartbeats 400000 in
theorem clone_any (A : Option Addr) (n c : Nat) (xs : List UInt8) (w : World) (ha : Bs w A n xs) (hn : n ≤ 140737488355328) :
    Calls Try.prog 180 #[.slice A n c] w fun e w' => ∃ A' c', e = .returned (.slice A' n c') ∧ Own w' w.heap.size A' n c' xs ∧ Below w.heap.size w w' := by
  have heq := fun (w : World) => Lib.run_eql_slice_nil (P := Try.prog) w _ _ A n c 0 0 Try.underlying22
  rcases A with _ | ad
  · have hx : xs = [] := by
      rcases ha.2 with h | ⟨b, off, h, _⟩
      · simpa using h
      · cases h
    have hn0 : n = 0 := by rw [← ha.1, hx]; rfl
    subst hx; subst hn0
    go_enter Try.func180, Try.ntmps180
    go_wp2
    go_ret
    exact ⟨none, 0, rfl, Own.empty _ _, Below.refl _ _⟩
  · have HA := Lib.hid ha
    clear ha
    go_enter Try.func180, Try.ntmps180
    go_wp2_with (at_builtin; refine app_own (w0 := w) rfl _ _ _ rfl _ _ eltB w.heap.size _ 0 [] rfl (Own.made w w.heap.size 0 #[] (Nat.le_refl _) (by unfold maxLen; omega) rfl) (some ad) n c (xs.map bv) rfl (by rw [List.length_map]; exact HA.out.1) (HA.out.2.below ((Below.refl _ _).alloc (Nat.le_refl _) _)) (by intro u hu; exact bv_one u hu) ?_ ?_ ((Below.refl _ _).alloc (Nat.le_refl _) _) ?_ ?_; rotate_right; intro A2 c2 w2 hown2 hbw2 _ _)
    · go_ret
      refine ⟨A2, c2, rfl, ?_, hbw2⟩
      rw [Nat.zero_add] at hown2
      exact hown2
    · omega
    · omega
    · simp

end Go.Proofs.Ytpgalbgonmclaaa
