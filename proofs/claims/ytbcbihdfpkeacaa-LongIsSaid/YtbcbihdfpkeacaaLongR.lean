/- The reference's words of a block, its padding and its state: plain laws. No program in sight. -/
import Derived.Test.YtbcbihdfpkeacaaLongS
namespace Go.Proofs.Ytbcbihdfpkeacaa
namespace Lng
/-- The first t words. -/
def wt (l : List UInt8) (t : Nat) : List Nat := ext (w16 l (min t 16)) (t - 16)
theorem wt_zero (l : List UInt8) : wt l 0 = [] := rfl
theorem wt_low {l : List UInt8} {t : Nat} (h : t < 16) : wt l (t + 1) = wt l t ++ [be8 l t] := by
  unfold wt
  rw [show min (t + 1) 16 = t + 1 from by omega, show min t 16 = t from by omega, show t + 1 - 16 = 0 from by omega, show t - 16 = 0 from by omega]
  rfl
theorem wt_high {l : List UInt8} {t : Nat} (h : 16 ≤ t) : wt l (t + 1) = wt l t ++ [nextW (wt l t) (t - 16)] := by
  unfold wt
  rw [show min (t + 1) 16 = 16 from by omega, show min t 16 = 16 from by omega, show t + 1 - 16 = (t - 16) + 1 from by omega]
  rfl
theorem wt_words (l : List UInt8) : wt l 80 = words l := rfl
theorem wt_length (l : List UInt8) (t : Nat) : (wt l t).length = t := by unfold wt; rw [ext_length, w16_length]; omega
theorem wt_lt (l : List UInt8) (t : Nat) : ∀ x ∈ wt l t, x < 18446744073709551616 := ext_lt _ (w16_lt l _) _
theorem getD_block (M : List UInt8) (a i : Nat) (h : i < 128) : ((M.drop a).take 128).getD i 0 = M.getD (a + i) 0 := by
  simp [List.getD_eq_getElem?_getD, List.getElem?_take, List.getElem?_drop, h]
end Lng
end Go.Proofs.Ytbcbihdfpkeacaa
