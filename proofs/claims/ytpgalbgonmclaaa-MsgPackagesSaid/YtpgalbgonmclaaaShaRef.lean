/- The reference's words of a block, its padding and its state: plain laws. No program in sight. -/
import Derived.Test.YtpgalbgonmclaaaSha
namespace Go.Proofs.Ytpgalbgonmclaaa
namespace Sha
/-- The first t words. -/
def wt (l : List UInt8) (t : Nat) : List Nat := ext (w16 l (min t 16)) (t - 16)
theorem wt_low {l : List UInt8} {t : Nat} (h : t < 16) : wt l (t + 1) = wt l t ++ [be4 l t] := by
  unfold wt
  rw [show min (t + 1) 16 = t + 1 from by omega, show min t 16 = t from by omega, show t + 1 - 16 = 0 from by omega, show t - 16 = 0 from by omega]
  rfl
theorem wt_high {l : List UInt8} {t : Nat} (h : 16 ≤ t) : wt l (t + 1) = wt l t ++ [nextW (wt l t) (t - 16)] := by
  unfold wt
  rw [show min (t + 1) 16 = 16 from by omega, show min t 16 = 16 from by omega, show t + 1 - 16 = (t - 16) + 1 from by omega]
  rfl
theorem wt_lt (l : List UInt8) (t : Nat) : ∀ x ∈ wt l t, x < 4294967296 := ext_lt _ (w16_lt l _) _
/-- Four bytes, one behind the other. -/
def pre (l : List UInt8) (t : Nat) : Nat → Nat
  | 0 => 0
  | i + 1 => 256 * pre l t i + (l.getD (4 * t + i) 0).toNat
theorem pre_lt (l : List UInt8) (t i : Nat) : pre l t i < 256 ^ i := by
  induction i with
  | zero => simp [pre]
  | succ i ih =>
    have := (l.getD (4 * t + i) 0).toNat_lt
    simp only [pre, Nat.pow_succ]
    omega
theorem pre_four (l : List UInt8) (t : Nat) : pre l t 4 = be4 l t := by
  simp only [pre, be4, Nat.add_zero]
  omega
theorem getD_block (M : List UInt8) (a i : Nat) (h : i < 64) : ((M.drop a).take 64).getD i 0 = M.getD (a + i) 0 := by
  simp [List.getD_eq_getElem?_getD, List.getElem?_take, List.getElem?_drop, h]
end Sha
end Go.Proofs.Ytpgalbgonmclaaa
