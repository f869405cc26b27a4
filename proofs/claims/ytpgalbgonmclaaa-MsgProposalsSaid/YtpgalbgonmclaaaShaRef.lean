/- The reference's words of a block, its padding and its state: plain laws. No program in sight. -/
import Derived.Test.YtpgalbgonmclaaaSha
namespace Go.Proofs.Ytpgalbgonmclaaa
namespace Sha
/-- The first t words. -/
def wt (l : List UInt8) (t : Nat) : List Nat := ext (w16 l (min t 16)) (t - 16)
/-- Four bytes, one behind the other. -/
def pre (l : List UInt8) (t : Nat) : Nat → Nat
  | 0 => 0
  | i + 1 => 256 * pre l t i + (l.getD (4 * t + i) 0).toNat
end Sha
end Go.Proofs.Ytpgalbgonmclaaa
