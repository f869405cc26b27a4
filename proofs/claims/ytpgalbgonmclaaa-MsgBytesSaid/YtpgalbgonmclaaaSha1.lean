/- What the digest's small functions compute: the turn, the constants, the tail. No conditions. -/
import Derived.Test.YtpgalbgonmclaaaSha
import Derived.Test.YtpgalbgonmclaaaNum
import Derived.Test.YtpgalbgonmclaaaMem
import Derived.Deep.RegionLaw
/- The reference's words of a block, its padding and its state: plain laws. No program in sight. -/
namespace Go.Proofs.Ytpgalbgonmclaaa
namespace Sha
/-- The first t words. -/
def wt (l : List UInt8) (t : Nat) : List Nat := ext (w16 l (min t 16)) (t - 16)
/-- Four bytes, one behind the other. -/
def pre (l : List UInt8) (t : Nat) : Nat → Nat
  | 0 => 0
  | i + 1 => 256 * pre l t i + (l.getD (4 * t + i) 0).toNat
end Sha
end Go.Proofs.Ytpgalbgonmclaaa

/- The reference's digest: the loop over the blocks. A text of whole blocks, up to 2^46 bytes. -/
namespace Go.Proofs.Ytpgalbgonmclaaa
open Go.RowKit
theorem OwnN.made (w : World) (base cap : Nat) (cur : Array Value) (hb : base ≤ w.heap.size) (hm : cap ≤ maxLen) (hs : cur.size = cap) : OwnN (w.alloc (.cells cur 46)) base (some ⟨w.heap.size, 0, none⟩) 0 cap [] :=
  World.ownsRow_made w cur cap hb hm (by omega)
theorem OwnN.grown {w w' : World} {base n c g : Nat} {A : Option Addr} {xs : List Nat} (h : OwnN w base A n c xs) (hg : w.grownBy w' (some g)) (hne : ∀ b off, A = some ⟨b, off, none⟩ → b ≠ g) : OwnN w' base A n c xs :=
  World.ownsRow.kept h hg (by
    rcases h.2 with ⟨hv, _⟩ | ⟨b, cap, cur, hv, _⟩
    · injection hv with hA; subst hA; exact .inl rfl
    · injection hv with hA
      subst hA
      exact .inr (fun e => hne b 0 rfl (by injection e)))
end Go.Proofs.Ytpgalbgonmclaaa

namespace Go.Proofs.Ytpgalbgonmclaaa
open Go.RowKit

theorem z8 : (Try.prog.info? 202).map (fun i => i.zero.map (·.cells)) = some (some (nums .u32 (zrs 8))) := by kernel_rfl
end Go.Proofs.Ytpgalbgonmclaaa
