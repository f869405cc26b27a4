/- The reference's digest: the loop over the blocks. A text of whole blocks, up to 2^46 bytes. -/
import Derived.Test.YtpgalbgonmclaaaNum
import Derived.Test.YtpgalbgonmclaaaMem
import Derived.Test.YtpgalbgonmclaaaSha
import Derived.Test.YtpgalbgonmclaaaShaRef
import Derived.Deep.RegionLaw
namespace Go.Proofs.Ytpgalbgonmclaaa
open Go.RowKit
theorem OwnN.made (w : World) (base cap : Nat) (cur : Array Value) (hb : base ≤ w.heap.size) (hm : cap ≤ maxLen) (hs : cur.size = cap) : OwnN (w.alloc (.cells cur 46)) base (some ⟨w.heap.size, 0, none⟩) 0 cap [] :=
  World.ownsRow_made w cur cap hb hm (by omega)
theorem OwnN.grown {w w' : World} {base n c g : Nat} {A : Option Addr} {xs : List Nat} (h : OwnN w base A n c xs) (hg : w.grownBy w' (some g)) (hne : ∀ b off, A = some ⟨b, off, none⟩ → b ≠ g) : OwnN w' base A n c xs :=
  World.ownsRow.kept h hg (by
    rcases h.2 with ⟨hv, _⟩ | ⟨b, cap, cur, hv, _⟩
    · injection hv with hA; subst hA; exact .inl rfl
    · injection hv with hA
      subst hA
      exact .inr (fun e => hne b 0 rfl (by injection e)))
end Go.Proofs.Ytpgalbgonmclaaa
