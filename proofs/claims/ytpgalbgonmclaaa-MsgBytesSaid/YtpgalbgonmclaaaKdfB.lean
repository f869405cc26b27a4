/- The reference's Expand: what it hands back. Lengths up to 2^20. -/
import Derived.Test.YtpgalbgonmclaaaWireA
import Derived.Test.YtpgalbgonmclaaaVc5
import Derived.Test.YtpgalbgonmclaaaNum
import Derived.Test.YtpgalbgonmclaaaMem
import Derived.Test.YtpgalbgonmclaaaSha
import Derived.Test.YtpgalbgonmclaaaSha1
import Derived.Test.YtpgalbgonmclaaaSl
import Derived.Test.YtpgalbgonmclaaaLib
import Derived.Test.YtpgalbgonmclaaaWire
import Derived.Test.YtpgalbgonmclaaaSame
namespace Go.Proofs.Ytpgalbgonmclaaa
open Go.RowKit
attribute [local irreducible] Y Ef WL WC WK WQ WM OpM
/-- Slices of bytes, each apart from the row at A. -/
def Parts (w : World) (A : Option Addr) (vs : List Value) (xss : List (List UInt8)) : Prop :=
  vs.length = xss.length ∧ ∀ i, i < xss.length → ∃ B m c, vs[i]? = some (.slice B m c) ∧ Bs w B m (xss.getD i []) ∧ Dj A B ∧ ∀ b o s, B = some ⟨b, o, s⟩ → b < w.heap.size
theorem Parts.nil (w : World) (A : Option Addr) : Parts w A [] [] := ⟨rfl, fun i hi => by cases hi⟩
theorem Parts.ext {w w' : World} {A : Option Addr} {vs : List Value} {xss : List (List UInt8)} (h : Parts w A vs xss) (e : Ext w w') : Parts w' A vs xss :=
  ⟨h.1, fun i hi => by
    obtain ⟨B, m, c, h1, h2, h3, h4⟩ := h.2 i hi
    exact ⟨B, m, c, h1, h2.ext e, h3, fun b o s hb => Nat.lt_of_lt_of_le (h4 b o s hb) e.size⟩⟩
end Go.Proofs.Ytpgalbgonmclaaa
