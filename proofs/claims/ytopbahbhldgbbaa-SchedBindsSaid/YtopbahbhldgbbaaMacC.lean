/- The chapter's example of the tag; mac.Is. Lengths up to 2^45. -/
import Derived.Test.YtopbahbhldgbbaaMacB
import Derived.Test.YtopbahbhldgbbaaSame
namespace Go.Proofs.Ytopbahbhldgbbaa
open Go.RowKit
attribute [local irreducible] Y Ef WL WC WK WQ WM OpM
theorem jefe : (Mac.tag [74, 101, 102, 101] ([[119, 104, 97, 116, 32, 100, 111, 32, 121, 97, 32, 119, 97, 110, 116, 32], [102, 111, 114, 32, 110, 111, 116, 104, 105, 110, 103, 63]] : List (List UInt8)).flatten).take 4 = [0x5b, 0xdc, 0xc1, 0x46] := by decide +kernel
theorem jefe_get (i : Nat) (h : i < 4) : (bys (Mac.tag [74, 101, 102, 101] ([[119, 104, 97, 116, 32, 100, 111, 32, 121, 97, 32, 119, 97, 110, 116, 32], [102, 111, 114, 32, 110, 111, 116, 104, 105, 110, 103, 63]] : List (List UInt8)).flatten))[i]? = some (.int .u8 (([0x5b, 0xdc, 0xc1, 0x46] : List UInt8).getD i 0).toNat) := by
  rw [bys_get (by rw [Mac.tag_length]; omega), ← jefe]
  simp [List.getElem?_take, h]
end Go.Proofs.Ytopbahbhldgbbaa
