/- The tag as a plain function on bytes. No program in sight. -/
import Derived.Test.YtopbahbhldgbbaaSha
import Derived.Test.YtopbahbhldgbbaaLib2
namespace Go.Proofs.Ytopbahbhldgbbaa
namespace Mac
/-- A key of 64 bytes. -/
def k64 (key : List UInt8) : List UInt8 := let k := if 64 < key.length then Sha.sum key else key; k ++ zbs (64 - k.length)
def held (key : List UInt8) (c : UInt8) : List UInt8 := (k64 key).map (· ^^^ c)
def tag (key text : List UInt8) : List UInt8 := Sha.sum (held key 92 ++ Sha.sum (held key 54 ++ text))
theorem k64_length (key : List UInt8) : (k64 key).length = 64 := by
  unfold k64
  by_cases h : 64 < key.length
  · simp [h, zbs, Sha.sum_length]
  · simp [h, zbs]; omega
theorem held_length (key : List UInt8) (c : UInt8) : (held key c).length = 64 := by simp [held, k64_length]
theorem tag_length (key text : List UInt8) : (tag key text).length = 32 := Sha.sum_length _
end Mac
end Go.Proofs.Ytopbahbhldgbbaa
