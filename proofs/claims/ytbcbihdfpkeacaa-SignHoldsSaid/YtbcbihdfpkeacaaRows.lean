/-
  No cell of these rows narrows 'for every input' (looked for: loops, veiled, ifaces, maps, wideKeys, modest, calm, conditions, laid).
  DERIVED. THE GIVEN ROWS OF THIS SEAT. 15 by the template 'for every input the law returns true; each argument reads behind the call as it read before'; 0 by the template 'total and deterministic' (their statements: YtbcbihdfpkeacaaTotals.lean).
  GIVEN WITH THE SEED: the statements are not yours to turn. If you find one false, say at which input.
  Laid BY PROGRAM, IN A SANDBOX (cutbox-rows.mjs): the forced cells as the released guide's own fill.sh prints them over the translation 7037a1c9f5118752… (all of the seat's roots in one cut). By AI agents, Wed Nov 11 2026. No macro, syntax, notation, axiom, sorry.
-/
import Derived.Test.YtbcbihdfpkeacaaChecked
import GoSem.Claim
import GoSem.ClaimJoined
import GoSem.ClaimMapViews
import Derived.JoinedTies
import Derived.KernelRfl
namespace Go.Proofs.Ytbcbihdfpkeacaa
/- THE CELL 'sum', in the pinned program and in every row, IS THE sha256 OF THE DUMP (.gsa) THAT YtbcbihdfpkeacaaProg.lean LOADS. Nothing in Lean hashes anything: it is a label: what it is worth is what the hold of that sum in a sandbox is worth. -/
noncomputable def Try.pinned : Pinned := { name := "ytbcbihdfpkeacaa", sum := "7037a1c9f511875242b2d3b29f7523e9094c9f293c99e16097fa1b9a00b2fcb2", checked := Try.checked }
namespace Rows
def none {H : Type} : Left H := { results := [], args := [] }

/-- 'ratlinelaw06.FieldTwo': WHATEVER THE INPUT: true; the input reads as it did. -/
def fieldTwoSpec : ChangeSpec := { name := "fieldTwo", fn := fun _ => fun
  | [d1, d2, d3] => { results := [.lit (.bool true)], args := [d1, d2, d3] }
  | _ => none }
def fieldTwoRow : OpenClaim := { program := "ytbcbihdfpkeacaa", sum := "7037a1c9f511875242b2d3b29f7523e9094c9f293c99e16097fa1b9a00b2fcb2", func := "ratline/ratlinelaw06.FieldTwo", spec := "fieldTwo", inPlace := ["math/bits.Add64"], unfollowed := true, recurses := true, apart := false }
def FieldTwoSaid : Prop := fieldTwoRow.holds Try.pinned (OpenSpec.ofChange fieldTwoSpec)

/-- ITS FALSE NEIGHBOUR: 'it returns false'. Refute it at one input. -/
def fieldTwoWrong : ChangeSpec := { name := "fieldTwo", fn := fun _ => fun
  | [d1, d2, d3] => { results := [.lit (.bool false)], args := [d1, d2, d3] }
  | _ => none }
def FieldTwoWrongFalsely : Prop := fieldTwoRow.holds Try.pinned (OpenSpec.ofChange fieldTwoWrong)

/-- 'ratlinelaw03.LongRoots': WHATEVER THE INPUT: true; the input reads as it did. -/
def longRootsSpec : ChangeSpec := { name := "longRoots", fn := fun _ => fun
  | [d1, d2] => { results := [.lit (.bool true)], args := [d1, d2] }
  | _ => none }
def longRootsRow : OpenClaim := { program := "ytbcbihdfpkeacaa", sum := "7037a1c9f511875242b2d3b29f7523e9094c9f293c99e16097fa1b9a00b2fcb2", func := "ratline/ratlinelaw03.LongRoots", spec := "longRoots", inPlace := ["math/bits.Add64"], unfollowed := true, recurses := true, apart := false }
def LongRootsSaid : Prop := longRootsRow.holds Try.pinned (OpenSpec.ofChange longRootsSpec)

/-- ITS FALSE NEIGHBOUR: 'it returns false'. Refute it at one input. -/
def longRootsWrong : ChangeSpec := { name := "longRoots", fn := fun _ => fun
  | [d1, d2] => { results := [.lit (.bool false)], args := [d1, d2] }
  | _ => none }
def LongRootsWrongFalsely : Prop := longRootsRow.holds Try.pinned (OpenSpec.ofChange longRootsWrong)

/-- 'ratlinelaw06.FieldPow': WHATEVER THE INPUT: true; the input reads as it did. -/
def fieldPowSpec : ChangeSpec := { name := "fieldPow", fn := fun _ => fun
  | [d1, d2] => { results := [.lit (.bool true)], args := [d1, d2] }
  | _ => none }
def fieldPowRow : OpenClaim := { program := "ytbcbihdfpkeacaa", sum := "7037a1c9f511875242b2d3b29f7523e9094c9f293c99e16097fa1b9a00b2fcb2", func := "ratline/ratlinelaw06.FieldPow", spec := "fieldPow", inPlace := ["math/bits.Add64", "internal/bytealg.MakeNoZero"], unfollowed := true, recurses := true, apart := false }
def FieldPowSaid : Prop := fieldPowRow.holds Try.pinned (OpenSpec.ofChange fieldPowSpec)

/-- ITS FALSE NEIGHBOUR: 'it returns false'. Refute it at one input. -/
def fieldPowWrong : ChangeSpec := { name := "fieldPow", fn := fun _ => fun
  | [d1, d2] => { results := [.lit (.bool false)], args := [d1, d2] }
  | _ => none }
def FieldPowWrongFalsely : Prop := fieldPowRow.holds Try.pinned (OpenSpec.ofChange fieldPowWrong)

/-- 'ratlinelaw06.FieldLaws': WHATEVER THE INPUT: true; the input reads as it did. -/
def fieldLawsSpec : ChangeSpec := { name := "fieldLaws", fn := fun _ => fun
  | [d1, d2, d3, d4] => { results := [.lit (.bool true)], args := [d1, d2, d3, d4] }
  | _ => none }
def fieldLawsRow : OpenClaim := { program := "ytbcbihdfpkeacaa", sum := "7037a1c9f511875242b2d3b29f7523e9094c9f293c99e16097fa1b9a00b2fcb2", func := "ratline/ratlinelaw06.FieldLaws", spec := "fieldLaws", inPlace := ["math/bits.Add64", "internal/bytealg.MakeNoZero"], unfollowed := true, recurses := true, apart := false }
def FieldLawsSaid : Prop := fieldLawsRow.holds Try.pinned (OpenSpec.ofChange fieldLawsSpec)

/-- ITS FALSE NEIGHBOUR: 'it returns false'. Refute it at one input. -/
def fieldLawsWrong : ChangeSpec := { name := "fieldLaws", fn := fun _ => fun
  | [d1, d2, d3, d4] => { results := [.lit (.bool false)], args := [d1, d2, d3, d4] }
  | _ => none }
def FieldLawsWrongFalsely : Prop := fieldLawsRow.holds Try.pinned (OpenSpec.ofChange fieldLawsWrong)

/-- 'ratlinelaw03.LongIs': WHATEVER THE INPUT: true; the input reads as it did. -/
def longIsSpec : ChangeSpec := { name := "longIs", fn := fun _ => fun
  | [d1, d2] => { results := [.lit (.bool true)], args := [d1, d2] }
  | _ => none }
def longIsRow : OpenClaim := { program := "ytbcbihdfpkeacaa", sum := "7037a1c9f511875242b2d3b29f7523e9094c9f293c99e16097fa1b9a00b2fcb2", func := "ratline/ratlinelaw03.LongIs", spec := "longIs", inPlace := ["math/bits.Add64"], unfollowed := true, recurses := true, apart := false }
def LongIsSaid : Prop := longIsRow.holds Try.pinned (OpenSpec.ofChange longIsSpec)

/-- ITS FALSE NEIGHBOUR: 'it returns false'. Refute it at one input. -/
def longIsWrong : ChangeSpec := { name := "longIs", fn := fun _ => fun
  | [d1, d2] => { results := [.lit (.bool false)], args := [d1, d2] }
  | _ => none }
def LongIsWrongFalsely : Prop := longIsRow.holds Try.pinned (OpenSpec.ofChange longIsWrong)

/-- 'ratlinelaw03.LongStays': WHATEVER THE INPUT: true; the input reads as it did. -/
def longStaysSpec : ChangeSpec := { name := "longStays", fn := fun _ => fun
  | [d] => { results := [.lit (.bool true)], args := [d] }
  | _ => none }
def longStaysRow : OpenClaim := { program := "ytbcbihdfpkeacaa", sum := "7037a1c9f511875242b2d3b29f7523e9094c9f293c99e16097fa1b9a00b2fcb2", func := "ratline/ratlinelaw03.LongStays", spec := "longStays", inPlace := ["math/bits.Add64"], unfollowed := true, recurses := true, apart := false }
def LongStaysSaid : Prop := longStaysRow.holds Try.pinned (OpenSpec.ofChange longStaysSpec)

/-- ITS FALSE NEIGHBOUR: 'it returns false'. Refute it at one input. -/
def longStaysWrong : ChangeSpec := { name := "longStays", fn := fun _ => fun
  | [d] => { results := [.lit (.bool false)], args := [d] }
  | _ => none }
def LongStaysWrongFalsely : Prop := longStaysRow.holds Try.pinned (OpenSpec.ofChange longStaysWrong)

/-- 'ratlinelaw07.DhMuls': WHATEVER THE INPUT: true; the input reads as it did. -/
def dhMulsSpec : ChangeSpec := { name := "dhMuls", fn := fun _ => fun
  | [d1, d2] => { results := [.lit (.bool true)], args := [d1, d2] }
  | _ => none }
def dhMulsRow : OpenClaim := { program := "ytbcbihdfpkeacaa", sum := "7037a1c9f511875242b2d3b29f7523e9094c9f293c99e16097fa1b9a00b2fcb2", func := "ratline/ratlinelaw07.DhMuls", spec := "dhMuls", inPlace := ["math/bits.Add64", "internal/bytealg.MakeNoZero"], unfollowed := true, recurses := true, apart := false }
def DhMulsSaid : Prop := dhMulsRow.holds Try.pinned (OpenSpec.ofChange dhMulsSpec)

/-- ITS FALSE NEIGHBOUR: 'it returns false'. Refute it at one input. -/
def dhMulsWrong : ChangeSpec := { name := "dhMuls", fn := fun _ => fun
  | [d1, d2] => { results := [.lit (.bool false)], args := [d1, d2] }
  | _ => none }
def DhMulsWrongFalsely : Prop := dhMulsRow.holds Try.pinned (OpenSpec.ofChange dhMulsWrong)

/-- 'ratlinelaw07.DhShares': WHATEVER THE INPUT: true; the input reads as it did. -/
def dhSharesSpec : ChangeSpec := { name := "dhShares", fn := fun _ => fun
  | [d1, d2] => { results := [.lit (.bool true)], args := [d1, d2] }
  | _ => none }
def dhSharesRow : OpenClaim := { program := "ytbcbihdfpkeacaa", sum := "7037a1c9f511875242b2d3b29f7523e9094c9f293c99e16097fa1b9a00b2fcb2", func := "ratline/ratlinelaw07.DhShares", spec := "dhShares", inPlace := ["math/bits.Add64", "internal/bytealg.MakeNoZero"], unfollowed := true, recurses := true, apart := false }
def DhSharesSaid : Prop := dhSharesRow.holds Try.pinned (OpenSpec.ofChange dhSharesSpec)

/-- ITS FALSE NEIGHBOUR: 'it returns false'. Refute it at one input. -/
def dhSharesWrong : ChangeSpec := { name := "dhShares", fn := fun _ => fun
  | [d1, d2] => { results := [.lit (.bool false)], args := [d1, d2] }
  | _ => none }
def DhSharesWrongFalsely : Prop := dhSharesRow.holds Try.pinned (OpenSpec.ofChange dhSharesWrong)

/-- 'ratlinelaw09.CurveOf': WHATEVER THE INPUT: true; the input reads as it did. -/
def curveOfSpec : ChangeSpec := { name := "curveOf", fn := fun _ => fun
  | [d] => { results := [.lit (.bool true)], args := [d] }
  | _ => none }
def curveOfRow : OpenClaim := { program := "ytbcbihdfpkeacaa", sum := "7037a1c9f511875242b2d3b29f7523e9094c9f293c99e16097fa1b9a00b2fcb2", func := "ratline/ratlinelaw09.CurveOf", spec := "curveOf", inPlace := ["internal/bytealg.MakeNoZero", "math/bits.Add64"], unfollowed := true, recurses := true, apart := false }
def CurveOfSaid : Prop := curveOfRow.holds Try.pinned (OpenSpec.ofChange curveOfSpec)

/-- ITS FALSE NEIGHBOUR: 'it returns false'. Refute it at one input. -/
def curveOfWrong : ChangeSpec := { name := "curveOf", fn := fun _ => fun
  | [d] => { results := [.lit (.bool false)], args := [d] }
  | _ => none }
def CurveOfWrongFalsely : Prop := curveOfRow.holds Try.pinned (OpenSpec.ofChange curveOfWrong)

/-- 'ratlinelaw09.CurveAdds': WHATEVER THE INPUT: true; the input reads as it did. -/
def curveAddsSpec : ChangeSpec := { name := "curveAdds", fn := fun _ => fun
  | [d1, d2] => { results := [.lit (.bool true)], args := [d1, d2] }
  | _ => none }
def curveAddsRow : OpenClaim := { program := "ytbcbihdfpkeacaa", sum := "7037a1c9f511875242b2d3b29f7523e9094c9f293c99e16097fa1b9a00b2fcb2", func := "ratline/ratlinelaw09.CurveAdds", spec := "curveAdds", inPlace := ["internal/bytealg.MakeNoZero", "math/bits.Add64"], unfollowed := true, recurses := true, apart := false }
def CurveAddsSaid : Prop := curveAddsRow.holds Try.pinned (OpenSpec.ofChange curveAddsSpec)

/-- ITS FALSE NEIGHBOUR: 'it returns false'. Refute it at one input. -/
def curveAddsWrong : ChangeSpec := { name := "curveAdds", fn := fun _ => fun
  | [d1, d2] => { results := [.lit (.bool false)], args := [d1, d2] }
  | _ => none }
def CurveAddsWrongFalsely : Prop := curveAddsRow.holds Try.pinned (OpenSpec.ofChange curveAddsWrong)

/-- 'ratlinelaw09.CurveLaws': WHATEVER THE INPUT: true; the input reads as it did. -/
def curveLawsSpec : ChangeSpec := { name := "curveLaws", fn := fun _ => fun
  | [d1, d2, d3] => { results := [.lit (.bool true)], args := [d1, d2, d3] }
  | _ => none }
def curveLawsRow : OpenClaim := { program := "ytbcbihdfpkeacaa", sum := "7037a1c9f511875242b2d3b29f7523e9094c9f293c99e16097fa1b9a00b2fcb2", func := "ratline/ratlinelaw09.CurveLaws", spec := "curveLaws", inPlace := ["internal/bytealg.MakeNoZero", "math/bits.Add64"], unfollowed := true, recurses := true, apart := false }
def CurveLawsSaid : Prop := curveLawsRow.holds Try.pinned (OpenSpec.ofChange curveLawsSpec)

/-- ITS FALSE NEIGHBOUR: 'it returns false'. Refute it at one input. -/
def curveLawsWrong : ChangeSpec := { name := "curveLaws", fn := fun _ => fun
  | [d1, d2, d3] => { results := [.lit (.bool false)], args := [d1, d2, d3] }
  | _ => none }
def CurveLawsWrongFalsely : Prop := curveLawsRow.holds Try.pinned (OpenSpec.ofChange curveLawsWrong)

/-- 'ratlinelaw09.CurveMuls': WHATEVER THE INPUT: true; the input reads as it did. -/
def curveMulsSpec : ChangeSpec := { name := "curveMuls", fn := fun _ => fun
  | [d1, d2, d3, d4] => { results := [.lit (.bool true)], args := [d1, d2, d3, d4] }
  | _ => none }
def curveMulsRow : OpenClaim := { program := "ytbcbihdfpkeacaa", sum := "7037a1c9f511875242b2d3b29f7523e9094c9f293c99e16097fa1b9a00b2fcb2", func := "ratline/ratlinelaw09.CurveMuls", spec := "curveMuls", inPlace := ["internal/bytealg.MakeNoZero", "math/bits.Add64", "math/bits.Sub64"], unfollowed := true, recurses := true, apart := false }
def CurveMulsSaid : Prop := curveMulsRow.holds Try.pinned (OpenSpec.ofChange curveMulsSpec)

/-- ITS FALSE NEIGHBOUR: 'it returns false'. Refute it at one input. -/
def curveMulsWrong : ChangeSpec := { name := "curveMuls", fn := fun _ => fun
  | [d1, d2, d3, d4] => { results := [.lit (.bool false)], args := [d1, d2, d3, d4] }
  | _ => none }
def CurveMulsWrongFalsely : Prop := curveMulsRow.holds Try.pinned (OpenSpec.ofChange curveMulsWrong)

/-- 'ratlinelaw10.SignHolds': WHATEVER THE INPUT: true; the input reads as it did. -/
def signHoldsSpec : ChangeSpec := { name := "signHolds", fn := fun _ => fun
  | [d1, d2, d3] => { results := [.lit (.bool true)], args := [d1, d2, d3] }
  | _ => none }
def signHoldsRow : OpenClaim := { program := "ytbcbihdfpkeacaa", sum := "7037a1c9f511875242b2d3b29f7523e9094c9f293c99e16097fa1b9a00b2fcb2", func := "ratline/ratlinelaw10.SignHolds", spec := "signHolds", inPlace := ["internal/bytealg.MakeNoZero", "math/bits.Add64", "math/bits.Sub64"], unfollowed := true, recurses := true, apart := false }
def SignHoldsSaid : Prop := signHoldsRow.holds Try.pinned (OpenSpec.ofChange signHoldsSpec)

/-- ITS FALSE NEIGHBOUR: 'it returns false'. Refute it at one input. -/
def signHoldsWrong : ChangeSpec := { name := "signHolds", fn := fun _ => fun
  | [d1, d2, d3] => { results := [.lit (.bool false)], args := [d1, d2, d3] }
  | _ => none }
def SignHoldsWrongFalsely : Prop := signHoldsRow.holds Try.pinned (OpenSpec.ofChange signHoldsWrong)

/-- 'ratlinelaw10.SignMakes': WHATEVER THE INPUT: true; the input reads as it did. -/
def signMakesSpec : ChangeSpec := { name := "signMakes", fn := fun _ => fun
  | [d1, d2] => { results := [.lit (.bool true)], args := [d1, d2] }
  | _ => none }
def signMakesRow : OpenClaim := { program := "ytbcbihdfpkeacaa", sum := "7037a1c9f511875242b2d3b29f7523e9094c9f293c99e16097fa1b9a00b2fcb2", func := "ratline/ratlinelaw10.SignMakes", spec := "signMakes", inPlace := ["internal/bytealg.MakeNoZero", "math/bits.Add64", "math/bits.Sub64"], unfollowed := true, recurses := true, apart := false }
def SignMakesSaid : Prop := signMakesRow.holds Try.pinned (OpenSpec.ofChange signMakesSpec)

/-- ITS FALSE NEIGHBOUR: 'it returns false'. Refute it at one input. -/
def signMakesWrong : ChangeSpec := { name := "signMakes", fn := fun _ => fun
  | [d1, d2] => { results := [.lit (.bool false)], args := [d1, d2] }
  | _ => none }
def SignMakesWrongFalsely : Prop := signMakesRow.holds Try.pinned (OpenSpec.ofChange signMakesWrong)

/-- 'ratlinelaw10.SignBack': WHATEVER THE INPUT: true; the input reads as it did. -/
def signBackSpec : ChangeSpec := { name := "signBack", fn := fun _ => fun
  | [d1, d2, d3] => { results := [.lit (.bool true)], args := [d1, d2, d3] }
  | _ => none }
def signBackRow : OpenClaim := { program := "ytbcbihdfpkeacaa", sum := "7037a1c9f511875242b2d3b29f7523e9094c9f293c99e16097fa1b9a00b2fcb2", func := "ratline/ratlinelaw10.SignBack", spec := "signBack", inPlace := ["internal/bytealg.MakeNoZero", "math/bits.Add64", "math/bits.Sub64"], unfollowed := true, recurses := true, apart := false }
def SignBackSaid : Prop := signBackRow.holds Try.pinned (OpenSpec.ofChange signBackSpec)

/-- ITS FALSE NEIGHBOUR: 'it returns false'. Refute it at one input. -/
def signBackWrong : ChangeSpec := { name := "signBack", fn := fun _ => fun
  | [d1, d2, d3] => { results := [.lit (.bool false)], args := [d1, d2, d3] }
  | _ => none }
def SignBackWrongFalsely : Prop := signBackRow.holds Try.pinned (OpenSpec.ofChange signBackWrong)

/- THE SECOND FORM. 'bulk': how many values and letters a reading holds, each counted each time it is reached (what is shared counts as often as it is met; a slice's spare places count too). A statement '..UptoSaid' is the law's where the arguments, and the package variables that the reading takes, are together of bulk at most 1048576: NARROWER than '..Said'. Prove '..Said' where nothing that the law and all that it calls make is longer than what came in: it says more and counts as full. Else prove '..UptoSaid'. A law counts once. -/
mutual
def uptoBulk {H : Type} : DataW H → Nat
  | .lit (.string bytes) => bytes.length + 1
  | .lit _ => 1
  | .nil => 1
  | .ptr d => uptoBulk d + 1
  | .slice elems spare => uptoBulkAll elems + uptoBulkAll spare + 1
  | .agg parts => uptoBulkAll parts + 1
  | .iface _ d => uptoBulk d + 1
  | .map entries => uptoBulkEntries entries + 1
  | .held _ => 1
def uptoBulkAll {H : Type} : List (DataW H) → Nat
  | [] => 0
  | d :: r => uptoBulk d + uptoBulkAll r
def uptoBulkEntries {H : Type} : List (Lit × DataW H) → Nat
  | [] => 0
  | x :: r => uptoBulkEntry x + uptoBulkEntries r
def uptoBulkEntry {H : Type} : Lit × DataW H → Nat
  | (.string bytes, d) => bytes.length + uptoBulk d + 1
  | (_, d) => uptoBulk d + 1
 end
def uptoSmall : (H : Type) → List (DataW H) → Bool := fun _ ds => decide (uptoBulkAll ds ≤ 1048576)
def OpenSpec.upto (s : _root_.Go.ChangeSpec) : _root_.Go.OpenSpec := { _root_.Go.OpenSpec.ofChange s with cond := some uptoSmall }

/-- 'ratlinelaw06.FieldTwo', WHERE WHAT IT READS IS OF BULK AT MOST 1048576: true; the input reads as it did. -/
def fieldTwoUptoRow : OpenClaim := { program := "ytbcbihdfpkeacaa", sum := "7037a1c9f511875242b2d3b29f7523e9094c9f293c99e16097fa1b9a00b2fcb2", func := "ratline/ratlinelaw06.FieldTwo", spec := "fieldTwo", inPlace := ["math/bits.Add64"], unfollowed := true, recurses := true, apart := false, narrowed := true }
def FieldTwoUptoSaid : Prop := fieldTwoUptoRow.holds Try.pinned (OpenSpec.upto fieldTwoSpec)

/-- 'ratlinelaw03.LongRoots', WHERE WHAT IT READS IS OF BULK AT MOST 1048576: true; the input reads as it did. -/
def longRootsUptoRow : OpenClaim := { program := "ytbcbihdfpkeacaa", sum := "7037a1c9f511875242b2d3b29f7523e9094c9f293c99e16097fa1b9a00b2fcb2", func := "ratline/ratlinelaw03.LongRoots", spec := "longRoots", inPlace := ["math/bits.Add64"], unfollowed := true, recurses := true, apart := false, narrowed := true }
def LongRootsUptoSaid : Prop := longRootsUptoRow.holds Try.pinned (OpenSpec.upto longRootsSpec)

/-- 'ratlinelaw06.FieldPow', WHERE WHAT IT READS IS OF BULK AT MOST 1048576: true; the input reads as it did. -/
def fieldPowUptoRow : OpenClaim := { program := "ytbcbihdfpkeacaa", sum := "7037a1c9f511875242b2d3b29f7523e9094c9f293c99e16097fa1b9a00b2fcb2", func := "ratline/ratlinelaw06.FieldPow", spec := "fieldPow", inPlace := ["math/bits.Add64", "internal/bytealg.MakeNoZero"], unfollowed := true, recurses := true, apart := false, narrowed := true }
def FieldPowUptoSaid : Prop := fieldPowUptoRow.holds Try.pinned (OpenSpec.upto fieldPowSpec)

/-- 'ratlinelaw06.FieldLaws', WHERE WHAT IT READS IS OF BULK AT MOST 1048576: true; the input reads as it did. -/
def fieldLawsUptoRow : OpenClaim := { program := "ytbcbihdfpkeacaa", sum := "7037a1c9f511875242b2d3b29f7523e9094c9f293c99e16097fa1b9a00b2fcb2", func := "ratline/ratlinelaw06.FieldLaws", spec := "fieldLaws", inPlace := ["math/bits.Add64", "internal/bytealg.MakeNoZero"], unfollowed := true, recurses := true, apart := false, narrowed := true }
def FieldLawsUptoSaid : Prop := fieldLawsUptoRow.holds Try.pinned (OpenSpec.upto fieldLawsSpec)

/-- 'ratlinelaw03.LongIs', WHERE WHAT IT READS IS OF BULK AT MOST 1048576: true; the input reads as it did. -/
def longIsUptoRow : OpenClaim := { program := "ytbcbihdfpkeacaa", sum := "7037a1c9f511875242b2d3b29f7523e9094c9f293c99e16097fa1b9a00b2fcb2", func := "ratline/ratlinelaw03.LongIs", spec := "longIs", inPlace := ["math/bits.Add64"], unfollowed := true, recurses := true, apart := false, narrowed := true }
def LongIsUptoSaid : Prop := longIsUptoRow.holds Try.pinned (OpenSpec.upto longIsSpec)

/-- 'ratlinelaw03.LongStays', WHERE WHAT IT READS IS OF BULK AT MOST 1048576: true; the input reads as it did. -/
def longStaysUptoRow : OpenClaim := { program := "ytbcbihdfpkeacaa", sum := "7037a1c9f511875242b2d3b29f7523e9094c9f293c99e16097fa1b9a00b2fcb2", func := "ratline/ratlinelaw03.LongStays", spec := "longStays", inPlace := ["math/bits.Add64"], unfollowed := true, recurses := true, apart := false, narrowed := true }
def LongStaysUptoSaid : Prop := longStaysUptoRow.holds Try.pinned (OpenSpec.upto longStaysSpec)

/-- 'ratlinelaw07.DhMuls', WHERE WHAT IT READS IS OF BULK AT MOST 1048576: true; the input reads as it did. -/
def dhMulsUptoRow : OpenClaim := { program := "ytbcbihdfpkeacaa", sum := "7037a1c9f511875242b2d3b29f7523e9094c9f293c99e16097fa1b9a00b2fcb2", func := "ratline/ratlinelaw07.DhMuls", spec := "dhMuls", inPlace := ["math/bits.Add64", "internal/bytealg.MakeNoZero"], unfollowed := true, recurses := true, apart := false, narrowed := true }
def DhMulsUptoSaid : Prop := dhMulsUptoRow.holds Try.pinned (OpenSpec.upto dhMulsSpec)

/-- 'ratlinelaw07.DhShares', WHERE WHAT IT READS IS OF BULK AT MOST 1048576: true; the input reads as it did. -/
def dhSharesUptoRow : OpenClaim := { program := "ytbcbihdfpkeacaa", sum := "7037a1c9f511875242b2d3b29f7523e9094c9f293c99e16097fa1b9a00b2fcb2", func := "ratline/ratlinelaw07.DhShares", spec := "dhShares", inPlace := ["math/bits.Add64", "internal/bytealg.MakeNoZero"], unfollowed := true, recurses := true, apart := false, narrowed := true }
def DhSharesUptoSaid : Prop := dhSharesUptoRow.holds Try.pinned (OpenSpec.upto dhSharesSpec)

/-- 'ratlinelaw09.CurveOf', WHERE WHAT IT READS IS OF BULK AT MOST 1048576: true; the input reads as it did. -/
def curveOfUptoRow : OpenClaim := { program := "ytbcbihdfpkeacaa", sum := "7037a1c9f511875242b2d3b29f7523e9094c9f293c99e16097fa1b9a00b2fcb2", func := "ratline/ratlinelaw09.CurveOf", spec := "curveOf", inPlace := ["internal/bytealg.MakeNoZero", "math/bits.Add64"], unfollowed := true, recurses := true, apart := false, narrowed := true }
def CurveOfUptoSaid : Prop := curveOfUptoRow.holds Try.pinned (OpenSpec.upto curveOfSpec)

/-- 'ratlinelaw09.CurveAdds', WHERE WHAT IT READS IS OF BULK AT MOST 1048576: true; the input reads as it did. -/
def curveAddsUptoRow : OpenClaim := { program := "ytbcbihdfpkeacaa", sum := "7037a1c9f511875242b2d3b29f7523e9094c9f293c99e16097fa1b9a00b2fcb2", func := "ratline/ratlinelaw09.CurveAdds", spec := "curveAdds", inPlace := ["internal/bytealg.MakeNoZero", "math/bits.Add64"], unfollowed := true, recurses := true, apart := false, narrowed := true }
def CurveAddsUptoSaid : Prop := curveAddsUptoRow.holds Try.pinned (OpenSpec.upto curveAddsSpec)

/-- 'ratlinelaw09.CurveLaws', WHERE WHAT IT READS IS OF BULK AT MOST 1048576: true; the input reads as it did. -/
def curveLawsUptoRow : OpenClaim := { program := "ytbcbihdfpkeacaa", sum := "7037a1c9f511875242b2d3b29f7523e9094c9f293c99e16097fa1b9a00b2fcb2", func := "ratline/ratlinelaw09.CurveLaws", spec := "curveLaws", inPlace := ["internal/bytealg.MakeNoZero", "math/bits.Add64"], unfollowed := true, recurses := true, apart := false, narrowed := true }
def CurveLawsUptoSaid : Prop := curveLawsUptoRow.holds Try.pinned (OpenSpec.upto curveLawsSpec)

/-- 'ratlinelaw09.CurveMuls', WHERE WHAT IT READS IS OF BULK AT MOST 1048576: true; the input reads as it did. -/
def curveMulsUptoRow : OpenClaim := { program := "ytbcbihdfpkeacaa", sum := "7037a1c9f511875242b2d3b29f7523e9094c9f293c99e16097fa1b9a00b2fcb2", func := "ratline/ratlinelaw09.CurveMuls", spec := "curveMuls", inPlace := ["internal/bytealg.MakeNoZero", "math/bits.Add64", "math/bits.Sub64"], unfollowed := true, recurses := true, apart := false, narrowed := true }
def CurveMulsUptoSaid : Prop := curveMulsUptoRow.holds Try.pinned (OpenSpec.upto curveMulsSpec)

/-- 'ratlinelaw10.SignHolds', WHERE WHAT IT READS IS OF BULK AT MOST 1048576: true; the input reads as it did. -/
def signHoldsUptoRow : OpenClaim := { program := "ytbcbihdfpkeacaa", sum := "7037a1c9f511875242b2d3b29f7523e9094c9f293c99e16097fa1b9a00b2fcb2", func := "ratline/ratlinelaw10.SignHolds", spec := "signHolds", inPlace := ["internal/bytealg.MakeNoZero", "math/bits.Add64", "math/bits.Sub64"], unfollowed := true, recurses := true, apart := false, narrowed := true }
def SignHoldsUptoSaid : Prop := signHoldsUptoRow.holds Try.pinned (OpenSpec.upto signHoldsSpec)

/-- 'ratlinelaw10.SignMakes', WHERE WHAT IT READS IS OF BULK AT MOST 1048576: true; the input reads as it did. -/
def signMakesUptoRow : OpenClaim := { program := "ytbcbihdfpkeacaa", sum := "7037a1c9f511875242b2d3b29f7523e9094c9f293c99e16097fa1b9a00b2fcb2", func := "ratline/ratlinelaw10.SignMakes", spec := "signMakes", inPlace := ["internal/bytealg.MakeNoZero", "math/bits.Add64", "math/bits.Sub64"], unfollowed := true, recurses := true, apart := false, narrowed := true }
def SignMakesUptoSaid : Prop := signMakesUptoRow.holds Try.pinned (OpenSpec.upto signMakesSpec)

/-- 'ratlinelaw10.SignBack', WHERE WHAT IT READS IS OF BULK AT MOST 1048576: true; the input reads as it did. -/
def signBackUptoRow : OpenClaim := { program := "ytbcbihdfpkeacaa", sum := "7037a1c9f511875242b2d3b29f7523e9094c9f293c99e16097fa1b9a00b2fcb2", func := "ratline/ratlinelaw10.SignBack", spec := "signBack", inPlace := ["internal/bytealg.MakeNoZero", "math/bits.Add64", "math/bits.Sub64"], unfollowed := true, recurses := true, apart := false, narrowed := true }
def SignBackUptoSaid : Prop := signBackUptoRow.holds Try.pinned (OpenSpec.upto signBackSpec)

end Rows
end Go.Proofs.Ytbcbihdfpkeacaa
