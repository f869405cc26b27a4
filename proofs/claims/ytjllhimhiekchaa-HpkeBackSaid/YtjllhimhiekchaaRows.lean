/-
  No cell of these rows narrows 'for every input' (looked for: loops, veiled, ifaces, maps, wideKeys, modest, calm, conditions, laid).
  DERIVED. THE GIVEN ROWS OF THIS SEAT. 6 by the template 'for every input the law returns true; each argument reads behind the call as it read before'; 0 by the template 'total and deterministic' (their statements: YtjllhimhiekchaaTotals.lean).
  GIVEN WITH THE SEED: the statements are not yours to turn. If you find one false, say at which input.
  Laid BY PROGRAM, IN A SANDBOX (cutbox-rows.mjs): the forced cells as the released guide's own fill.sh prints them over the translation 1a82c0f44476f36a… (all of the seat's roots in one cut). By AI agents, Wed Nov 11 2026. No macro, syntax, notation, axiom, sorry.
-/
import Derived.Test.YtjllhimhiekchaaChecked
import GoSem.Claim
import GoSem.ClaimJoined
import GoSem.ClaimMapViews
import Derived.JoinedTies
import Derived.KernelRfl
namespace Go.Proofs.Ytjllhimhiekchaa
/- THE CELL 'sum', in the pinned program and in every row, IS THE sha256 OF THE DUMP (.gsa) THAT YtjllhimhiekchaaProg.lean LOADS. Nothing in Lean hashes anything: it is a label: what it is worth is what the hold of that sum in a sandbox is worth. -/
noncomputable def Try.pinned : Pinned := { name := "ytjllhimhiekchaa", sum := "1a82c0f44476f36aa425b8b5a8a0617d682d8a31fee4c89be64228a061466903", checked := Try.checked }
namespace Rows
def none {H : Type} : Left H := { results := [], args := [] }

/-- 'ratlinelaw13.HpkePairs': WHATEVER THE INPUT: true; the input reads as it did. -/
def hpkePairsSpec : ChangeSpec := { name := "hpkePairs", fn := fun _ => fun
  | [d] => { results := [.lit (.bool true)], args := [d] }
  | _ => none }
def hpkePairsRow : OpenClaim := { program := "ytjllhimhiekchaa", sum := "1a82c0f44476f36aa425b8b5a8a0617d682d8a31fee4c89be64228a061466903", func := "ratline/ratlinelaw13.HpkePairs", spec := "hpkePairs", inPlace := ["math/bits.Add64", "internal/bytealg.MakeNoZero"], unfollowed := true, recurses := true, apart := false }
def HpkePairsSaid : Prop := hpkePairsRow.holds Try.pinned (OpenSpec.ofChange hpkePairsSpec)

/-- ITS FALSE NEIGHBOUR: 'it returns false'. Refute it at one input. -/
def hpkePairsWrong : ChangeSpec := { name := "hpkePairs", fn := fun _ => fun
  | [d] => { results := [.lit (.bool false)], args := [d] }
  | _ => none }
def HpkePairsWrongFalsely : Prop := hpkePairsRow.holds Try.pinned (OpenSpec.ofChange hpkePairsWrong)

/-- 'ratlinelaw13.HpkeUnwraps': WHATEVER THE INPUT: true; the input reads as it did. -/
def hpkeUnwrapsSpec : ChangeSpec := { name := "hpkeUnwraps", fn := fun _ => fun
  | [d1, d2, d3, d4] => { results := [.lit (.bool true)], args := [d1, d2, d3, d4] }
  | _ => none }
def hpkeUnwrapsRow : OpenClaim := { program := "ytjllhimhiekchaa", sum := "1a82c0f44476f36aa425b8b5a8a0617d682d8a31fee4c89be64228a061466903", func := "ratline/ratlinelaw13.HpkeUnwraps", spec := "hpkeUnwraps", inPlace := ["math/bits.Add64", "internal/bytealg.MakeNoZero"], unfollowed := true, recurses := true, apart := false }
def HpkeUnwrapsSaid : Prop := hpkeUnwrapsRow.holds Try.pinned (OpenSpec.ofChange hpkeUnwrapsSpec)

/-- ITS FALSE NEIGHBOUR: 'it returns false'. Refute it at one input. -/
def hpkeUnwrapsWrong : ChangeSpec := { name := "hpkeUnwraps", fn := fun _ => fun
  | [d1, d2, d3, d4] => { results := [.lit (.bool false)], args := [d1, d2, d3, d4] }
  | _ => none }
def HpkeUnwrapsWrongFalsely : Prop := hpkeUnwrapsRow.holds Try.pinned (OpenSpec.ofChange hpkeUnwrapsWrong)

/-- 'ratlinelaw13.HpkeWraps': WHATEVER THE INPUT: true; the input reads as it did. -/
def hpkeWrapsSpec : ChangeSpec := { name := "hpkeWraps", fn := fun _ => fun
  | [d1, d2] => { results := [.lit (.bool true)], args := [d1, d2] }
  | _ => none }
def hpkeWrapsRow : OpenClaim := { program := "ytjllhimhiekchaa", sum := "1a82c0f44476f36aa425b8b5a8a0617d682d8a31fee4c89be64228a061466903", func := "ratline/ratlinelaw13.HpkeWraps", spec := "hpkeWraps", inPlace := ["math/bits.Add64", "internal/bytealg.MakeNoZero"], unfollowed := true, recurses := true, apart := false }
def HpkeWrapsSaid : Prop := hpkeWrapsRow.holds Try.pinned (OpenSpec.ofChange hpkeWrapsSpec)

/-- ITS FALSE NEIGHBOUR: 'it returns false'. Refute it at one input. -/
def hpkeWrapsWrong : ChangeSpec := { name := "hpkeWraps", fn := fun _ => fun
  | [d1, d2] => { results := [.lit (.bool false)], args := [d1, d2] }
  | _ => none }
def HpkeWrapsWrongFalsely : Prop := hpkeWrapsRow.holds Try.pinned (OpenSpec.ofChange hpkeWrapsWrong)

/-- 'ratlinelaw13.HpkeSeals': WHATEVER THE INPUT: true; the input reads as it did. -/
def hpkeSealsSpec : ChangeSpec := { name := "hpkeSeals", fn := fun _ => fun
  | [d1, d2, d3, d4, d5] => { results := [.lit (.bool true)], args := [d1, d2, d3, d4, d5] }
  | _ => none }
def hpkeSealsRow : OpenClaim := { program := "ytjllhimhiekchaa", sum := "1a82c0f44476f36aa425b8b5a8a0617d682d8a31fee4c89be64228a061466903", func := "ratline/ratlinelaw13.HpkeSeals", spec := "hpkeSeals", inPlace := ["math/bits.Add64", "internal/bytealg.MakeNoZero"], unfollowed := true, recurses := true, apart := false }
def HpkeSealsSaid : Prop := hpkeSealsRow.holds Try.pinned (OpenSpec.ofChange hpkeSealsSpec)

/-- ITS FALSE NEIGHBOUR: 'it returns false'. Refute it at one input. -/
def hpkeSealsWrong : ChangeSpec := { name := "hpkeSeals", fn := fun _ => fun
  | [d1, d2, d3, d4, d5] => { results := [.lit (.bool false)], args := [d1, d2, d3, d4, d5] }
  | _ => none }
def HpkeSealsWrongFalsely : Prop := hpkeSealsRow.holds Try.pinned (OpenSpec.ofChange hpkeSealsWrong)

/-- 'ratlinelaw13.HpkeLabels': WHATEVER THE INPUT: true; the input reads as it did. -/
def hpkeLabelsSpec : ChangeSpec := { name := "hpkeLabels", fn := fun _ => fun
  | [d1, d2, d3, d4, d5] => { results := [.lit (.bool true)], args := [d1, d2, d3, d4, d5] }
  | _ => none }
def hpkeLabelsRow : OpenClaim := { program := "ytjllhimhiekchaa", sum := "1a82c0f44476f36aa425b8b5a8a0617d682d8a31fee4c89be64228a061466903", func := "ratline/ratlinelaw13.HpkeLabels", spec := "hpkeLabels", inPlace := ["math/bits.Add64", "internal/bytealg.MakeNoZero"], unfollowed := true, recurses := true, apart := false }
def HpkeLabelsSaid : Prop := hpkeLabelsRow.holds Try.pinned (OpenSpec.ofChange hpkeLabelsSpec)

/-- ITS FALSE NEIGHBOUR: 'it returns false'. Refute it at one input. -/
def hpkeLabelsWrong : ChangeSpec := { name := "hpkeLabels", fn := fun _ => fun
  | [d1, d2, d3, d4, d5] => { results := [.lit (.bool false)], args := [d1, d2, d3, d4, d5] }
  | _ => none }
def HpkeLabelsWrongFalsely : Prop := hpkeLabelsRow.holds Try.pinned (OpenSpec.ofChange hpkeLabelsWrong)

/-- 'ratlinelaw13.HpkeBack': WHATEVER THE INPUT: true; the input reads as it did. -/
def hpkeBackSpec : ChangeSpec := { name := "hpkeBack", fn := fun _ => fun
  | [d1, d2, d3, d4, d5] => { results := [.lit (.bool true)], args := [d1, d2, d3, d4, d5] }
  | _ => none }
def hpkeBackRow : OpenClaim := { program := "ytjllhimhiekchaa", sum := "1a82c0f44476f36aa425b8b5a8a0617d682d8a31fee4c89be64228a061466903", func := "ratline/ratlinelaw13.HpkeBack", spec := "hpkeBack", inPlace := ["math/bits.Add64", "internal/bytealg.MakeNoZero"], unfollowed := true, recurses := true, apart := false }
def HpkeBackSaid : Prop := hpkeBackRow.holds Try.pinned (OpenSpec.ofChange hpkeBackSpec)

/-- ITS FALSE NEIGHBOUR: 'it returns false'. Refute it at one input. -/
def hpkeBackWrong : ChangeSpec := { name := "hpkeBack", fn := fun _ => fun
  | [d1, d2, d3, d4, d5] => { results := [.lit (.bool false)], args := [d1, d2, d3, d4, d5] }
  | _ => none }
def HpkeBackWrongFalsely : Prop := hpkeBackRow.holds Try.pinned (OpenSpec.ofChange hpkeBackWrong)

/- THE SECOND FORM. 'bulk': how many values and letters a reading holds, each counted each time it is reached (what is shared counts as often as it is met; a slice's spare places count too). A statement '..UptoSaid' is the law's where the arguments, and the package variables that the reading takes, are together of bulk at most 1048576: NARROWER than '..Said'. Prove '..Said' where nothing that the law and all that it calls make is longer than what came in: it says more and counts as full. Else prove '..UptoSaid'. A law counts once. -/
mutual
def uptoBulk {H : Type} : DataW H → Nat
  | .lit (.string bytes) => bytes.length + 1
  | .lit _ => 1
  | .nil => 1
  | .ptr d => uptoBulk d + 1
  | .slice elems spare => uptoBulkAll elems + uptoBulkAll spare + 1
  | .agg parts => uptoBulkAll parts + 1
  | .iface _ d => uptoBulk d + 1
  | .map entries => uptoBulkEntries entries + 1
  | .held _ => 1
def uptoBulkAll {H : Type} : List (DataW H) → Nat
  | [] => 0
  | d :: r => uptoBulk d + uptoBulkAll r
def uptoBulkEntries {H : Type} : List (Lit × DataW H) → Nat
  | [] => 0
  | x :: r => uptoBulkEntry x + uptoBulkEntries r
def uptoBulkEntry {H : Type} : Lit × DataW H → Nat
  | (.string bytes, d) => bytes.length + uptoBulk d + 1
  | (_, d) => uptoBulk d + 1
 end
def uptoSmall : (H : Type) → List (DataW H) → Bool := fun _ ds => decide (uptoBulkAll ds ≤ 1048576)
def OpenSpec.upto (s : _root_.Go.ChangeSpec) : _root_.Go.OpenSpec := { _root_.Go.OpenSpec.ofChange s with cond := some uptoSmall }

/-- 'ratlinelaw13.HpkePairs', WHERE WHAT IT READS IS OF BULK AT MOST 1048576: true; the input reads as it did. -/
def hpkePairsUptoRow : OpenClaim := { program := "ytjllhimhiekchaa", sum := "1a82c0f44476f36aa425b8b5a8a0617d682d8a31fee4c89be64228a061466903", func := "ratline/ratlinelaw13.HpkePairs", spec := "hpkePairs", inPlace := ["math/bits.Add64", "internal/bytealg.MakeNoZero"], unfollowed := true, recurses := true, apart := false, narrowed := true }
def HpkePairsUptoSaid : Prop := hpkePairsUptoRow.holds Try.pinned (OpenSpec.upto hpkePairsSpec)

/-- 'ratlinelaw13.HpkeUnwraps', WHERE WHAT IT READS IS OF BULK AT MOST 1048576: true; the input reads as it did. -/
def hpkeUnwrapsUptoRow : OpenClaim := { program := "ytjllhimhiekchaa", sum := "1a82c0f44476f36aa425b8b5a8a0617d682d8a31fee4c89be64228a061466903", func := "ratline/ratlinelaw13.HpkeUnwraps", spec := "hpkeUnwraps", inPlace := ["math/bits.Add64", "internal/bytealg.MakeNoZero"], unfollowed := true, recurses := true, apart := false, narrowed := true }
def HpkeUnwrapsUptoSaid : Prop := hpkeUnwrapsUptoRow.holds Try.pinned (OpenSpec.upto hpkeUnwrapsSpec)

/-- 'ratlinelaw13.HpkeWraps', WHERE WHAT IT READS IS OF BULK AT MOST 1048576: true; the input reads as it did. -/
def hpkeWrapsUptoRow : OpenClaim := { program := "ytjllhimhiekchaa", sum := "1a82c0f44476f36aa425b8b5a8a0617d682d8a31fee4c89be64228a061466903", func := "ratline/ratlinelaw13.HpkeWraps", spec := "hpkeWraps", inPlace := ["math/bits.Add64", "internal/bytealg.MakeNoZero"], unfollowed := true, recurses := true, apart := false, narrowed := true }
def HpkeWrapsUptoSaid : Prop := hpkeWrapsUptoRow.holds Try.pinned (OpenSpec.upto hpkeWrapsSpec)

/-- 'ratlinelaw13.HpkeSeals', WHERE WHAT IT READS IS OF BULK AT MOST 1048576: true; the input reads as it did. -/
def hpkeSealsUptoRow : OpenClaim := { program := "ytjllhimhiekchaa", sum := "1a82c0f44476f36aa425b8b5a8a0617d682d8a31fee4c89be64228a061466903", func := "ratline/ratlinelaw13.HpkeSeals", spec := "hpkeSeals", inPlace := ["math/bits.Add64", "internal/bytealg.MakeNoZero"], unfollowed := true, recurses := true, apart := false, narrowed := true }
def HpkeSealsUptoSaid : Prop := hpkeSealsUptoRow.holds Try.pinned (OpenSpec.upto hpkeSealsSpec)

/-- 'ratlinelaw13.HpkeLabels', WHERE WHAT IT READS IS OF BULK AT MOST 1048576: true; the input reads as it did. -/
def hpkeLabelsUptoRow : OpenClaim := { program := "ytjllhimhiekchaa", sum := "1a82c0f44476f36aa425b8b5a8a0617d682d8a31fee4c89be64228a061466903", func := "ratline/ratlinelaw13.HpkeLabels", spec := "hpkeLabels", inPlace := ["math/bits.Add64", "internal/bytealg.MakeNoZero"], unfollowed := true, recurses := true, apart := false, narrowed := true }
def HpkeLabelsUptoSaid : Prop := hpkeLabelsUptoRow.holds Try.pinned (OpenSpec.upto hpkeLabelsSpec)

/-- 'ratlinelaw13.HpkeBack', WHERE WHAT IT READS IS OF BULK AT MOST 1048576: true; the input reads as it did. -/
def hpkeBackUptoRow : OpenClaim := { program := "ytjllhimhiekchaa", sum := "1a82c0f44476f36aa425b8b5a8a0617d682d8a31fee4c89be64228a061466903", func := "ratline/ratlinelaw13.HpkeBack", spec := "hpkeBack", inPlace := ["math/bits.Add64", "internal/bytealg.MakeNoZero"], unfollowed := true, recurses := true, apart := false, narrowed := true }
def HpkeBackUptoSaid : Prop := hpkeBackUptoRow.holds Try.pinned (OpenSpec.upto hpkeBackSpec)

end Rows
end Go.Proofs.Ytjllhimhiekchaa
