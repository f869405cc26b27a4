/-
  No cell of these rows narrows 'for every input' (looked for: loops, veiled, ifaces, maps, wideKeys, modest, calm, conditions, laid).
  DERIVED. THE GIVEN ROWS OF THIS SEAT. 8 by the template 'for every input the law returns true; each argument reads behind the call as it read before'; 0 by the template 'total and deterministic' (their statements: YtopimmomkapdoaaTotals.lean).
  GIVEN WITH THE SEED: the statements are not yours to turn. If you find one false, say at which input.
  Laid BY PROGRAM, IN A SANDBOX (cutbox-rows.mjs): the forced cells as the released guide's own fill.sh prints them over the translation eea0e7f3c671e5f3… (all of the seat's roots in one cut). By AI agents, Wed Nov 11 2026. No macro, syntax, notation, axiom, sorry.
-/
import Derived.Test.YtopimmomkapdoaaChecked
import GoSem.Claim
import GoSem.ClaimJoined
import GoSem.ClaimMapViews
import Derived.JoinedTies
import Derived.KernelRfl
namespace Go.Proofs.Ytopimmomkapdoaa
/- THE CELL 'sum', in the pinned program and in every row, IS THE sha256 OF THE DUMP (.gsa) THAT YtopimmomkapdoaaProg.lean LOADS. Nothing in Lean hashes anything: it is a label: what it is worth is what the hold of that sum in a sandbox is worth. -/
noncomputable def Try.pinned : Pinned := { name := "ytopimmomkapdoaa", sum := "eea0e7f3c671e5f374fc43a1e882f8612ba0289d60b8035fd60ca76d64b813a2", checked := Try.checked }
namespace Rows
def none {H : Type} : Left H := { results := [], args := [] }

/-- 'ratlinelaw16.NodeTakes': WHATEVER THE INPUT: true; the input reads as it did. -/
def nodeTakesSpec : ChangeSpec := { name := "nodeTakes", fn := fun _ => fun
  | [d] => { results := [.lit (.bool true)], args := [d] }
  | _ => none }
def nodeTakesRow : OpenClaim := { program := "ytopimmomkapdoaa", sum := "eea0e7f3c671e5f374fc43a1e882f8612ba0289d60b8035fd60ca76d64b813a2", func := "ratline/ratlinelaw16.NodeTakes", spec := "nodeTakes", apart := false }
def NodeTakesSaid : Prop := nodeTakesRow.holds Try.pinned (OpenSpec.ofChange nodeTakesSpec)

/-- ITS FALSE NEIGHBOUR: 'it returns false'. Refute it at one input. -/
def nodeTakesWrong : ChangeSpec := { name := "nodeTakes", fn := fun _ => fun
  | [d] => { results := [.lit (.bool false)], args := [d] }
  | _ => none }
def NodeTakesWrongFalsely : Prop := nodeTakesRow.holds Try.pinned (OpenSpec.ofChange nodeTakesWrong)

/-- 'ratlinelaw16.NodeRows': WHATEVER THE INPUT: true; the input reads as it did. -/
def nodeRowsSpec : ChangeSpec := { name := "nodeRows", fn := fun _ => fun
  | [d] => { results := [.lit (.bool true)], args := [d] }
  | _ => none }
def nodeRowsRow : OpenClaim := { program := "ytopimmomkapdoaa", sum := "eea0e7f3c671e5f374fc43a1e882f8612ba0289d60b8035fd60ca76d64b813a2", func := "ratline/ratlinelaw16.NodeRows", spec := "nodeRows", apart := false }
def NodeRowsSaid : Prop := nodeRowsRow.holds Try.pinned (OpenSpec.ofChange nodeRowsSpec)

/-- ITS FALSE NEIGHBOUR: 'it returns false'. Refute it at one input. -/
def nodeRowsWrong : ChangeSpec := { name := "nodeRows", fn := fun _ => fun
  | [d] => { results := [.lit (.bool false)], args := [d] }
  | _ => none }
def NodeRowsWrongFalsely : Prop := nodeRowsRow.holds Try.pinned (OpenSpec.ofChange nodeRowsWrong)

/-- 'ratlinelaw16.NodeBytes': WHATEVER THE INPUT: true; the input reads as it did. -/
def nodeBytesSpec : ChangeSpec := { name := "nodeBytes", fn := fun _ => fun
  | [d] => { results := [.lit (.bool true)], args := [d] }
  | _ => none }
def nodeBytesRow : OpenClaim := { program := "ytopimmomkapdoaa", sum := "eea0e7f3c671e5f374fc43a1e882f8612ba0289d60b8035fd60ca76d64b813a2", func := "ratline/ratlinelaw16.NodeBytes", spec := "nodeBytes", apart := false }
def NodeBytesSaid : Prop := nodeBytesRow.holds Try.pinned (OpenSpec.ofChange nodeBytesSpec)

/-- ITS FALSE NEIGHBOUR: 'it returns false'. Refute it at one input. -/
def nodeBytesWrong : ChangeSpec := { name := "nodeBytes", fn := fun _ => fun
  | [d] => { results := [.lit (.bool false)], args := [d] }
  | _ => none }
def NodeBytesWrongFalsely : Prop := nodeBytesRow.holds Try.pinned (OpenSpec.ofChange nodeBytesWrong)

/-- 'ratlinelaw16.NodeBack': WHATEVER THE INPUT: true; the input reads as it did. -/
def nodeBackSpec : ChangeSpec := { name := "nodeBack", fn := fun _ => fun
  | [d1, d2] => { results := [.lit (.bool true)], args := [d1, d2] }
  | _ => none }
def nodeBackRow : OpenClaim := { program := "ytopimmomkapdoaa", sum := "eea0e7f3c671e5f374fc43a1e882f8612ba0289d60b8035fd60ca76d64b813a2", func := "ratline/ratlinelaw16.NodeBack", spec := "nodeBack", apart := false }
def NodeBackSaid : Prop := nodeBackRow.holds Try.pinned (OpenSpec.ofChange nodeBackSpec)

/-- ITS FALSE NEIGHBOUR: 'it returns false'. Refute it at one input. -/
def nodeBackWrong : ChangeSpec := { name := "nodeBack", fn := fun _ => fun
  | [d1, d2] => { results := [.lit (.bool false)], args := [d1, d2] }
  | _ => none }
def NodeBackWrongFalsely : Prop := nodeBackRow.holds Try.pinned (OpenSpec.ofChange nodeBackWrong)

/-- 'ratlinelaw16.NodeCopies': WHATEVER THE INPUT: true; the input reads as it did. -/
def nodeCopiesSpec : ChangeSpec := { name := "nodeCopies", fn := fun _ => fun
  | [d1, d2] => { results := [.lit (.bool true)], args := [d1, d2] }
  | _ => none }
def nodeCopiesRow : OpenClaim := { program := "ytopimmomkapdoaa", sum := "eea0e7f3c671e5f374fc43a1e882f8612ba0289d60b8035fd60ca76d64b813a2", func := "ratline/ratlinelaw16.NodeCopies", spec := "nodeCopies", apart := false }
def NodeCopiesSaid : Prop := nodeCopiesRow.holds Try.pinned (OpenSpec.ofChange nodeCopiesSpec)

/-- ITS FALSE NEIGHBOUR: 'it returns false'. Refute it at one input. -/
def nodeCopiesWrong : ChangeSpec := { name := "nodeCopies", fn := fun _ => fun
  | [d1, d2] => { results := [.lit (.bool false)], args := [d1, d2] }
  | _ => none }
def NodeCopiesWrongFalsely : Prop := nodeCopiesRow.holds Try.pinned (OpenSpec.ofChange nodeCopiesWrong)

/-- 'ratlinelaw10.SignHolds': WHATEVER THE INPUT: true; the input reads as it did. -/
def signHoldsSpec : ChangeSpec := { name := "signHolds", fn := fun _ => fun
  | [d1, d2, d3] => { results := [.lit (.bool true)], args := [d1, d2, d3] }
  | _ => none }
def signHoldsRow : OpenClaim := { program := "ytopimmomkapdoaa", sum := "eea0e7f3c671e5f374fc43a1e882f8612ba0289d60b8035fd60ca76d64b813a2", func := "ratline/ratlinelaw10.SignHolds", spec := "signHolds", inPlace := ["internal/bytealg.MakeNoZero", "math/bits.Add64", "math/bits.Sub64"], unfollowed := true, recurses := true, apart := false }
def SignHoldsSaid : Prop := signHoldsRow.holds Try.pinned (OpenSpec.ofChange signHoldsSpec)

/-- ITS FALSE NEIGHBOUR: 'it returns false'. Refute it at one input. -/
def signHoldsWrong : ChangeSpec := { name := "signHolds", fn := fun _ => fun
  | [d1, d2, d3] => { results := [.lit (.bool false)], args := [d1, d2, d3] }
  | _ => none }
def SignHoldsWrongFalsely : Prop := signHoldsRow.holds Try.pinned (OpenSpec.ofChange signHoldsWrong)

/-- 'ratlinelaw10.SignMakes': WHATEVER THE INPUT: true; the input reads as it did. -/
def signMakesSpec : ChangeSpec := { name := "signMakes", fn := fun _ => fun
  | [d1, d2] => { results := [.lit (.bool true)], args := [d1, d2] }
  | _ => none }
def signMakesRow : OpenClaim := { program := "ytopimmomkapdoaa", sum := "eea0e7f3c671e5f374fc43a1e882f8612ba0289d60b8035fd60ca76d64b813a2", func := "ratline/ratlinelaw10.SignMakes", spec := "signMakes", inPlace := ["internal/bytealg.MakeNoZero", "math/bits.Add64", "math/bits.Sub64"], unfollowed := true, recurses := true, apart := false }
def SignMakesSaid : Prop := signMakesRow.holds Try.pinned (OpenSpec.ofChange signMakesSpec)

/-- ITS FALSE NEIGHBOUR: 'it returns false'. Refute it at one input. -/
def signMakesWrong : ChangeSpec := { name := "signMakes", fn := fun _ => fun
  | [d1, d2] => { results := [.lit (.bool false)], args := [d1, d2] }
  | _ => none }
def SignMakesWrongFalsely : Prop := signMakesRow.holds Try.pinned (OpenSpec.ofChange signMakesWrong)

/-- 'ratlinelaw10.SignBack': WHATEVER THE INPUT: true; the input reads as it did. -/
def signBackSpec : ChangeSpec := { name := "signBack", fn := fun _ => fun
  | [d1, d2, d3] => { results := [.lit (.bool true)], args := [d1, d2, d3] }
  | _ => none }
def signBackRow : OpenClaim := { program := "ytopimmomkapdoaa", sum := "eea0e7f3c671e5f374fc43a1e882f8612ba0289d60b8035fd60ca76d64b813a2", func := "ratline/ratlinelaw10.SignBack", spec := "signBack", inPlace := ["internal/bytealg.MakeNoZero", "math/bits.Add64", "math/bits.Sub64"], unfollowed := true, recurses := true, apart := false }
def SignBackSaid : Prop := signBackRow.holds Try.pinned (OpenSpec.ofChange signBackSpec)

/-- ITS FALSE NEIGHBOUR: 'it returns false'. Refute it at one input. -/
def signBackWrong : ChangeSpec := { name := "signBack", fn := fun _ => fun
  | [d1, d2, d3] => { results := [.lit (.bool false)], args := [d1, d2, d3] }
  | _ => none }
def SignBackWrongFalsely : Prop := signBackRow.holds Try.pinned (OpenSpec.ofChange signBackWrong)

/- THE SECOND FORM. 'bulk': how many values and letters a reading holds, each counted each time it is reached (what is shared counts as often as it is met; a slice's spare places count too). A statement '..UptoSaid' is the law's where the arguments, and the package variables that the reading takes, are together of bulk at most 1048576: NARROWER than '..Said'. Prove '..Said' where nothing that the law and all that it calls make is longer than what came in: it says more and counts as full. Else prove '..UptoSaid'. A law counts once. -/
mutual
def uptoBulk {H : Type} : DataW H → Nat
  | .lit (.string bytes) => bytes.length + 1
  | .lit _ => 1
  | .nil => 1
  | .ptr d => uptoBulk d + 1
  | .slice elems spare => uptoBulkAll elems + uptoBulkAll spare + 1
  | .agg parts => uptoBulkAll parts + 1
  | .iface _ d => uptoBulk d + 1
  | .map entries => uptoBulkEntries entries + 1
  | .held _ => 1
def uptoBulkAll {H : Type} : List (DataW H) → Nat
  | [] => 0
  | d :: r => uptoBulk d + uptoBulkAll r
def uptoBulkEntries {H : Type} : List (Lit × DataW H) → Nat
  | [] => 0
  | x :: r => uptoBulkEntry x + uptoBulkEntries r
def uptoBulkEntry {H : Type} : Lit × DataW H → Nat
  | (.string bytes, d) => bytes.length + uptoBulk d + 1
  | (_, d) => uptoBulk d + 1
 end
def uptoSmall : (H : Type) → List (DataW H) → Bool := fun _ ds => decide (uptoBulkAll ds ≤ 1048576)
def OpenSpec.upto (s : _root_.Go.ChangeSpec) : _root_.Go.OpenSpec := { _root_.Go.OpenSpec.ofChange s with cond := some uptoSmall }

/-- 'ratlinelaw16.NodeTakes', WHERE WHAT IT READS IS OF BULK AT MOST 1048576: true; the input reads as it did. -/
def nodeTakesUptoRow : OpenClaim := { program := "ytopimmomkapdoaa", sum := "eea0e7f3c671e5f374fc43a1e882f8612ba0289d60b8035fd60ca76d64b813a2", func := "ratline/ratlinelaw16.NodeTakes", spec := "nodeTakes", apart := false, narrowed := true }
def NodeTakesUptoSaid : Prop := nodeTakesUptoRow.holds Try.pinned (OpenSpec.upto nodeTakesSpec)

/-- 'ratlinelaw16.NodeRows', WHERE WHAT IT READS IS OF BULK AT MOST 1048576: true; the input reads as it did. -/
def nodeRowsUptoRow : OpenClaim := { program := "ytopimmomkapdoaa", sum := "eea0e7f3c671e5f374fc43a1e882f8612ba0289d60b8035fd60ca76d64b813a2", func := "ratline/ratlinelaw16.NodeRows", spec := "nodeRows", apart := false, narrowed := true }
def NodeRowsUptoSaid : Prop := nodeRowsUptoRow.holds Try.pinned (OpenSpec.upto nodeRowsSpec)

/-- 'ratlinelaw16.NodeBytes', WHERE WHAT IT READS IS OF BULK AT MOST 1048576: true; the input reads as it did. -/
def nodeBytesUptoRow : OpenClaim := { program := "ytopimmomkapdoaa", sum := "eea0e7f3c671e5f374fc43a1e882f8612ba0289d60b8035fd60ca76d64b813a2", func := "ratline/ratlinelaw16.NodeBytes", spec := "nodeBytes", apart := false, narrowed := true }
def NodeBytesUptoSaid : Prop := nodeBytesUptoRow.holds Try.pinned (OpenSpec.upto nodeBytesSpec)

/-- 'ratlinelaw16.NodeBack', WHERE WHAT IT READS IS OF BULK AT MOST 1048576: true; the input reads as it did. -/
def nodeBackUptoRow : OpenClaim := { program := "ytopimmomkapdoaa", sum := "eea0e7f3c671e5f374fc43a1e882f8612ba0289d60b8035fd60ca76d64b813a2", func := "ratline/ratlinelaw16.NodeBack", spec := "nodeBack", apart := false, narrowed := true }
def NodeBackUptoSaid : Prop := nodeBackUptoRow.holds Try.pinned (OpenSpec.upto nodeBackSpec)

/-- 'ratlinelaw16.NodeCopies', WHERE WHAT IT READS IS OF BULK AT MOST 1048576: true; the input reads as it did. -/
def nodeCopiesUptoRow : OpenClaim := { program := "ytopimmomkapdoaa", sum := "eea0e7f3c671e5f374fc43a1e882f8612ba0289d60b8035fd60ca76d64b813a2", func := "ratline/ratlinelaw16.NodeCopies", spec := "nodeCopies", apart := false, narrowed := true }
def NodeCopiesUptoSaid : Prop := nodeCopiesUptoRow.holds Try.pinned (OpenSpec.upto nodeCopiesSpec)

/-- 'ratlinelaw10.SignHolds', WHERE WHAT IT READS IS OF BULK AT MOST 1048576: true; the input reads as it did. -/
def signHoldsUptoRow : OpenClaim := { program := "ytopimmomkapdoaa", sum := "eea0e7f3c671e5f374fc43a1e882f8612ba0289d60b8035fd60ca76d64b813a2", func := "ratline/ratlinelaw10.SignHolds", spec := "signHolds", inPlace := ["internal/bytealg.MakeNoZero", "math/bits.Add64", "math/bits.Sub64"], unfollowed := true, recurses := true, apart := false, narrowed := true }
def SignHoldsUptoSaid : Prop := signHoldsUptoRow.holds Try.pinned (OpenSpec.upto signHoldsSpec)

/-- 'ratlinelaw10.SignMakes', WHERE WHAT IT READS IS OF BULK AT MOST 1048576: true; the input reads as it did. -/
def signMakesUptoRow : OpenClaim := { program := "ytopimmomkapdoaa", sum := "eea0e7f3c671e5f374fc43a1e882f8612ba0289d60b8035fd60ca76d64b813a2", func := "ratline/ratlinelaw10.SignMakes", spec := "signMakes", inPlace := ["internal/bytealg.MakeNoZero", "math/bits.Add64", "math/bits.Sub64"], unfollowed := true, recurses := true, apart := false, narrowed := true }
def SignMakesUptoSaid : Prop := signMakesUptoRow.holds Try.pinned (OpenSpec.upto signMakesSpec)

/-- 'ratlinelaw10.SignBack', WHERE WHAT IT READS IS OF BULK AT MOST 1048576: true; the input reads as it did. -/
def signBackUptoRow : OpenClaim := { program := "ytopimmomkapdoaa", sum := "eea0e7f3c671e5f374fc43a1e882f8612ba0289d60b8035fd60ca76d64b813a2", func := "ratline/ratlinelaw10.SignBack", spec := "signBack", inPlace := ["internal/bytealg.MakeNoZero", "math/bits.Add64", "math/bits.Sub64"], unfollowed := true, recurses := true, apart := false, narrowed := true }
def SignBackUptoSaid : Prop := signBackUptoRow.holds Try.pinned (OpenSpec.upto signBackSpec)

end Rows
end Go.Proofs.Ytopimmomkapdoaa
