/-
  No cell of these rows narrows 'for every input' (looked for: loops, veiled, ifaces, maps, wideKeys, modest, calm, conditions, laid).
  DERIVED. THE GIVEN ROWS OF THIS SEAT. 3 by the template 'for every input the law returns true; each argument reads behind the call as it read before'; 0 by the template 'total and deterministic' (their statements: YtopimmomkapdoaaGreatTotals.lean).
  GIVEN WITH THE SEED: the statements are not yours to turn. If you find one false, say at which input.
  Laid BY PROGRAM, IN A SANDBOX (cutbox-rows.mjs): the forced cells as the released guide's own fill.sh prints them over the translation 5912d6f7e89d5d30… (all of the seat's roots in one cut). By AI agents, Wed Nov 11 2026. No macro, syntax, notation, axiom, sorry.
-/
import Derived.Test.YtopimmomkapdoaaGreatChecked
import GoSem.Claim
import GoSem.ClaimJoined
import GoSem.ClaimMapViews
import Derived.JoinedTies
import Derived.KernelRfl
namespace Go.Proofs.YtopimmomkapdoaaGreat
/- THE CELL 'sum', in the pinned program and in every row, IS THE sha256 OF THE DUMP (.gsa) THAT YtopimmomkapdoaaGreatProg.lean LOADS. Nothing in Lean hashes anything: it is a label: what it is worth is what the hold of that sum in a sandbox is worth. -/
noncomputable def Tryz.pinned : Pinned := { name := "ytopimmomkapdoaagreat", sum := "5912d6f7e89d5d30a781eb3c3ba4111631573329cf91bbc13c5248320db7fd2f", checked := Tryz.checked }
namespace Rows
def none {H : Type} : Left H := { results := [], args := [] }

/-- 'ratlinelaw16.NodeChecks': WHATEVER THE INPUT: true; the input reads as it did. -/
def nodeChecksSpec : ChangeSpec := { name := "nodeChecks", fn := fun _ => fun
  | [d1, d2, d3] => { results := [.lit (.bool true)], args := [d1, d2, d3] }
  | _ => none }
def nodeChecksRow : OpenClaim := { program := "ytopimmomkapdoaagreat", sum := "5912d6f7e89d5d30a781eb3c3ba4111631573329cf91bbc13c5248320db7fd2f", func := "ratline/ratlinelaw16.NodeChecks", spec := "nodeChecks", inPlace := ["math/bits.Add64", "internal/bytealg.MakeNoZero", "math/bits.Sub64"], unfollowed := true, recurses := true, apart := false }
def NodeChecksSaid : Prop := nodeChecksRow.holds Tryz.pinned (OpenSpec.ofChange nodeChecksSpec)

/-- ITS FALSE NEIGHBOUR: 'it returns false'. Refute it at one input. -/
def nodeChecksWrong : ChangeSpec := { name := "nodeChecks", fn := fun _ => fun
  | [d1, d2, d3] => { results := [.lit (.bool false)], args := [d1, d2, d3] }
  | _ => none }
def NodeChecksWrongFalsely : Prop := nodeChecksRow.holds Tryz.pinned (OpenSpec.ofChange nodeChecksWrong)

/-- 'ratlinelaw16.NodeSigns': WHATEVER THE INPUT: true; the input reads as it did. -/
def nodeSignsSpec : ChangeSpec := { name := "nodeSigns", fn := fun _ => fun
  | [d1, d2, d3, d4] => { results := [.lit (.bool true)], args := [d1, d2, d3, d4] }
  | _ => none }
def nodeSignsRow : OpenClaim := { program := "ytopimmomkapdoaagreat", sum := "5912d6f7e89d5d30a781eb3c3ba4111631573329cf91bbc13c5248320db7fd2f", func := "ratline/ratlinelaw16.NodeSigns", spec := "nodeSigns", inPlace := ["internal/bytealg.MakeNoZero", "math/bits.Add64", "math/bits.Sub64"], unfollowed := true, recurses := true, apart := false }
def NodeSignsSaid : Prop := nodeSignsRow.holds Tryz.pinned (OpenSpec.ofChange nodeSignsSpec)

/-- ITS FALSE NEIGHBOUR: 'it returns false'. Refute it at one input. -/
def nodeSignsWrong : ChangeSpec := { name := "nodeSigns", fn := fun _ => fun
  | [d1, d2, d3, d4] => { results := [.lit (.bool false)], args := [d1, d2, d3, d4] }
  | _ => none }
def NodeSignsWrongFalsely : Prop := nodeSignsRow.holds Tryz.pinned (OpenSpec.ofChange nodeSignsWrong)

/-- 'ratlinelaw16.NodeMade': WHATEVER THE INPUT: true; the input reads as it did. -/
def nodeMadeSpec : ChangeSpec := { name := "nodeMade", fn := fun _ => fun
  | [d1, d2, d3, d4, d5, d6] => { results := [.lit (.bool true)], args := [d1, d2, d3, d4, d5, d6] }
  | _ => none }
def nodeMadeRow : OpenClaim := { program := "ytopimmomkapdoaagreat", sum := "5912d6f7e89d5d30a781eb3c3ba4111631573329cf91bbc13c5248320db7fd2f", func := "ratline/ratlinelaw16.NodeMade", spec := "nodeMade", inPlace := ["internal/bytealg.MakeNoZero", "math/bits.Add64", "math/bits.Sub64"], unfollowed := true, recurses := true, apart := false }
def NodeMadeSaid : Prop := nodeMadeRow.holds Tryz.pinned (OpenSpec.ofChange nodeMadeSpec)

/-- ITS FALSE NEIGHBOUR: 'it returns false'. Refute it at one input. -/
def nodeMadeWrong : ChangeSpec := { name := "nodeMade", fn := fun _ => fun
  | [d1, d2, d3, d4, d5, d6] => { results := [.lit (.bool false)], args := [d1, d2, d3, d4, d5, d6] }
  | _ => none }
def NodeMadeWrongFalsely : Prop := nodeMadeRow.holds Tryz.pinned (OpenSpec.ofChange nodeMadeWrong)

/- THE SECOND FORM. 'bulk': how many values and letters a reading holds, each counted each time it is reached (what is shared counts as often as it is met; a slice's spare places count too). A statement '..UptoSaid' is the law's where the arguments, and the package variables that the reading takes, are together of bulk at most 1048576: NARROWER than '..Said'. Prove '..Said' where nothing that the law and all that it calls make is longer than what came in: it says more and counts as full. Else prove '..UptoSaid'. A law counts once. -/
mutual
def uptoBulk {H : Type} : DataW H → Nat
  | .lit (.string bytes) => bytes.length + 1
  | .lit _ => 1
  | .nil => 1
  | .ptr d => uptoBulk d + 1
  | .slice elems spare => uptoBulkAll elems + uptoBulkAll spare + 1
  | .agg parts => uptoBulkAll parts + 1
  | .iface _ d => uptoBulk d + 1
  | .map entries => uptoBulkEntries entries + 1
  | .held _ => 1
def uptoBulkAll {H : Type} : List (DataW H) → Nat
  | [] => 0
  | d :: r => uptoBulk d + uptoBulkAll r
def uptoBulkEntries {H : Type} : List (Lit × DataW H) → Nat
  | [] => 0
  | x :: r => uptoBulkEntry x + uptoBulkEntries r
def uptoBulkEntry {H : Type} : Lit × DataW H → Nat
  | (.string bytes, d) => bytes.length + uptoBulk d + 1
  | (_, d) => uptoBulk d + 1
 end
def uptoSmall : (H : Type) → List (DataW H) → Bool := fun _ ds => decide (uptoBulkAll ds ≤ 1048576)
def OpenSpec.upto (s : _root_.Go.ChangeSpec) : _root_.Go.OpenSpec := { _root_.Go.OpenSpec.ofChange s with cond := some uptoSmall }

/-- 'ratlinelaw16.NodeChecks', WHERE WHAT IT READS IS OF BULK AT MOST 1048576: true; the input reads as it did. -/
def nodeChecksUptoRow : OpenClaim := { program := "ytopimmomkapdoaagreat", sum := "5912d6f7e89d5d30a781eb3c3ba4111631573329cf91bbc13c5248320db7fd2f", func := "ratline/ratlinelaw16.NodeChecks", spec := "nodeChecks", inPlace := ["math/bits.Add64", "internal/bytealg.MakeNoZero", "math/bits.Sub64"], unfollowed := true, recurses := true, apart := false, narrowed := true }
def NodeChecksUptoSaid : Prop := nodeChecksUptoRow.holds Tryz.pinned (OpenSpec.upto nodeChecksSpec)

/-- 'ratlinelaw16.NodeSigns', WHERE WHAT IT READS IS OF BULK AT MOST 1048576: true; the input reads as it did. -/
def nodeSignsUptoRow : OpenClaim := { program := "ytopimmomkapdoaagreat", sum := "5912d6f7e89d5d30a781eb3c3ba4111631573329cf91bbc13c5248320db7fd2f", func := "ratline/ratlinelaw16.NodeSigns", spec := "nodeSigns", inPlace := ["internal/bytealg.MakeNoZero", "math/bits.Add64", "math/bits.Sub64"], unfollowed := true, recurses := true, apart := false, narrowed := true }
def NodeSignsUptoSaid : Prop := nodeSignsUptoRow.holds Tryz.pinned (OpenSpec.upto nodeSignsSpec)

/-- 'ratlinelaw16.NodeMade', WHERE WHAT IT READS IS OF BULK AT MOST 1048576: true; the input reads as it did. -/
def nodeMadeUptoRow : OpenClaim := { program := "ytopimmomkapdoaagreat", sum := "5912d6f7e89d5d30a781eb3c3ba4111631573329cf91bbc13c5248320db7fd2f", func := "ratline/ratlinelaw16.NodeMade", spec := "nodeMade", inPlace := ["internal/bytealg.MakeNoZero", "math/bits.Add64", "math/bits.Sub64"], unfollowed := true, recurses := true, apart := false, narrowed := true }
def NodeMadeUptoSaid : Prop := nodeMadeUptoRow.holds Tryz.pinned (OpenSpec.upto nodeMadeSpec)

end Rows
end Go.Proofs.YtopimmomkapdoaaGreat
