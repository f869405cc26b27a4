/-
  No cell of these rows narrows 'for every input' (looked for: loops, veiled, ifaces, maps, wideKeys, modest, calm, conditions, laid).
  DERIVED. THE GIVEN ROWS OF THIS SEAT. 7 by the template 'for every input the law returns true; each argument reads behind the call as it read before'; 0 by the template 'total and deterministic' (their statements: YtopbahbhldgbbaaTotals.lean).
  GIVEN WITH THE SEED: the statements are not yours to turn. If you find one false, say at which input.
  Laid BY PROGRAM, IN A SANDBOX (cutbox-rows.mjs): the forced cells as the released guide's own fill.sh prints them over the translation 88d4e68d77db1ba4… (all of the seat's roots in one cut). By AI agents, Wed Nov 11 2026. No macro, syntax, notation, axiom, sorry.
-/
import Derived.Test.YtopbahbhldgbbaaChecked
import GoSem.Claim
import GoSem.ClaimJoined
import GoSem.ClaimMapViews
import Derived.JoinedTies
import Derived.KernelRfl
namespace Go.Proofs.Ytopbahbhldgbbaa
/- THE CELL 'sum', in the pinned program and in every row, IS THE sha256 OF THE DUMP (.gsa) THAT YtopbahbhldgbbaaProg.lean LOADS. Nothing in Lean hashes anything: it is a label: what it is worth is what the hold of that sum in a sandbox is worth. -/
noncomputable def Try.pinned : Pinned := { name := "ytopbahbhldgbbaa", sum := "88d4e68d77db1ba423f29d74819e57f4401e9563fe5f900b926c3f7ade53bea6", checked := Try.checked }
namespace Rows
def none {H : Type} : Left H := { results := [], args := [] }

/-- 'ratlinelaw02.ShaParts': WHATEVER THE INPUT: true; the input reads as it did. -/
def shaPartsSpec : ChangeSpec := { name := "shaParts", fn := fun _ => fun
  | [d] => { results := [.lit (.bool true)], args := [d] }
  | _ => none }
def shaPartsRow : OpenClaim := { program := "ytopbahbhldgbbaa", sum := "88d4e68d77db1ba423f29d74819e57f4401e9563fe5f900b926c3f7ade53bea6", func := "ratline/ratlinelaw02.ShaParts", spec := "shaParts", unfollowed := true, recurses := true, apart := false }
def ShaPartsSaid : Prop := shaPartsRow.holds Try.pinned (OpenSpec.ofChange shaPartsSpec)

/-- ITS FALSE NEIGHBOUR: 'it returns false'. Refute it at one input. -/
def shaPartsWrong : ChangeSpec := { name := "shaParts", fn := fun _ => fun
  | [d] => { results := [.lit (.bool false)], args := [d] }
  | _ => none }
def ShaPartsWrongFalsely : Prop := shaPartsRow.holds Try.pinned (OpenSpec.ofChange shaPartsWrong)

/-- 'ratlinelaw02.ShaStays': WHATEVER THE INPUT: true; the input reads as it did. -/
def shaStaysSpec : ChangeSpec := { name := "shaStays", fn := fun _ => fun
  | [d1, d2, d3] => { results := [.lit (.bool true)], args := [d1, d2, d3] }
  | _ => none }
def shaStaysRow : OpenClaim := { program := "ytopbahbhldgbbaa", sum := "88d4e68d77db1ba423f29d74819e57f4401e9563fe5f900b926c3f7ade53bea6", func := "ratline/ratlinelaw02.ShaStays", spec := "shaStays", unfollowed := true, recurses := true, apart := false }
def ShaStaysSaid : Prop := shaStaysRow.holds Try.pinned (OpenSpec.ofChange shaStaysSpec)

/-- ITS FALSE NEIGHBOUR: 'it returns false'. Refute it at one input. -/
def shaStaysWrong : ChangeSpec := { name := "shaStays", fn := fun _ => fun
  | [d1, d2, d3] => { results := [.lit (.bool false)], args := [d1, d2, d3] }
  | _ => none }
def ShaStaysWrongFalsely : Prop := shaStaysRow.holds Try.pinned (OpenSpec.ofChange shaStaysWrong)

/-- 'ratlinelaw23.SchedBinds': WHATEVER THE INPUT: true; the input reads as it did. -/
def schedBindsSpec : ChangeSpec := { name := "schedBinds", fn := fun _ => fun
  | [d1, d2, d3, d4] => { results := [.lit (.bool true)], args := [d1, d2, d3, d4] }
  | _ => none }
def schedBindsRow : OpenClaim := { program := "ytopbahbhldgbbaa", sum := "88d4e68d77db1ba423f29d74819e57f4401e9563fe5f900b926c3f7ade53bea6", func := "ratline/ratlinelaw23.SchedBinds", spec := "schedBinds", apart := false }
def SchedBindsSaid : Prop := schedBindsRow.holds Try.pinned (OpenSpec.ofChange schedBindsSpec)

/-- ITS FALSE NEIGHBOUR: 'it returns false'. Refute it at one input. -/
def schedBindsWrong : ChangeSpec := { name := "schedBinds", fn := fun _ => fun
  | [d1, d2, d3, d4] => { results := [.lit (.bool false)], args := [d1, d2, d3, d4] }
  | _ => none }
def SchedBindsWrongFalsely : Prop := schedBindsRow.holds Try.pinned (OpenSpec.ofChange schedBindsWrong)

/-- 'ratlinelaw23.SchedNext': WHATEVER THE INPUT: true; the input reads as it did. -/
def schedNextSpec : ChangeSpec := { name := "schedNext", fn := fun _ => fun
  | [d1, d2, d3] => { results := [.lit (.bool true)], args := [d1, d2, d3] }
  | _ => none }
def schedNextRow : OpenClaim := { program := "ytopbahbhldgbbaa", sum := "88d4e68d77db1ba423f29d74819e57f4401e9563fe5f900b926c3f7ade53bea6", func := "ratline/ratlinelaw23.SchedNext", spec := "schedNext", apart := false }
def SchedNextSaid : Prop := schedNextRow.holds Try.pinned (OpenSpec.ofChange schedNextSpec)

/-- ITS FALSE NEIGHBOUR: 'it returns false'. Refute it at one input. -/
def schedNextWrong : ChangeSpec := { name := "schedNext", fn := fun _ => fun
  | [d1, d2, d3] => { results := [.lit (.bool false)], args := [d1, d2, d3] }
  | _ => none }
def SchedNextWrongFalsely : Prop := schedNextRow.holds Try.pinned (OpenSpec.ofChange schedNextWrong)

/-- 'ratlinelaw23.SchedTags': WHATEVER THE INPUT: true; the input reads as it did. -/
def schedTagsSpec : ChangeSpec := { name := "schedTags", fn := fun _ => fun
  | [d1, d2, d3] => { results := [.lit (.bool true)], args := [d1, d2, d3] }
  | _ => none }
def schedTagsRow : OpenClaim := { program := "ytopbahbhldgbbaa", sum := "88d4e68d77db1ba423f29d74819e57f4401e9563fe5f900b926c3f7ade53bea6", func := "ratline/ratlinelaw23.SchedTags", spec := "schedTags", apart := false }
def SchedTagsSaid : Prop := schedTagsRow.holds Try.pinned (OpenSpec.ofChange schedTagsSpec)

/-- ITS FALSE NEIGHBOUR: 'it returns false'. Refute it at one input. -/
def schedTagsWrong : ChangeSpec := { name := "schedTags", fn := fun _ => fun
  | [d1, d2, d3] => { results := [.lit (.bool false)], args := [d1, d2, d3] }
  | _ => none }
def SchedTagsWrongFalsely : Prop := schedTagsRow.holds Try.pinned (OpenSpec.ofChange schedTagsWrong)

/-- 'ratlinelaw23.SchedExports': WHATEVER THE INPUT: true; the input reads as it did. -/
def schedExportsSpec : ChangeSpec := { name := "schedExports", fn := fun _ => fun
  | [d1, d2, d3, d4] => { results := [.lit (.bool true)], args := [d1, d2, d3, d4] }
  | _ => none }
def schedExportsRow : OpenClaim := { program := "ytopbahbhldgbbaa", sum := "88d4e68d77db1ba423f29d74819e57f4401e9563fe5f900b926c3f7ade53bea6", func := "ratline/ratlinelaw23.SchedExports", spec := "schedExports", apart := false }
def SchedExportsSaid : Prop := schedExportsRow.holds Try.pinned (OpenSpec.ofChange schedExportsSpec)

/-- ITS FALSE NEIGHBOUR: 'it returns false'. Refute it at one input. -/
def schedExportsWrong : ChangeSpec := { name := "schedExports", fn := fun _ => fun
  | [d1, d2, d3, d4] => { results := [.lit (.bool false)], args := [d1, d2, d3, d4] }
  | _ => none }
def SchedExportsWrongFalsely : Prop := schedExportsRow.holds Try.pinned (OpenSpec.ofChange schedExportsWrong)

/-- 'ratlinelaw23.SchedParts': WHATEVER THE INPUT: true; the input reads as it did. -/
def schedPartsSpec : ChangeSpec := { name := "schedParts", fn := fun _ => fun
  | [d1, d2, d3, d4, d5, d6, d7] => { results := [.lit (.bool true)], args := [d1, d2, d3, d4, d5, d6, d7] }
  | _ => none }
def schedPartsRow : OpenClaim := { program := "ytopbahbhldgbbaa", sum := "88d4e68d77db1ba423f29d74819e57f4401e9563fe5f900b926c3f7ade53bea6", func := "ratline/ratlinelaw23.SchedParts", spec := "schedParts", apart := false }
def SchedPartsSaid : Prop := schedPartsRow.holds Try.pinned (OpenSpec.ofChange schedPartsSpec)

/-- ITS FALSE NEIGHBOUR: 'it returns false'. Refute it at one input. -/
def schedPartsWrong : ChangeSpec := { name := "schedParts", fn := fun _ => fun
  | [d1, d2, d3, d4, d5, d6, d7] => { results := [.lit (.bool false)], args := [d1, d2, d3, d4, d5, d6, d7] }
  | _ => none }
def SchedPartsWrongFalsely : Prop := schedPartsRow.holds Try.pinned (OpenSpec.ofChange schedPartsWrong)

/- THE SECOND FORM. 'bulk': how many values and letters a reading holds, each counted each time it is reached (what is shared counts as often as it is met; a slice's spare places count too). A statement '..UptoSaid' is the law's where the arguments, and the package variables that the reading takes, are together of bulk at most 1048576: NARROWER than '..Said'. Prove '..Said' where nothing that the law and all that it calls make is longer than what came in: it says more and counts as full. Else prove '..UptoSaid'. A law counts once. -/
mutual
def uptoBulk {H : Type} : DataW H → Nat
  | .lit (.string bytes) => bytes.length + 1
  | .lit _ => 1
  | .nil => 1
  | .ptr d => uptoBulk d + 1
  | .slice elems spare => uptoBulkAll elems + uptoBulkAll spare + 1
  | .agg parts => uptoBulkAll parts + 1
  | .iface _ d => uptoBulk d + 1
  | .map entries => uptoBulkEntries entries + 1
  | .held _ => 1
def uptoBulkAll {H : Type} : List (DataW H) → Nat
  | [] => 0
  | d :: r => uptoBulk d + uptoBulkAll r
def uptoBulkEntries {H : Type} : List (Lit × DataW H) → Nat
  | [] => 0
  | x :: r => uptoBulkEntry x + uptoBulkEntries r
def uptoBulkEntry {H : Type} : Lit × DataW H → Nat
  | (.string bytes, d) => bytes.length + uptoBulk d + 1
  | (_, d) => uptoBulk d + 1
 end
def uptoSmall : (H : Type) → List (DataW H) → Bool := fun _ ds => decide (uptoBulkAll ds ≤ 1048576)
def OpenSpec.upto (s : _root_.Go.ChangeSpec) : _root_.Go.OpenSpec := { _root_.Go.OpenSpec.ofChange s with cond := some uptoSmall }

/-- 'ratlinelaw02.ShaParts', WHERE WHAT IT READS IS OF BULK AT MOST 1048576: true; the input reads as it did. -/
def shaPartsUptoRow : OpenClaim := { program := "ytopbahbhldgbbaa", sum := "88d4e68d77db1ba423f29d74819e57f4401e9563fe5f900b926c3f7ade53bea6", func := "ratline/ratlinelaw02.ShaParts", spec := "shaParts", unfollowed := true, recurses := true, apart := false, narrowed := true }
def ShaPartsUptoSaid : Prop := shaPartsUptoRow.holds Try.pinned (OpenSpec.upto shaPartsSpec)

/-- 'ratlinelaw02.ShaStays', WHERE WHAT IT READS IS OF BULK AT MOST 1048576: true; the input reads as it did. -/
def shaStaysUptoRow : OpenClaim := { program := "ytopbahbhldgbbaa", sum := "88d4e68d77db1ba423f29d74819e57f4401e9563fe5f900b926c3f7ade53bea6", func := "ratline/ratlinelaw02.ShaStays", spec := "shaStays", unfollowed := true, recurses := true, apart := false, narrowed := true }
def ShaStaysUptoSaid : Prop := shaStaysUptoRow.holds Try.pinned (OpenSpec.upto shaStaysSpec)

/-- 'ratlinelaw23.SchedBinds', WHERE WHAT IT READS IS OF BULK AT MOST 1048576: true; the input reads as it did. -/
def schedBindsUptoRow : OpenClaim := { program := "ytopbahbhldgbbaa", sum := "88d4e68d77db1ba423f29d74819e57f4401e9563fe5f900b926c3f7ade53bea6", func := "ratline/ratlinelaw23.SchedBinds", spec := "schedBinds", apart := false, narrowed := true }
def SchedBindsUptoSaid : Prop := schedBindsUptoRow.holds Try.pinned (OpenSpec.upto schedBindsSpec)

/-- 'ratlinelaw23.SchedNext', WHERE WHAT IT READS IS OF BULK AT MOST 1048576: true; the input reads as it did. -/
def schedNextUptoRow : OpenClaim := { program := "ytopbahbhldgbbaa", sum := "88d4e68d77db1ba423f29d74819e57f4401e9563fe5f900b926c3f7ade53bea6", func := "ratline/ratlinelaw23.SchedNext", spec := "schedNext", apart := false, narrowed := true }
def SchedNextUptoSaid : Prop := schedNextUptoRow.holds Try.pinned (OpenSpec.upto schedNextSpec)

/-- 'ratlinelaw23.SchedTags', WHERE WHAT IT READS IS OF BULK AT MOST 1048576: true; the input reads as it did. -/
def schedTagsUptoRow : OpenClaim := { program := "ytopbahbhldgbbaa", sum := "88d4e68d77db1ba423f29d74819e57f4401e9563fe5f900b926c3f7ade53bea6", func := "ratline/ratlinelaw23.SchedTags", spec := "schedTags", apart := false, narrowed := true }
def SchedTagsUptoSaid : Prop := schedTagsUptoRow.holds Try.pinned (OpenSpec.upto schedTagsSpec)

/-- 'ratlinelaw23.SchedExports', WHERE WHAT IT READS IS OF BULK AT MOST 1048576: true; the input reads as it did. -/
def schedExportsUptoRow : OpenClaim := { program := "ytopbahbhldgbbaa", sum := "88d4e68d77db1ba423f29d74819e57f4401e9563fe5f900b926c3f7ade53bea6", func := "ratline/ratlinelaw23.SchedExports", spec := "schedExports", apart := false, narrowed := true }
def SchedExportsUptoSaid : Prop := schedExportsUptoRow.holds Try.pinned (OpenSpec.upto schedExportsSpec)

/-- 'ratlinelaw23.SchedParts', WHERE WHAT IT READS IS OF BULK AT MOST 1048576: true; the input reads as it did. -/
def schedPartsUptoRow : OpenClaim := { program := "ytopbahbhldgbbaa", sum := "88d4e68d77db1ba423f29d74819e57f4401e9563fe5f900b926c3f7ade53bea6", func := "ratline/ratlinelaw23.SchedParts", spec := "schedParts", apart := false, narrowed := true }
def SchedPartsUptoSaid : Prop := schedPartsUptoRow.holds Try.pinned (OpenSpec.upto schedPartsSpec)

end Rows
end Go.Proofs.Ytopbahbhldgbbaa
