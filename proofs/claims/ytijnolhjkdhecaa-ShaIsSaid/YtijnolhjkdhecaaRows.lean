/-
  No cell of these rows narrows 'for every input' (looked for: loops, veiled, ifaces, maps, wideKeys, modest, calm, conditions, laid).
  DERIVED. THE GIVEN ROWS OF THIS SEAT. 11 by the template 'for every input the law returns true; each argument reads behind the call as it read before'; 0 by the template 'total and deterministic' (their statements: YtijnolhjkdhecaaTotals.lean).
  GIVEN WITH THE SEED: the statements are not yours to turn. If you find one false, say at which input.
  Laid BY PROGRAM, IN A SANDBOX (cutbox-rows.mjs): the forced cells as the released guide's own fill.sh prints them over the translation 5765ca1f383fb7e0… (all of the seat's roots in one cut). By AI agents, Wed Nov 11 2026. No macro, syntax, notation, axiom, sorry.
-/
import Derived.Test.YtijnolhjkdhecaaChecked
import GoSem.Claim
import GoSem.ClaimJoined
import GoSem.ClaimMapViews
import Derived.JoinedTies
import Derived.KernelRfl
namespace Go.Proofs.Ytijnolhjkdhecaa
/- THE CELL 'sum', in the pinned program and in every row, IS THE sha256 OF THE DUMP (.gsa) THAT YtijnolhjkdhecaaProg.lean LOADS. Nothing in Lean hashes anything: it is a label: what it is worth is what the hold of that sum in a sandbox is worth. -/
noncomputable def Try.pinned : Pinned := { name := "ytijnolhjkdhecaa", sum := "5765ca1f383fb7e0b39461ec8d9d727282adcccf6fd0cf53d526ee0c466e4b6f", checked := Try.checked }
namespace Rows
def none {H : Type} : Left H := { results := [], args := [] }

/-- 'ratlinelaw02.ShaIs': WHATEVER THE INPUT: true; the input reads as it did. -/
def shaIsSpec : ChangeSpec := { name := "shaIs", fn := fun _ => fun
  | [d] => { results := [.lit (.bool true)], args := [d] }
  | _ => none }
def shaIsRow : OpenClaim := { program := "ytijnolhjkdhecaa", sum := "5765ca1f383fb7e0b39461ec8d9d727282adcccf6fd0cf53d526ee0c466e4b6f", func := "ratline/ratlinelaw02.ShaIs", spec := "shaIs", apart := false }
def ShaIsSaid : Prop := shaIsRow.holds Try.pinned (OpenSpec.ofChange shaIsSpec)

/-- ITS FALSE NEIGHBOUR: 'it returns false'. Refute it at one input. -/
def shaIsWrong : ChangeSpec := { name := "shaIs", fn := fun _ => fun
  | [d] => { results := [.lit (.bool false)], args := [d] }
  | _ => none }
def ShaIsWrongFalsely : Prop := shaIsRow.holds Try.pinned (OpenSpec.ofChange shaIsWrong)

/-- 'ratlinelaw02.ShaMore': WHATEVER THE INPUT: true; the input reads as it did. -/
def shaMoreSpec : ChangeSpec := { name := "shaMore", fn := fun _ => fun
  | [d1, d2] => { results := [.lit (.bool true)], args := [d1, d2] }
  | _ => none }
def shaMoreRow : OpenClaim := { program := "ytijnolhjkdhecaa", sum := "5765ca1f383fb7e0b39461ec8d9d727282adcccf6fd0cf53d526ee0c466e4b6f", func := "ratline/ratlinelaw02.ShaMore", spec := "shaMore", apart := false }
def ShaMoreSaid : Prop := shaMoreRow.holds Try.pinned (OpenSpec.ofChange shaMoreSpec)

/-- ITS FALSE NEIGHBOUR: 'it returns false'. Refute it at one input. -/
def shaMoreWrong : ChangeSpec := { name := "shaMore", fn := fun _ => fun
  | [d1, d2] => { results := [.lit (.bool false)], args := [d1, d2] }
  | _ => none }
def ShaMoreWrongFalsely : Prop := shaMoreRow.holds Try.pinned (OpenSpec.ofChange shaMoreWrong)

/-- 'ratlinelaw04.MacSame': WHATEVER THE INPUT: true; the input reads as it did. -/
def macSameSpec : ChangeSpec := { name := "macSame", fn := fun _ => fun
  | [d1, d2, d3, d4] => { results := [.lit (.bool true)], args := [d1, d2, d3, d4] }
  | _ => none }
def macSameRow : OpenClaim := { program := "ytijnolhjkdhecaa", sum := "5765ca1f383fb7e0b39461ec8d9d727282adcccf6fd0cf53d526ee0c466e4b6f", func := "ratline/ratlinelaw04.MacSame", spec := "macSame", apart := false }
def MacSameSaid : Prop := macSameRow.holds Try.pinned (OpenSpec.ofChange macSameSpec)

/-- ITS FALSE NEIGHBOUR: 'it returns false'. Refute it at one input. -/
def macSameWrong : ChangeSpec := { name := "macSame", fn := fun _ => fun
  | [d1, d2, d3, d4] => { results := [.lit (.bool false)], args := [d1, d2, d3, d4] }
  | _ => none }
def MacSameWrongFalsely : Prop := macSameRow.holds Try.pinned (OpenSpec.ofChange macSameWrong)

/-- 'ratlinelaw04.MacKeys': WHATEVER THE INPUT: true; the input reads as it did. -/
def macKeysSpec : ChangeSpec := { name := "macKeys", fn := fun _ => fun
  | [d1, d2, d3] => { results := [.lit (.bool true)], args := [d1, d2, d3] }
  | _ => none }
def macKeysRow : OpenClaim := { program := "ytijnolhjkdhecaa", sum := "5765ca1f383fb7e0b39461ec8d9d727282adcccf6fd0cf53d526ee0c466e4b6f", func := "ratline/ratlinelaw04.MacKeys", spec := "macKeys", apart := false }
def MacKeysSaid : Prop := macKeysRow.holds Try.pinned (OpenSpec.ofChange macKeysSpec)

/-- ITS FALSE NEIGHBOUR: 'it returns false'. Refute it at one input. -/
def macKeysWrong : ChangeSpec := { name := "macKeys", fn := fun _ => fun
  | [d1, d2, d3] => { results := [.lit (.bool false)], args := [d1, d2, d3] }
  | _ => none }
def MacKeysWrongFalsely : Prop := macKeysRow.holds Try.pinned (OpenSpec.ofChange macKeysWrong)

/-- 'ratlinelaw04.MacIs': WHATEVER THE INPUT: true; the input reads as it did. -/
def macIsSpec : ChangeSpec := { name := "macIs", fn := fun _ => fun
  | [d1, d2, d3, d4] => { results := [.lit (.bool true)], args := [d1, d2, d3, d4] }
  | _ => none }
def macIsRow : OpenClaim := { program := "ytijnolhjkdhecaa", sum := "5765ca1f383fb7e0b39461ec8d9d727282adcccf6fd0cf53d526ee0c466e4b6f", func := "ratline/ratlinelaw04.MacIs", spec := "macIs", apart := false }
def MacIsSaid : Prop := macIsRow.holds Try.pinned (OpenSpec.ofChange macIsSpec)

/-- ITS FALSE NEIGHBOUR: 'it returns false'. Refute it at one input. -/
def macIsWrong : ChangeSpec := { name := "macIs", fn := fun _ => fun
  | [d1, d2, d3, d4] => { results := [.lit (.bool false)], args := [d1, d2, d3, d4] }
  | _ => none }
def MacIsWrongFalsely : Prop := macIsRow.holds Try.pinned (OpenSpec.ofChange macIsWrong)

/-- 'ratlinelaw02.ShaParts': WHATEVER THE INPUT: true; the input reads as it did. -/
def shaPartsSpec : ChangeSpec := { name := "shaParts", fn := fun _ => fun
  | [d] => { results := [.lit (.bool true)], args := [d] }
  | _ => none }
def shaPartsRow : OpenClaim := { program := "ytijnolhjkdhecaa", sum := "5765ca1f383fb7e0b39461ec8d9d727282adcccf6fd0cf53d526ee0c466e4b6f", func := "ratline/ratlinelaw02.ShaParts", spec := "shaParts", unfollowed := true, recurses := true, apart := false }
def ShaPartsSaid : Prop := shaPartsRow.holds Try.pinned (OpenSpec.ofChange shaPartsSpec)

/-- ITS FALSE NEIGHBOUR: 'it returns false'. Refute it at one input. -/
def shaPartsWrong : ChangeSpec := { name := "shaParts", fn := fun _ => fun
  | [d] => { results := [.lit (.bool false)], args := [d] }
  | _ => none }
def ShaPartsWrongFalsely : Prop := shaPartsRow.holds Try.pinned (OpenSpec.ofChange shaPartsWrong)

/-- 'ratlinelaw02.ShaStays': WHATEVER THE INPUT: true; the input reads as it did. -/
def shaStaysSpec : ChangeSpec := { name := "shaStays", fn := fun _ => fun
  | [d1, d2, d3] => { results := [.lit (.bool true)], args := [d1, d2, d3] }
  | _ => none }
def shaStaysRow : OpenClaim := { program := "ytijnolhjkdhecaa", sum := "5765ca1f383fb7e0b39461ec8d9d727282adcccf6fd0cf53d526ee0c466e4b6f", func := "ratline/ratlinelaw02.ShaStays", spec := "shaStays", unfollowed := true, recurses := true, apart := false }
def ShaStaysSaid : Prop := shaStaysRow.holds Try.pinned (OpenSpec.ofChange shaStaysSpec)

/-- ITS FALSE NEIGHBOUR: 'it returns false'. Refute it at one input. -/
def shaStaysWrong : ChangeSpec := { name := "shaStays", fn := fun _ => fun
  | [d1, d2, d3] => { results := [.lit (.bool false)], args := [d1, d2, d3] }
  | _ => none }
def ShaStaysWrongFalsely : Prop := shaStaysRow.holds Try.pinned (OpenSpec.ofChange shaStaysWrong)

/-- 'ratlinelaw05.KdfCuts': WHATEVER THE INPUT: true; the input reads as it did. -/
def kdfCutsSpec : ChangeSpec := { name := "kdfCuts", fn := fun _ => fun
  | [d1, d2, d3, d4] => { results := [.lit (.bool true)], args := [d1, d2, d3, d4] }
  | _ => none }
def kdfCutsRow : OpenClaim := { program := "ytijnolhjkdhecaa", sum := "5765ca1f383fb7e0b39461ec8d9d727282adcccf6fd0cf53d526ee0c466e4b6f", func := "ratline/ratlinelaw05.KdfCuts", spec := "kdfCuts", apart := false }
def KdfCutsSaid : Prop := kdfCutsRow.holds Try.pinned (OpenSpec.ofChange kdfCutsSpec)

/-- ITS FALSE NEIGHBOUR: 'it returns false'. Refute it at one input. -/
def kdfCutsWrong : ChangeSpec := { name := "kdfCuts", fn := fun _ => fun
  | [d1, d2, d3, d4] => { results := [.lit (.bool false)], args := [d1, d2, d3, d4] }
  | _ => none }
def KdfCutsWrongFalsely : Prop := kdfCutsRow.holds Try.pinned (OpenSpec.ofChange kdfCutsWrong)

/-- 'ratlinelaw05.KdfExpands': WHATEVER THE INPUT: true; the input reads as it did. -/
def kdfExpandsSpec : ChangeSpec := { name := "kdfExpands", fn := fun _ => fun
  | [d1, d2, d3, d4] => { results := [.lit (.bool true)], args := [d1, d2, d3, d4] }
  | _ => none }
def kdfExpandsRow : OpenClaim := { program := "ytijnolhjkdhecaa", sum := "5765ca1f383fb7e0b39461ec8d9d727282adcccf6fd0cf53d526ee0c466e4b6f", func := "ratline/ratlinelaw05.KdfExpands", spec := "kdfExpands", apart := false }
def KdfExpandsSaid : Prop := kdfExpandsRow.holds Try.pinned (OpenSpec.ofChange kdfExpandsSpec)

/-- ITS FALSE NEIGHBOUR: 'it returns false'. Refute it at one input. -/
def kdfExpandsWrong : ChangeSpec := { name := "kdfExpands", fn := fun _ => fun
  | [d1, d2, d3, d4] => { results := [.lit (.bool false)], args := [d1, d2, d3, d4] }
  | _ => none }
def KdfExpandsWrongFalsely : Prop := kdfExpandsRow.holds Try.pinned (OpenSpec.ofChange kdfExpandsWrong)

/-- 'ratlinelaw05.KdfLabels': WHATEVER THE INPUT: true; the input reads as it did. -/
def kdfLabelsSpec : ChangeSpec := { name := "kdfLabels", fn := fun _ => fun
  | [d1, d2, d3, d4] => { results := [.lit (.bool true)], args := [d1, d2, d3, d4] }
  | _ => none }
def kdfLabelsRow : OpenClaim := { program := "ytijnolhjkdhecaa", sum := "5765ca1f383fb7e0b39461ec8d9d727282adcccf6fd0cf53d526ee0c466e4b6f", func := "ratline/ratlinelaw05.KdfLabels", spec := "kdfLabels", apart := false }
def KdfLabelsSaid : Prop := kdfLabelsRow.holds Try.pinned (OpenSpec.ofChange kdfLabelsSpec)

/-- ITS FALSE NEIGHBOUR: 'it returns false'. Refute it at one input. -/
def kdfLabelsWrong : ChangeSpec := { name := "kdfLabels", fn := fun _ => fun
  | [d1, d2, d3, d4] => { results := [.lit (.bool false)], args := [d1, d2, d3, d4] }
  | _ => none }
def KdfLabelsWrongFalsely : Prop := kdfLabelsRow.holds Try.pinned (OpenSpec.ofChange kdfLabelsWrong)

/-- 'ratlinelaw07.DhShares': WHATEVER THE INPUT: true; the input reads as it did. -/
def dhSharesSpec : ChangeSpec := { name := "dhShares", fn := fun _ => fun
  | [d1, d2] => { results := [.lit (.bool true)], args := [d1, d2] }
  | _ => none }
def dhSharesRow : OpenClaim := { program := "ytijnolhjkdhecaa", sum := "5765ca1f383fb7e0b39461ec8d9d727282adcccf6fd0cf53d526ee0c466e4b6f", func := "ratline/ratlinelaw07.DhShares", spec := "dhShares", inPlace := ["math/bits.Add64", "internal/bytealg.MakeNoZero"], unfollowed := true, recurses := true, apart := false }
def DhSharesSaid : Prop := dhSharesRow.holds Try.pinned (OpenSpec.ofChange dhSharesSpec)

/-- ITS FALSE NEIGHBOUR: 'it returns false'. Refute it at one input. -/
def dhSharesWrong : ChangeSpec := { name := "dhShares", fn := fun _ => fun
  | [d1, d2] => { results := [.lit (.bool false)], args := [d1, d2] }
  | _ => none }
def DhSharesWrongFalsely : Prop := dhSharesRow.holds Try.pinned (OpenSpec.ofChange dhSharesWrong)

/- THE SECOND FORM. 'bulk': how many values and letters a reading holds, each counted each time it is reached (what is shared counts as often as it is met; a slice's spare places count too). A statement '..UptoSaid' is the law's where the arguments, and the package variables that the reading takes, are together of bulk at most 1048576: NARROWER than '..Said'. Prove '..Said' where nothing that the law and all that it calls make is longer than what came in: it says more and counts as full. Else prove '..UptoSaid'. A law counts once. -/
mutual
def uptoBulk {H : Type} : DataW H → Nat
  | .lit (.string bytes) => bytes.length + 1
  | .lit _ => 1
  | .nil => 1
  | .ptr d => uptoBulk d + 1
  | .slice elems spare => uptoBulkAll elems + uptoBulkAll spare + 1
  | .agg parts => uptoBulkAll parts + 1
  | .iface _ d => uptoBulk d + 1
  | .map entries => uptoBulkEntries entries + 1
  | .held _ => 1
def uptoBulkAll {H : Type} : List (DataW H) → Nat
  | [] => 0
  | d :: r => uptoBulk d + uptoBulkAll r
def uptoBulkEntries {H : Type} : List (Lit × DataW H) → Nat
  | [] => 0
  | x :: r => uptoBulkEntry x + uptoBulkEntries r
def uptoBulkEntry {H : Type} : Lit × DataW H → Nat
  | (.string bytes, d) => bytes.length + uptoBulk d + 1
  | (_, d) => uptoBulk d + 1
 end
def uptoSmall : (H : Type) → List (DataW H) → Bool := fun _ ds => decide (uptoBulkAll ds ≤ 1048576)
def OpenSpec.upto (s : _root_.Go.ChangeSpec) : _root_.Go.OpenSpec := { _root_.Go.OpenSpec.ofChange s with cond := some uptoSmall }

/-- 'ratlinelaw02.ShaIs', WHERE WHAT IT READS IS OF BULK AT MOST 1048576: true; the input reads as it did. -/
def shaIsUptoRow : OpenClaim := { program := "ytijnolhjkdhecaa", sum := "5765ca1f383fb7e0b39461ec8d9d727282adcccf6fd0cf53d526ee0c466e4b6f", func := "ratline/ratlinelaw02.ShaIs", spec := "shaIs", apart := false, narrowed := true }
def ShaIsUptoSaid : Prop := shaIsUptoRow.holds Try.pinned (OpenSpec.upto shaIsSpec)

/-- 'ratlinelaw02.ShaMore', WHERE WHAT IT READS IS OF BULK AT MOST 1048576: true; the input reads as it did. -/
def shaMoreUptoRow : OpenClaim := { program := "ytijnolhjkdhecaa", sum := "5765ca1f383fb7e0b39461ec8d9d727282adcccf6fd0cf53d526ee0c466e4b6f", func := "ratline/ratlinelaw02.ShaMore", spec := "shaMore", apart := false, narrowed := true }
def ShaMoreUptoSaid : Prop := shaMoreUptoRow.holds Try.pinned (OpenSpec.upto shaMoreSpec)

/-- 'ratlinelaw04.MacSame', WHERE WHAT IT READS IS OF BULK AT MOST 1048576: true; the input reads as it did. -/
def macSameUptoRow : OpenClaim := { program := "ytijnolhjkdhecaa", sum := "5765ca1f383fb7e0b39461ec8d9d727282adcccf6fd0cf53d526ee0c466e4b6f", func := "ratline/ratlinelaw04.MacSame", spec := "macSame", apart := false, narrowed := true }
def MacSameUptoSaid : Prop := macSameUptoRow.holds Try.pinned (OpenSpec.upto macSameSpec)

/-- 'ratlinelaw04.MacKeys', WHERE WHAT IT READS IS OF BULK AT MOST 1048576: true; the input reads as it did. -/
def macKeysUptoRow : OpenClaim := { program := "ytijnolhjkdhecaa", sum := "5765ca1f383fb7e0b39461ec8d9d727282adcccf6fd0cf53d526ee0c466e4b6f", func := "ratline/ratlinelaw04.MacKeys", spec := "macKeys", apart := false, narrowed := true }
def MacKeysUptoSaid : Prop := macKeysUptoRow.holds Try.pinned (OpenSpec.upto macKeysSpec)

/-- 'ratlinelaw04.MacIs', WHERE WHAT IT READS IS OF BULK AT MOST 1048576: true; the input reads as it did. -/
def macIsUptoRow : OpenClaim := { program := "ytijnolhjkdhecaa", sum := "5765ca1f383fb7e0b39461ec8d9d727282adcccf6fd0cf53d526ee0c466e4b6f", func := "ratline/ratlinelaw04.MacIs", spec := "macIs", apart := false, narrowed := true }
def MacIsUptoSaid : Prop := macIsUptoRow.holds Try.pinned (OpenSpec.upto macIsSpec)

/-- 'ratlinelaw02.ShaParts', WHERE WHAT IT READS IS OF BULK AT MOST 1048576: true; the input reads as it did. -/
def shaPartsUptoRow : OpenClaim := { program := "ytijnolhjkdhecaa", sum := "5765ca1f383fb7e0b39461ec8d9d727282adcccf6fd0cf53d526ee0c466e4b6f", func := "ratline/ratlinelaw02.ShaParts", spec := "shaParts", unfollowed := true, recurses := true, apart := false, narrowed := true }
def ShaPartsUptoSaid : Prop := shaPartsUptoRow.holds Try.pinned (OpenSpec.upto shaPartsSpec)

/-- 'ratlinelaw02.ShaStays', WHERE WHAT IT READS IS OF BULK AT MOST 1048576: true; the input reads as it did. -/
def shaStaysUptoRow : OpenClaim := { program := "ytijnolhjkdhecaa", sum := "5765ca1f383fb7e0b39461ec8d9d727282adcccf6fd0cf53d526ee0c466e4b6f", func := "ratline/ratlinelaw02.ShaStays", spec := "shaStays", unfollowed := true, recurses := true, apart := false, narrowed := true }
def ShaStaysUptoSaid : Prop := shaStaysUptoRow.holds Try.pinned (OpenSpec.upto shaStaysSpec)

/-- 'ratlinelaw05.KdfCuts', WHERE WHAT IT READS IS OF BULK AT MOST 1048576: true; the input reads as it did. -/
def kdfCutsUptoRow : OpenClaim := { program := "ytijnolhjkdhecaa", sum := "5765ca1f383fb7e0b39461ec8d9d727282adcccf6fd0cf53d526ee0c466e4b6f", func := "ratline/ratlinelaw05.KdfCuts", spec := "kdfCuts", apart := false, narrowed := true }
def KdfCutsUptoSaid : Prop := kdfCutsUptoRow.holds Try.pinned (OpenSpec.upto kdfCutsSpec)

/-- 'ratlinelaw05.KdfExpands', WHERE WHAT IT READS IS OF BULK AT MOST 1048576: true; the input reads as it did. -/
def kdfExpandsUptoRow : OpenClaim := { program := "ytijnolhjkdhecaa", sum := "5765ca1f383fb7e0b39461ec8d9d727282adcccf6fd0cf53d526ee0c466e4b6f", func := "ratline/ratlinelaw05.KdfExpands", spec := "kdfExpands", apart := false, narrowed := true }
def KdfExpandsUptoSaid : Prop := kdfExpandsUptoRow.holds Try.pinned (OpenSpec.upto kdfExpandsSpec)

/-- 'ratlinelaw05.KdfLabels', WHERE WHAT IT READS IS OF BULK AT MOST 1048576: true; the input reads as it did. -/
def kdfLabelsUptoRow : OpenClaim := { program := "ytijnolhjkdhecaa", sum := "5765ca1f383fb7e0b39461ec8d9d727282adcccf6fd0cf53d526ee0c466e4b6f", func := "ratline/ratlinelaw05.KdfLabels", spec := "kdfLabels", apart := false, narrowed := true }
def KdfLabelsUptoSaid : Prop := kdfLabelsUptoRow.holds Try.pinned (OpenSpec.upto kdfLabelsSpec)

/-- 'ratlinelaw07.DhShares', WHERE WHAT IT READS IS OF BULK AT MOST 1048576: true; the input reads as it did. -/
def dhSharesUptoRow : OpenClaim := { program := "ytijnolhjkdhecaa", sum := "5765ca1f383fb7e0b39461ec8d9d727282adcccf6fd0cf53d526ee0c466e4b6f", func := "ratline/ratlinelaw07.DhShares", spec := "dhShares", inPlace := ["math/bits.Add64", "internal/bytealg.MakeNoZero"], unfollowed := true, recurses := true, apart := false, narrowed := true }
def DhSharesUptoSaid : Prop := dhSharesUptoRow.holds Try.pinned (OpenSpec.upto dhSharesSpec)

end Rows
end Go.Proofs.Ytijnolhjkdhecaa
