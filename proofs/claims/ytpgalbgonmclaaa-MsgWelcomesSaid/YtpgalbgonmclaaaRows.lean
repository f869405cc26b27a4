/-
  No cell of these rows narrows 'for every input' (looked for: loops, veiled, ifaces, maps, wideKeys, modest, calm, conditions, laid).
  DERIVED. THE GIVEN ROWS OF THIS SEAT. 7 by the template 'for every input the law returns true; each argument reads behind the call as it read before'; 0 by the template 'total and deterministic' (their statements: YtpgalbgonmclaaaTotals.lean).
  GIVEN WITH THE SEED: the statements are not yours to turn. If you find one false, say at which input.
  Laid BY PROGRAM, IN A SANDBOX (cutbox-rows.mjs): the forced cells as the released guide's own fill.sh prints them over the translation 4ea6fce30d5b1900… (all of the seat's roots in one cut). By AI agents, Wed Nov 11 2026. No macro, syntax, notation, axiom, sorry.
-/
import Derived.Test.YtpgalbgonmclaaaChecked
import GoSem.Claim
import GoSem.ClaimJoined
import GoSem.ClaimMapViews
import Derived.JoinedTies
import Derived.KernelRfl
namespace Go.Proofs.Ytpgalbgonmclaaa
/- THE CELL 'sum', in the pinned program and in every row, IS THE sha256 OF THE DUMP (.gsa) THAT YtpgalbgonmclaaaProg.lean LOADS. Nothing in Lean hashes anything: it is a label: what it is worth is what the hold of that sum in a sandbox is worth. -/
noncomputable def Try.pinned : Pinned := { name := "ytpgalbgonmclaaa", sum := "4ea6fce30d5b190002343923bcf4cdede7c09f7367f2840f9a340bb368de2ee4", checked := Try.checked }
namespace Rows
def none {H : Type} : Left H := { results := [], args := [] }

/-- 'ratlinelaw20.MsgProposals': WHATEVER THE INPUT: true; the input reads as it did. -/
def msgProposalsSpec : ChangeSpec := { name := "msgProposals", fn := fun _ => fun
  | [d1, d2] => { results := [.lit (.bool true)], args := [d1, d2] }
  | _ => none }
def msgProposalsRow : OpenClaim := { program := "ytpgalbgonmclaaa", sum := "4ea6fce30d5b190002343923bcf4cdede7c09f7367f2840f9a340bb368de2ee4", func := "ratline/ratlinelaw20.MsgProposals", spec := "msgProposals", unfollowed := true, recurses := true, apart := false }
def MsgProposalsSaid : Prop := msgProposalsRow.holds Try.pinned (OpenSpec.ofChange msgProposalsSpec)

/-- ITS FALSE NEIGHBOUR: 'it returns false'. Refute it at one input. -/
def msgProposalsWrong : ChangeSpec := { name := "msgProposals", fn := fun _ => fun
  | [d1, d2] => { results := [.lit (.bool false)], args := [d1, d2] }
  | _ => none }
def MsgProposalsWrongFalsely : Prop := msgProposalsRow.holds Try.pinned (OpenSpec.ofChange msgProposalsWrong)

/-- 'ratlinelaw20.MsgApart': WHATEVER THE INPUT: true; the input reads as it did. -/
def msgApartSpec : ChangeSpec := { name := "msgApart", fn := fun _ => fun
  | [d1, d2, d3, d4] => { results := [.lit (.bool true)], args := [d1, d2, d3, d4] }
  | _ => none }
def msgApartRow : OpenClaim := { program := "ytpgalbgonmclaaa", sum := "4ea6fce30d5b190002343923bcf4cdede7c09f7367f2840f9a340bb368de2ee4", func := "ratline/ratlinelaw20.MsgApart", spec := "msgApart", unfollowed := true, recurses := true, apart := false }
def MsgApartSaid : Prop := msgApartRow.holds Try.pinned (OpenSpec.ofChange msgApartSpec)

/-- ITS FALSE NEIGHBOUR: 'it returns false'. Refute it at one input. -/
def msgApartWrong : ChangeSpec := { name := "msgApart", fn := fun _ => fun
  | [d1, d2, d3, d4] => { results := [.lit (.bool false)], args := [d1, d2, d3, d4] }
  | _ => none }
def MsgApartWrongFalsely : Prop := msgApartRow.holds Try.pinned (OpenSpec.ofChange msgApartWrong)

/-- 'ratlinelaw20.MsgBytes': WHATEVER THE INPUT: true; the input reads as it did. -/
def msgBytesSpec : ChangeSpec := { name := "msgBytes", fn := fun _ => fun
  | [d1, d2] => { results := [.lit (.bool true)], args := [d1, d2] }
  | _ => none }
def msgBytesRow : OpenClaim := { program := "ytpgalbgonmclaaa", sum := "4ea6fce30d5b190002343923bcf4cdede7c09f7367f2840f9a340bb368de2ee4", func := "ratline/ratlinelaw20.MsgBytes", spec := "msgBytes", unfollowed := true, recurses := true, apart := false }
def MsgBytesSaid : Prop := msgBytesRow.holds Try.pinned (OpenSpec.ofChange msgBytesSpec)

/-- ITS FALSE NEIGHBOUR: 'it returns false'. Refute it at one input. -/
def msgBytesWrong : ChangeSpec := { name := "msgBytes", fn := fun _ => fun
  | [d1, d2] => { results := [.lit (.bool false)], args := [d1, d2] }
  | _ => none }
def MsgBytesWrongFalsely : Prop := msgBytesRow.holds Try.pinned (OpenSpec.ofChange msgBytesWrong)

/-- 'ratlinelaw20.MsgPackages': WHATEVER THE INPUT: true; the input reads as it did. -/
def msgPackagesSpec : ChangeSpec := { name := "msgPackages", fn := fun _ => fun
  | [d] => { results := [.lit (.bool true)], args := [d] }
  | _ => none }
def msgPackagesRow : OpenClaim := { program := "ytpgalbgonmclaaa", sum := "4ea6fce30d5b190002343923bcf4cdede7c09f7367f2840f9a340bb368de2ee4", func := "ratline/ratlinelaw20.MsgPackages", spec := "msgPackages", unfollowed := true, recurses := true, apart := false }
def MsgPackagesSaid : Prop := msgPackagesRow.holds Try.pinned (OpenSpec.ofChange msgPackagesSpec)

/-- ITS FALSE NEIGHBOUR: 'it returns false'. Refute it at one input. -/
def msgPackagesWrong : ChangeSpec := { name := "msgPackages", fn := fun _ => fun
  | [d] => { results := [.lit (.bool false)], args := [d] }
  | _ => none }
def MsgPackagesWrongFalsely : Prop := msgPackagesRow.holds Try.pinned (OpenSpec.ofChange msgPackagesWrong)

/-- 'ratlinelaw20.MsgInfos': WHATEVER THE INPUT: true; the input reads as it did. -/
def msgInfosSpec : ChangeSpec := { name := "msgInfos", fn := fun _ => fun
  | [d1, d2] => { results := [.lit (.bool true)], args := [d1, d2] }
  | _ => none }
def msgInfosRow : OpenClaim := { program := "ytpgalbgonmclaaa", sum := "4ea6fce30d5b190002343923bcf4cdede7c09f7367f2840f9a340bb368de2ee4", func := "ratline/ratlinelaw20.MsgInfos", spec := "msgInfos", unfollowed := true, recurses := true, apart := false }
def MsgInfosSaid : Prop := msgInfosRow.holds Try.pinned (OpenSpec.ofChange msgInfosSpec)

/-- ITS FALSE NEIGHBOUR: 'it returns false'. Refute it at one input. -/
def msgInfosWrong : ChangeSpec := { name := "msgInfos", fn := fun _ => fun
  | [d1, d2] => { results := [.lit (.bool false)], args := [d1, d2] }
  | _ => none }
def MsgInfosWrongFalsely : Prop := msgInfosRow.holds Try.pinned (OpenSpec.ofChange msgInfosWrong)

/-- 'ratlinelaw20.MsgWelcomes': WHATEVER THE INPUT: true; the input reads as it did. -/
def msgWelcomesSpec : ChangeSpec := { name := "msgWelcomes", fn := fun _ => fun
  | [d1, d2, d3, d4] => { results := [.lit (.bool true)], args := [d1, d2, d3, d4] }
  | _ => none }
def msgWelcomesRow : OpenClaim := { program := "ytpgalbgonmclaaa", sum := "4ea6fce30d5b190002343923bcf4cdede7c09f7367f2840f9a340bb368de2ee4", func := "ratline/ratlinelaw20.MsgWelcomes", spec := "msgWelcomes", unfollowed := true, recurses := true, apart := false }
def MsgWelcomesSaid : Prop := msgWelcomesRow.holds Try.pinned (OpenSpec.ofChange msgWelcomesSpec)

/-- ITS FALSE NEIGHBOUR: 'it returns false'. Refute it at one input. -/
def msgWelcomesWrong : ChangeSpec := { name := "msgWelcomes", fn := fun _ => fun
  | [d1, d2, d3, d4] => { results := [.lit (.bool false)], args := [d1, d2, d3, d4] }
  | _ => none }
def MsgWelcomesWrongFalsely : Prop := msgWelcomesRow.holds Try.pinned (OpenSpec.ofChange msgWelcomesWrong)

/-- 'ratlinelaw20.MsgBack': WHATEVER THE INPUT: true; the input reads as it did. -/
def msgBackSpec : ChangeSpec := { name := "msgBack", fn := fun _ => fun
  | [d1, d2] => { results := [.lit (.bool true)], args := [d1, d2] }
  | _ => none }
def msgBackRow : OpenClaim := { program := "ytpgalbgonmclaaa", sum := "4ea6fce30d5b190002343923bcf4cdede7c09f7367f2840f9a340bb368de2ee4", func := "ratline/ratlinelaw20.MsgBack", spec := "msgBack", unfollowed := true, recurses := true, apart := false }
def MsgBackSaid : Prop := msgBackRow.holds Try.pinned (OpenSpec.ofChange msgBackSpec)

/-- ITS FALSE NEIGHBOUR: 'it returns false'. Refute it at one input. -/
def msgBackWrong : ChangeSpec := { name := "msgBack", fn := fun _ => fun
  | [d1, d2] => { results := [.lit (.bool false)], args := [d1, d2] }
  | _ => none }
def MsgBackWrongFalsely : Prop := msgBackRow.holds Try.pinned (OpenSpec.ofChange msgBackWrong)

/- THE SECOND FORM. 'bulk': how many values and letters a reading holds, each counted each time it is reached (what is shared counts as often as it is met; a slice's spare places count too). A statement '..UptoSaid' is the law's where the arguments, and the package variables that the reading takes, are together of bulk at most 1048576: NARROWER than '..Said'. Prove '..Said' where nothing that the law and all that it calls make is longer than what came in: it says more and counts as full. Else prove '..UptoSaid'. A law counts once. -/
mutual
def uptoBulk {H : Type} : DataW H → Nat
  | .lit (.string bytes) => bytes.length + 1
  | .lit _ => 1
  | .nil => 1
  | .ptr d => uptoBulk d + 1
  | .slice elems spare => uptoBulkAll elems + uptoBulkAll spare + 1
  | .agg parts => uptoBulkAll parts + 1
  | .iface _ d => uptoBulk d + 1
  | .map entries => uptoBulkEntries entries + 1
  | .held _ => 1
def uptoBulkAll {H : Type} : List (DataW H) → Nat
  | [] => 0
  | d :: r => uptoBulk d + uptoBulkAll r
def uptoBulkEntries {H : Type} : List (Lit × DataW H) → Nat
  | [] => 0
  | x :: r => uptoBulkEntry x + uptoBulkEntries r
def uptoBulkEntry {H : Type} : Lit × DataW H → Nat
  | (.string bytes, d) => bytes.length + uptoBulk d + 1
  | (_, d) => uptoBulk d + 1
 end
def uptoSmall : (H : Type) → List (DataW H) → Bool := fun _ ds => decide (uptoBulkAll ds ≤ 1048576)
def OpenSpec.upto (s : _root_.Go.ChangeSpec) : _root_.Go.OpenSpec := { _root_.Go.OpenSpec.ofChange s with cond := some uptoSmall }

/-- 'ratlinelaw20.MsgProposals', WHERE WHAT IT READS IS OF BULK AT MOST 1048576: true; the input reads as it did. -/
def msgProposalsUptoRow : OpenClaim := { program := "ytpgalbgonmclaaa", sum := "4ea6fce30d5b190002343923bcf4cdede7c09f7367f2840f9a340bb368de2ee4", func := "ratline/ratlinelaw20.MsgProposals", spec := "msgProposals", unfollowed := true, recurses := true, apart := false, narrowed := true }
def MsgProposalsUptoSaid : Prop := msgProposalsUptoRow.holds Try.pinned (OpenSpec.upto msgProposalsSpec)

/-- 'ratlinelaw20.MsgApart', WHERE WHAT IT READS IS OF BULK AT MOST 1048576: true; the input reads as it did. -/
def msgApartUptoRow : OpenClaim := { program := "ytpgalbgonmclaaa", sum := "4ea6fce30d5b190002343923bcf4cdede7c09f7367f2840f9a340bb368de2ee4", func := "ratline/ratlinelaw20.MsgApart", spec := "msgApart", unfollowed := true, recurses := true, apart := false, narrowed := true }
def MsgApartUptoSaid : Prop := msgApartUptoRow.holds Try.pinned (OpenSpec.upto msgApartSpec)

/-- 'ratlinelaw20.MsgBytes', WHERE WHAT IT READS IS OF BULK AT MOST 1048576: true; the input reads as it did. -/
def msgBytesUptoRow : OpenClaim := { program := "ytpgalbgonmclaaa", sum := "4ea6fce30d5b190002343923bcf4cdede7c09f7367f2840f9a340bb368de2ee4", func := "ratline/ratlinelaw20.MsgBytes", spec := "msgBytes", unfollowed := true, recurses := true, apart := false, narrowed := true }
def MsgBytesUptoSaid : Prop := msgBytesUptoRow.holds Try.pinned (OpenSpec.upto msgBytesSpec)

/-- 'ratlinelaw20.MsgPackages', WHERE WHAT IT READS IS OF BULK AT MOST 1048576: true; the input reads as it did. -/
def msgPackagesUptoRow : OpenClaim := { program := "ytpgalbgonmclaaa", sum := "4ea6fce30d5b190002343923bcf4cdede7c09f7367f2840f9a340bb368de2ee4", func := "ratline/ratlinelaw20.MsgPackages", spec := "msgPackages", unfollowed := true, recurses := true, apart := false, narrowed := true }
def MsgPackagesUptoSaid : Prop := msgPackagesUptoRow.holds Try.pinned (OpenSpec.upto msgPackagesSpec)

/-- 'ratlinelaw20.MsgInfos', WHERE WHAT IT READS IS OF BULK AT MOST 1048576: true; the input reads as it did. -/
def msgInfosUptoRow : OpenClaim := { program := "ytpgalbgonmclaaa", sum := "4ea6fce30d5b190002343923bcf4cdede7c09f7367f2840f9a340bb368de2ee4", func := "ratline/ratlinelaw20.MsgInfos", spec := "msgInfos", unfollowed := true, recurses := true, apart := false, narrowed := true }
def MsgInfosUptoSaid : Prop := msgInfosUptoRow.holds Try.pinned (OpenSpec.upto msgInfosSpec)

/-- 'ratlinelaw20.MsgWelcomes', WHERE WHAT IT READS IS OF BULK AT MOST 1048576: true; the input reads as it did. -/
def msgWelcomesUptoRow : OpenClaim := { program := "ytpgalbgonmclaaa", sum := "4ea6fce30d5b190002343923bcf4cdede7c09f7367f2840f9a340bb368de2ee4", func := "ratline/ratlinelaw20.MsgWelcomes", spec := "msgWelcomes", unfollowed := true, recurses := true, apart := false, narrowed := true }
def MsgWelcomesUptoSaid : Prop := msgWelcomesUptoRow.holds Try.pinned (OpenSpec.upto msgWelcomesSpec)

/-- 'ratlinelaw20.MsgBack', WHERE WHAT IT READS IS OF BULK AT MOST 1048576: true; the input reads as it did. -/
def msgBackUptoRow : OpenClaim := { program := "ytpgalbgonmclaaa", sum := "4ea6fce30d5b190002343923bcf4cdede7c09f7367f2840f9a340bb368de2ee4", func := "ratline/ratlinelaw20.MsgBack", spec := "msgBack", unfollowed := true, recurses := true, apart := false, narrowed := true }
def MsgBackUptoSaid : Prop := msgBackUptoRow.holds Try.pinned (OpenSpec.upto msgBackSpec)

end Rows
end Go.Proofs.Ytpgalbgonmclaaa
