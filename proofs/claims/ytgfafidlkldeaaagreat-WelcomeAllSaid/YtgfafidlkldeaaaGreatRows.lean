/-
  No cell of these rows narrows 'for every input' (looked for: loops, veiled, ifaces, maps, wideKeys, modest, calm, conditions, laid).
  DERIVED. THE GIVEN ROWS OF THIS SEAT. 4 by the template 'for every input the law returns true; each argument reads behind the call as it read before'; 0 by the template 'total and deterministic' (their statements: YtgfafidlkldeaaaGreatTotals.lean).
  GIVEN WITH THE SEED: the statements are not yours to turn. If you find one false, say at which input.
  Laid BY PROGRAM, IN A SANDBOX (cutbox-rows.mjs): the forced cells as the released guide's own fill.sh prints them over the translation ba44548f723bf7c0… (all of the seat's roots in one cut). By AI agents, Wed Nov 11 2026. No macro, syntax, notation, axiom, sorry.
-/
import Derived.Test.YtgfafidlkldeaaaGreatChecked
import GoSem.Claim
import GoSem.ClaimJoined
import GoSem.ClaimMapViews
import Derived.JoinedTies
import Derived.KernelRfl
namespace Go.Proofs.YtgfafidlkldeaaaGreat
/- THE CELL 'sum', in the pinned program and in every row, IS THE sha256 OF THE DUMP (.gsa) THAT YtgfafidlkldeaaaGreatProg.lean LOADS. Nothing in Lean hashes anything: it is a label: what it is worth is what the hold of that sum in a sandbox is worth. -/
noncomputable def Tryz.pinned : Pinned := { name := "ytgfafidlkldeaaagreat", sum := "ba44548f723bf7c041652f69667815bafa87f5be1741a8c9b5be870fec2ad12f", checked := Tryz.checked }
namespace Rows
def none {H : Type} : Left H := { results := [], args := [] }

/-- 'ratlinelaw24.WelcomeRaw': WHATEVER THE INPUT: true; the input reads as it did. -/
def welcomeRawSpec : ChangeSpec := { name := "welcomeRaw", fn := fun _ => fun
  | [d1, d2, d3, d4] => { results := [.lit (.bool true)], args := [d1, d2, d3, d4] }
  | _ => none }
def welcomeRawRow : OpenClaim := { program := "ytgfafidlkldeaaagreat", sum := "ba44548f723bf7c041652f69667815bafa87f5be1741a8c9b5be870fec2ad12f", func := "ratline/ratlinelaw24.WelcomeRaw", spec := "welcomeRaw", inPlace := ["math/bits.Add64", "internal/bytealg.MakeNoZero", "math/bits.Sub64"], unfollowed := true, recurses := true, apart := false }
def WelcomeRawSaid : Prop := welcomeRawRow.holds Tryz.pinned (OpenSpec.ofChange welcomeRawSpec)

/-- ITS FALSE NEIGHBOUR: 'it returns false'. Refute it at one input. -/
def welcomeRawWrong : ChangeSpec := { name := "welcomeRaw", fn := fun _ => fun
  | [d1, d2, d3, d4] => { results := [.lit (.bool false)], args := [d1, d2, d3, d4] }
  | _ => none }
def WelcomeRawWrongFalsely : Prop := welcomeRawRow.holds Tryz.pinned (OpenSpec.ofChange welcomeRawWrong)

/-- 'ratlinelaw24.WelcomeOpens': WHATEVER THE INPUT: true; the input reads as it did. -/
def welcomeOpensSpec : ChangeSpec := { name := "welcomeOpens", fn := fun _ => fun
  | [d1, d2, d3, d4, d5, d6, d7, d8] => { results := [.lit (.bool true)], args := [d1, d2, d3, d4, d5, d6, d7, d8] }
  | _ => none }
def welcomeOpensRow : OpenClaim := { program := "ytgfafidlkldeaaagreat", sum := "ba44548f723bf7c041652f69667815bafa87f5be1741a8c9b5be870fec2ad12f", func := "ratline/ratlinelaw24.WelcomeOpens", spec := "welcomeOpens", inPlace := ["math/bits.Add64", "internal/bytealg.MakeNoZero", "math/bits.Sub64"], unfollowed := true, recurses := true, apart := false }
def WelcomeOpensSaid : Prop := welcomeOpensRow.holds Tryz.pinned (OpenSpec.ofChange welcomeOpensSpec)

/-- ITS FALSE NEIGHBOUR: 'it returns false'. Refute it at one input. -/
def welcomeOpensWrong : ChangeSpec := { name := "welcomeOpens", fn := fun _ => fun
  | [d1, d2, d3, d4, d5, d6, d7, d8] => { results := [.lit (.bool false)], args := [d1, d2, d3, d4, d5, d6, d7, d8] }
  | _ => none }
def WelcomeOpensWrongFalsely : Prop := welcomeOpensRow.holds Tryz.pinned (OpenSpec.ofChange welcomeOpensWrong)

/-- 'ratlinelaw24.WelcomeMakes': WHATEVER THE INPUT: true; the input reads as it did. -/
def welcomeMakesSpec : ChangeSpec := { name := "welcomeMakes", fn := fun _ => fun
  | [d1, d2, d3, d4, d5] => { results := [.lit (.bool true)], args := [d1, d2, d3, d4, d5] }
  | _ => none }
def welcomeMakesRow : OpenClaim := { program := "ytgfafidlkldeaaagreat", sum := "ba44548f723bf7c041652f69667815bafa87f5be1741a8c9b5be870fec2ad12f", func := "ratline/ratlinelaw24.WelcomeMakes", spec := "welcomeMakes", inPlace := ["math/bits.Add64", "internal/bytealg.MakeNoZero", "math/bits.Sub64"], unfollowed := true, recurses := true, apart := false }
def WelcomeMakesSaid : Prop := welcomeMakesRow.holds Tryz.pinned (OpenSpec.ofChange welcomeMakesSpec)

/-- ITS FALSE NEIGHBOUR: 'it returns false'. Refute it at one input. -/
def welcomeMakesWrong : ChangeSpec := { name := "welcomeMakes", fn := fun _ => fun
  | [d1, d2, d3, d4, d5] => { results := [.lit (.bool false)], args := [d1, d2, d3, d4, d5] }
  | _ => none }
def WelcomeMakesWrongFalsely : Prop := welcomeMakesRow.holds Tryz.pinned (OpenSpec.ofChange welcomeMakesWrong)

/-- 'ratlinelaw24.WelcomeAll': WHATEVER THE INPUT: true; the input reads as it did. -/
def welcomeAllSpec : ChangeSpec := { name := "welcomeAll", fn := fun _ => fun
  | [d1, d2, d3, d4, d5] => { results := [.lit (.bool true)], args := [d1, d2, d3, d4, d5] }
  | _ => none }
def welcomeAllRow : OpenClaim := { program := "ytgfafidlkldeaaagreat", sum := "ba44548f723bf7c041652f69667815bafa87f5be1741a8c9b5be870fec2ad12f", func := "ratline/ratlinelaw24.WelcomeAll", spec := "welcomeAll", inPlace := ["math/bits.Add64", "internal/bytealg.MakeNoZero", "math/bits.Sub64"], unfollowed := true, recurses := true, apart := false }
def WelcomeAllSaid : Prop := welcomeAllRow.holds Tryz.pinned (OpenSpec.ofChange welcomeAllSpec)

/-- ITS FALSE NEIGHBOUR: 'it returns false'. Refute it at one input. -/
def welcomeAllWrong : ChangeSpec := { name := "welcomeAll", fn := fun _ => fun
  | [d1, d2, d3, d4, d5] => { results := [.lit (.bool false)], args := [d1, d2, d3, d4, d5] }
  | _ => none }
def WelcomeAllWrongFalsely : Prop := welcomeAllRow.holds Tryz.pinned (OpenSpec.ofChange welcomeAllWrong)

/- THE SECOND FORM. 'bulk': how many values and letters a reading holds, each counted each time it is reached (what is shared counts as often as it is met; a slice's spare places count too). A statement '..UptoSaid' is the law's where the arguments, and the package variables that the reading takes, are together of bulk at most 1048576: NARROWER than '..Said'. Prove '..Said' where nothing that the law and all that it calls make is longer than what came in: it says more and counts as full. Else prove '..UptoSaid'. A law counts once. -/
mutual
def uptoBulk {H : Type} : DataW H → Nat
  | .lit (.string bytes) => bytes.length + 1
  | .lit _ => 1
  | .nil => 1
  | .ptr d => uptoBulk d + 1
  | .slice elems spare => uptoBulkAll elems + uptoBulkAll spare + 1
  | .agg parts => uptoBulkAll parts + 1
  | .iface _ d => uptoBulk d + 1
  | .map entries => uptoBulkEntries entries + 1
  | .held _ => 1
def uptoBulkAll {H : Type} : List (DataW H) → Nat
  | [] => 0
  | d :: r => uptoBulk d + uptoBulkAll r
def uptoBulkEntries {H : Type} : List (Lit × DataW H) → Nat
  | [] => 0
  | x :: r => uptoBulkEntry x + uptoBulkEntries r
def uptoBulkEntry {H : Type} : Lit × DataW H → Nat
  | (.string bytes, d) => bytes.length + uptoBulk d + 1
  | (_, d) => uptoBulk d + 1
 end
def uptoSmall : (H : Type) → List (DataW H) → Bool := fun _ ds => decide (uptoBulkAll ds ≤ 1048576)
def OpenSpec.upto (s : _root_.Go.ChangeSpec) : _root_.Go.OpenSpec := { _root_.Go.OpenSpec.ofChange s with cond := some uptoSmall }

/-- 'ratlinelaw24.WelcomeRaw', WHERE WHAT IT READS IS OF BULK AT MOST 1048576: true; the input reads as it did. -/
def welcomeRawUptoRow : OpenClaim := { program := "ytgfafidlkldeaaagreat", sum := "ba44548f723bf7c041652f69667815bafa87f5be1741a8c9b5be870fec2ad12f", func := "ratline/ratlinelaw24.WelcomeRaw", spec := "welcomeRaw", inPlace := ["math/bits.Add64", "internal/bytealg.MakeNoZero", "math/bits.Sub64"], unfollowed := true, recurses := true, apart := false, narrowed := true }
def WelcomeRawUptoSaid : Prop := welcomeRawUptoRow.holds Tryz.pinned (OpenSpec.upto welcomeRawSpec)

/-- 'ratlinelaw24.WelcomeOpens', WHERE WHAT IT READS IS OF BULK AT MOST 1048576: true; the input reads as it did. -/
def welcomeOpensUptoRow : OpenClaim := { program := "ytgfafidlkldeaaagreat", sum := "ba44548f723bf7c041652f69667815bafa87f5be1741a8c9b5be870fec2ad12f", func := "ratline/ratlinelaw24.WelcomeOpens", spec := "welcomeOpens", inPlace := ["math/bits.Add64", "internal/bytealg.MakeNoZero", "math/bits.Sub64"], unfollowed := true, recurses := true, apart := false, narrowed := true }
def WelcomeOpensUptoSaid : Prop := welcomeOpensUptoRow.holds Tryz.pinned (OpenSpec.upto welcomeOpensSpec)

/-- 'ratlinelaw24.WelcomeMakes', WHERE WHAT IT READS IS OF BULK AT MOST 1048576: true; the input reads as it did. -/
def welcomeMakesUptoRow : OpenClaim := { program := "ytgfafidlkldeaaagreat", sum := "ba44548f723bf7c041652f69667815bafa87f5be1741a8c9b5be870fec2ad12f", func := "ratline/ratlinelaw24.WelcomeMakes", spec := "welcomeMakes", inPlace := ["math/bits.Add64", "internal/bytealg.MakeNoZero", "math/bits.Sub64"], unfollowed := true, recurses := true, apart := false, narrowed := true }
def WelcomeMakesUptoSaid : Prop := welcomeMakesUptoRow.holds Tryz.pinned (OpenSpec.upto welcomeMakesSpec)

/-- 'ratlinelaw24.WelcomeAll', WHERE WHAT IT READS IS OF BULK AT MOST 1048576: true; the input reads as it did. -/
def welcomeAllUptoRow : OpenClaim := { program := "ytgfafidlkldeaaagreat", sum := "ba44548f723bf7c041652f69667815bafa87f5be1741a8c9b5be870fec2ad12f", func := "ratline/ratlinelaw24.WelcomeAll", spec := "welcomeAll", inPlace := ["math/bits.Add64", "internal/bytealg.MakeNoZero", "math/bits.Sub64"], unfollowed := true, recurses := true, apart := false, narrowed := true }
def WelcomeAllUptoSaid : Prop := welcomeAllUptoRow.holds Tryz.pinned (OpenSpec.upto welcomeAllSpec)

end Rows
end Go.Proofs.YtgfafidlkldeaaaGreat
