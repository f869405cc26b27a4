/- A region that draws its order, with what each operation may turn said ahead by number. No conditions: plain lemmas of the model. -/
import Derived.Test.YtpgalbgonmclaaaBytesA
namespace Go.Proofs.Ytpgalbgonmclaaa
open Go.RowKit
section
variable {P : Program} {ops : Array Oper} {Q : Exit → Act → World → Prop} {N : Nd} {L : List (Nat × Value)} {w : World} {M : List (Nat × List Nat)}
section
variable {f : FuncId} {xs : List Operand} {ats : Array TypeId} {vs : List Value} {R : Ending → World → Prop} {fn : Func} {c : Code} {ty : TypeId} {dst : Option Tmp} {pos : String} {after : Array Edge}
end
theorem Chs.own {w w' : World} {v : Value} (h : w.grownBy w' v.ownBlock) : Chs v.ownBlock.toList w w' :=
  ⟨h.os, h.tape, h.output, h.size, fun k hk hn => h.block k hk fun e => hn (by rw [← e]; simp)⟩
end
end Go.Proofs.Ytpgalbgonmclaaa
