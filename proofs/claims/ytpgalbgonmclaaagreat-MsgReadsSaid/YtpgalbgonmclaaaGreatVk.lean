/- A region that draws its order, with blocks that every operation keeps. No conditions: plain lemmas of the model. -/
import Derived.Test.YtpgalbgonmclaaaGreatVs
namespace Go.Proofs.YtpgalbgonmclaaaGreat
open Go.RowKit
/-- The blocks of G are as they were. -/
def Kept (G : List Nat) (w w' : World) : Prop := ∀ b ∈ G, w'.heap[b]? = w.heap[b]?
theorem Kept.refl (G : List Nat) (w : World) : Kept G w w := fun _ _ => rfl
theorem Kept.tr {G : List Nat} {w w' w'' : World} (h : Kept G w w') (k : Kept G w' w'') : Kept G w w'' := fun b hb => (k b hb).trans (h b hb)
theorem Kept.ext {G : List Nat} {w w' : World} (e : Ext w w') (h : ∀ b ∈ G, b < w.heap.size) : Kept G w w' := fun b hb => e.block b (h b hb)
theorem Kept.own {G : List Nat} {w w' : World} {o : Option Nat} (e : w.grownBy w' o) (h : ∀ b ∈ G, b < w.heap.size) (hn : ∀ b ∈ G, some b ≠ o) : Kept G w w' := fun b hb => e.block b (h b hb) (hn b hb)
theorem Kept.chs {G S : List Nat} {w w' : World} (e : Chs S w w') (h : ∀ b ∈ G, b < w.heap.size) (hn : ∀ b ∈ G, b ∉ S) : Kept G w w' := fun b hb => e.block b (h b hb) (hn b hb)
theorem Kept.chg {G : List Nat} {g : Nat} {w w' : World} (e : Chg w g w') (h : ∀ b ∈ G, b < w.heap.size) (hn : ∀ b ∈ G, b ≠ g) : Kept G w w' := fun b hb => e.block b (h b hb) (fun k => hn b hb (by injection k))
theorem Chs.own' {w w' : World} {o : Option Nat} (h : w.grownBy w' o) : Chs o.toList w w' :=
  ⟨h.os, h.tape, h.output, h.size, fun k hk hn => h.block k hk fun e => hn (by rw [← e]; simp)⟩
section
variable {P : Program} {ops : Array Oper} {Q : Exit → Act → World → Prop} {N : Nd} {L : List (Nat × Value)} {w : World} {G : List Nat}
section
variable {f : FuncId} {xs : List Operand} {ats : Array TypeId} {vs : List Value} {R : Ending → World → Prop} {fn : Func} {c : Code} {ty : TypeId} {dst : Option Tmp} {pos : String} {after : Array Edge}
end
end
theorem Kp.own {N : Nat} {Φ : World → Prop} {w w' : World} {o o' : Option Nat} (h : Kp N o.toList Φ w) (gr : w.grownBy w' o) (hgl : o' = o ∨ o' = some w.heap.size) : Kp N o'.toList Φ w' := by
  have h1 : Kp N o.toList Φ w' := h.chs (Chs.own' gr) (fun _ h => h)
  rcases hgl with rfl | rfl
  · exact h1
  · refine ⟨h1.1, fun w2 hw => h1.2 w2 fun k hk _ => hw k hk ?_⟩
    have := h.1
    simp; omega
theorem Ext.cellE {w w' : World} {a : Addr} {v : Value} (e : Ext w w') (h : w.cell? a = some v) : w'.cell? a = some v := (e.cell (cell_lt h)).trans h
end Go.Proofs.YtpgalbgonmclaaaGreat
