/- Drawn regions in which every operation keeps known blocks: operations that hang on a guard. No conditions: plain lemmas of the model. -/
import Derived.Test.YtpgalbgonmclaaaVk
namespace Go.Proofs.Ytpgalbgonmclaaa
open Go.RowKit
section
variable {P : Program} {ops : Array Oper} {Q : Exit → Act → World → Prop} {N : Nd} {L : List (Nat × Value)} {w : World} {G : List Nat}
theorem wg_gy {n : Nat} {listed : Array Bool} (i : Nat) {op : Op} {ty : TypeId} {v : Value} {dst : Option Tmp} {pos : String} {after : Array Edge} {j : Nat} {b : Bool} (hi : ops[i]? = some ⟨dst, op, ty, pos, after, some (j, b)⟩) (hf : freeByK .any ops listed i (depSet .any ops listed i) = true)
    (t : Tmp) (hj : (ops[j]?).bind (·.dst) = some t) (ht : look L t = some (.bool b)) (h : ∀ w', Kept G w w' → Y P L w' op ty v) (hd : dOk N dst = true)
    (hr : WG P ops (NoP Q) G n (listed.setIfInBounds i true) N (pushd dst v L) w) : WG P ops (NoP Q) G (n + 1) listed N L w :=
  wg_take hi hf (fun a ha => .inl ⟨by rw [wanted_of ha hj ht]; simp, fun w' e => h w' e a.eval (fun _ _ hx => ha.ev hx) w' (Ext.refl w') _ _ _ _⟩) hd hr
theorem og_gef {n : Nat} {listed : Array Bool} {i : Nat} {op : Op} {ty : TypeId} {Φ : Value → World → Prop} {dst : Option Tmp} {pos : String} {after : Array Edge} {j : Nat} {b : Bool} (hi : ops[i]? = some ⟨dst, op, ty, pos, after, some (j, b)⟩)
    (t : Tmp) (hj : (ops[j]?).bind (·.dst) = some t) (ht : look L t = some (.bool b)) (h : Ef P L w op ty Φ) (hd : dOk N dst = true)
    (hr : ∀ v w', Φ v w' → Kept G w w' ∧ WG P ops Q G n (listed.setIfInBounds i true) N (pushd dst v L) w') : OpG P ops Q G n listed i N L w := by
  intro a ha
  unfold wpOp
  simp only [hi]
  rw [if_pos (by rw [wanted_of ha hj ht]; simp)]
  exact .inl (h a N ha _ _ _ _ _ _ fun v w' hv => ⟨(hr v w' hv).1, (hr v w' hv).2 _ (ha.putd hd v)⟩)
theorem og_gcall {f : FuncId} {xs : List Operand} {ats : Array TypeId} {vs : List Value} {R : Ending → World → Prop} {fn : Func} {c : Code} {ty : TypeId} {dst : Option Tmp} {pos : String} {after : Array Edge} {n : Nat} {listed : Array Bool} {i j : Nat} {b : Bool} (hi : ops[i]? = some ⟨dst, .call { callee := .value (.func f), args := xs.toArray, argTypes := ats }, ty, pos, after, some (j, b)⟩)
    (t : Tmp) (hj : (ops[j]?).bind (·.dst) = some t) (ht : look L t = some (.bool b)) (hf : P.funcs[f]? = some fn) (hb : fn.body = some c) (hn : (fn.name == "runtime.NumGoroutine") = false) (hx : evs L xs = some vs) (h : Calls P f vs.toArray w R) (hd : dOk N dst = true)
    (hr : ∀ e w', R e w' → ∃ v, e = .returned v ∧ Kept G w w' ∧ WG P ops Q G n (listed.setIfInBounds i true) N (pushd dst v L) w') : OpG P ops Q G n listed i N L w :=
  og_gef hi t hj ht (ef_of_call hf hb hn hx h hr) hd fun _ _ hv => hv
end
end Go.Proofs.Ytpgalbgonmclaaa
