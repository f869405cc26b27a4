/- What a loop over a function's pieces asks of its body: small laws. -/
import Derived.Test.YtbcbihdfpkeacaaChunkA
import Derived.Test.YtbcbihdfpkeacaaLib
namespace Go.Proofs.Ytbcbihdfpkeacaa
open Go.RowKit
/-- The block of the rounds' deferred calls. -/
def Dfr (w : World) (D : Nat) : Prop := w.heap[D]? = some (.deferred (some []))
theorem Dfr.lt {w : World} {D : Nat} (h : Dfr w D) : D < w.heap.size := (Array.getElem?_eq_some_iff.1 h).1
theorem Dfr.ext {w w' : World} {D : Nat} (h : Dfr w D) (k : Ext w w') : Dfr w' D := (k.block D h.lt).trans h
/-- What a call of step leaves the loop. -/
theorem keeps_grown {B g : Nat} {W W' : World} (hg : W.grownBy W' (some g)) (h : g < B) : KeepsFrom B W W' := KeepsFrom.of_grownBy hg (fun j e => by injection e with e; omega)
theorem kpb_grown {b1 b2 g : Nat} {W W' : World} (hg : W.grownBy W' (some g)) (h1 : b1 < W.heap.size) (h2 : b2 < W.heap.size) (n1 : b1 ≠ g) (n2 : b2 ≠ g) : KpB b1 b2 W W' :=
  ⟨hg.size, hg.block b1 h1 (fun e => n1 (by injection e)), hg.block b2 h2 (fun e => n2 (by injection e))⟩
theorem kpb_put {b1 b2 : Nat} (W : World) (l : Nat) (o o' : Obj) (h1 : b1 < l) (h2 : b2 < l) (h : W.heap[l]? = some o) : KpB b1 b2 W (W.putObj l o') :=
  ⟨by simp [World.putObj], World.putObj_heap_other (by omega), World.putObj_heap_other (by omega)⟩

theorem enters {P : Program} {f : FuncId} {fn : Func} {c : Code} (hf : P.funcs[f]? = some fn) (hb : fn.body = some c) (hn : (fn.name == "runtime.NumGoroutine") = false) (args : Array Value) (w : World) : (callFunc f args).run P w = .ok (.enter f args) w := by
  have hn' : ¬ fn.name = "runtime.NumGoroutine" := by simpa using hn
  simp [callFunc, hf, hb, hn']
theorem own_blk {β : Type} {B g : Nat} {t : TypeId} {f : β → Array Value} : OwnFrom B (fun s W => Blk W g t (f s)) := fun s W W' row hs hg hr =>
  (grownBy_keeps_cells hg (fun r e => (hr r e).2) hs rfl).trans hs
theorem own_bs {β : Type} {B : Nat} {A : Option Addr} {n : Nat} {xs : List UInt8} : OwnFrom B (fun (_ : β) W => Bs W A n xs) := fun s W W' row hs hg hr => by
  refine ⟨hs.1, ?_⟩
  rcases hs.2 with h | ⟨b, off, hA, hc⟩
  · exact .inl h
  · exact .inr ⟨b, off, hA, fun j u hj => cell_kept (hc j u hj) hg (fun r e => (hr r e).2)⟩
theorem own_size {β : Type} {B k : Nat} : OwnFrom B (fun (_ : β) W => k ≤ W.heap.size) := fun _ _ _ _ hs hg _ => Nat.le_trans hs hg.size
end Go.Proofs.Ytbcbihdfpkeacaa
