/- Leaves, parents and nodes that are taken of bytes: what node hands back. -/
import Derived.Test.YtpgalbgonmclaaaNdB
namespace Go.Proofs.Ytpgalbgonmclaaa
open Go.RowKit
attribute [local irreducible] Y Ef WL WC WK WQ WM OpM WN WF OpN
open Wire
namespace Nd
def lf1 (s : St) : St := (vecX s).2
def lf2 (s : St) : St := (vecX (lf1 s)).2
def lf3 (s : St) : St := (vecX (lf2 s)).2
def src (s : St) : Nat := (numX 1 (lf3 s)).1
end Nd
open Nd
theorem hd_eq {h i : Hd} (e : Value.slice h.A h.n h.c = .slice i.A i.n i.c) : h = i := by
  obtain ⟨a, b, c⟩ := h
  obtain ⟨a', b', c'⟩ := i
  simp only [Value.slice.injEq] at e
  obtain ⟨e1, e2, e3⟩ := e
  subst e1; subst e2; subst e3; rfl
end Go.Proofs.Ytpgalbgonmclaaa
