/- Cuts of an array behind a pointer:. -/
import Derived.Test.YtbcbihdfpkeacaaOffA
namespace Go.Proofs.Ytbcbihdfpkeacaa
open Go.RowKit
theorem y_cutarrl {P : Program} {L : List (Nat × Value)} {w : World} {t ty e : TypeId} {x y : Operand} {b off n j s : Nat} {k : IntKind} {a : Int} (hx : ev L x = some (.pointer (some ⟨b, off, none⟩))) (hy : ev L y = some (.int k a)) (hu : P.underlying t = some (.array n e)) (hs : (P.info? e).map (·.size) = some s) (ha : a = (j : Int)) (hj : j < n) :
    Y P L w (.slice t x (some y) none none) ty (.slice (some ⟨b, off + j * s, none⟩) (n - j) (n - j)) := fun ρ hρ w' _ _ _ _ _ => by
  subst ha
  have hb : ((Instr.sliceBounds false n n (some (.int k j)) none none).run P w') = .ok (j, n, n) w' := by
    have := Nat.le_of_lt hj
    simp [Instr.sliceBounds, Instr.sliceBound, asIntOf, this]
  have hne : ¬ (n = j) := by omega
  simp [execOp, hρ _ _ hx, hρ _ _ hy, Instr.sliceAt, Instr.sureAddr, run_underlying hu, hb, size_of_info hs, hne, Addr.add_plain]
theorem y_cutarrh {P : Program} {L : List (Nat × Value)} {w : World} {t ty e : TypeId} {x y : Operand} {A : Addr} {n j s : Nat} {k : IntKind} {a : Int} (hx : ev L x = some (.pointer (some A))) (hy : ev L y = some (.int k a)) (hu : P.underlying t = some (.array n e)) (hs : (P.info? e).map (·.size) = some s) (ha : a = (j : Int)) (hj : j ≤ n) :
    Y P L w (.slice t x none (some y) none) ty (.slice (some A) j n) := fun ρ hρ w' _ _ _ _ _ => by
  subst ha
  have hb : ((Instr.sliceBounds false n n none (some (.int k j)) none).run P w') = .ok (0, j, n) w' := by
    simp [Instr.sliceBounds, Instr.sliceBound, asIntOf, hj]
  simp [execOp, hρ _ _ hx, hρ _ _ hy, Instr.sliceAt, Instr.sureAddr, run_underlying hu, hb, size_of_info hs, Addr.add]
end Go.Proofs.Ytbcbihdfpkeacaa
