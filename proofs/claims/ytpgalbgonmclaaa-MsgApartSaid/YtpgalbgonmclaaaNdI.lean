/- The laws NodeTakes and NodeRows: they answer true whatever they are given. -/
import Derived.Test.YtpgalbgonmclaaaNdH
import Derived.Test.YtpgalbgonmclaaaNdD
namespace Go.Proofs.Ytpgalbgonmclaaa
open Go.RowKit
attribute [local irreducible] Y Ef WL WC WK WQ WM OpM WN WF OpN WJ OpJ
open Wire Nd
namespace Nd
theorem cok_vec {s : St} (h : ecode s < 256) : ecode (vecX s).2 < 256 := by
  cases s with
  | error c => exact h
  | ok xs =>
    rw [vecX_ok]
    cases hp : pVec xs with
    | error c => exact (pVec_err hp).2
    | ok p => exact (show 0 < 256 by omega)
theorem cok_num {s : St} (k : Nat) (h : ecode s < 256) : ecode (numX k s).2 < 256 := by
  cases s with
  | error c => exact h
  | ok xs =>
    rw [numX_ok]
    split
    · exact (show 4 < 256 by omega)
    · exact (show 0 < 256 by omega)
theorem num_le {s : St} (k : Nat) : slen (numX k s).2 ≤ slen s := by
  cases s with
  | error c => exact Nat.le_refl _
  | ok xs =>
    rw [numX_ok]
    split
    · exact Nat.zero_le _
    · show (xs.drop k).length ≤ xs.length
      rw [List.length_drop]; omega
theorem cok_lf4 {s : St} (h : ecode s < 256) : ecode (lf4 s) < 256 := cok_num 1 (cok_vec (cok_vec (cok_vec h)))
theorem cok_leafQ {s : St} (h : ecode s < 256) : ecode (leafQ s).2 < 256 := by
  unfold leafQ leafP
  split
  · exact cok_vec (cok_vec (cok_lf4 h))
  · exact cok_vec (cok_lf4 h)
theorem cok_leafX {s : St} (h : ecode s < 256) : (leafX s).1.2 < 256 ∧ ecode (leafX s).2 < 256 := by
  have h4 := cok_lf4 h; have hq := cok_leafQ h
  unfold leafX
  split
  · exact ⟨h4, h4⟩
  · split
    · exact ⟨(show 3 < 256 by omega), h4⟩
    · split
      · exact ⟨hq, hq⟩
      · split
        · exact ⟨(show 0 < 256 by omega), hq⟩
        · exact ⟨(show 3 < 256 by omega), hq⟩
theorem fit_zero : Leaf.zero.Fit := ⟨Nat.zero_le _, Nat.zero_le _, Nat.zero_le _, Nat.zero_le _, Nat.zero_le _⟩
theorem fit_par0 : Par.zero.Fit := ⟨Nat.zero_le _, Nat.zero_le _, Nat.zero_le _⟩
theorem fit_leafX {s : St} (h : slen s ≤ 1000000) : (leafX s).1.1.Fit := by
  have a1 := vecX_le s; have a2 := vecX_le (lf1 s); have a3 := vecX_le (lf2 s)
  have a4 : slen (lf4 s) ≤ slen (lf3 s) := num_le 1
  have e1 : slen (lf1 s) ≤ slen s := a1.2
  have e2 : slen (lf2 s) ≤ slen (lf1 s) := a2.2
  have e3 : slen (lf3 s) ≤ slen (lf2 s) := a3.2
  have a5 : (leafP s).1.length ≤ slen s ∧ slen (leafP s).2 ≤ slen s := by
    unfold leafP
    split
    · have := vecX_le (lf4 s); omega
    · exact ⟨Nat.zero_le _, by show slen (lf4 s) ≤ slen s; omega⟩
  have a6 := vecX_le (leafP s).2
  have a7 : (leafQ s).1.length ≤ slen (leafP s).2 := a6.1
  have hl : (leafL s).Fit := ⟨by show (vecX s).1.length ≤ _; omega, by show (vecX (lf1 s)).1.length ≤ _; omega, by show (vecX (lf2 s)).1.length ≤ _; omega, by show (leafP s).1.length ≤ _; omega, by show (leafQ s).1.length ≤ _; omega⟩
  unfold leafX
  split
  · exact fit_zero
  · split
    · exact fit_zero
    · split
      · exact fit_zero
      · split
        · exact hl
        · exact fit_zero
end Nd
theorem nodeAt_zero (w : World) : NodeAt w zNodeV Node.zero := (NodeF.zero 0 w).at
theorem NodeS.kk {A : Option Addr} {n base : Nat} {b : List UInt8} {cs : Array Value} {x : Node} {w : World} {S : List Nat} (h : NodeS A n b base w cs x) (hS : ∀ g ∈ S, g < base) : Kp w.heap.size S (fun w => NodeS A n b base w cs x) w := by
  obtain ⟨h0, h1, h2, h4, h5, p0, p1, p2, e, hk, hs, b0, b1, b2, b4, b5, q0, q1, q2⟩ := h
  exact ⟨Nat.le_refl _, fun w2 hw => ⟨h0, h1, h2, h4, h5, p0, p1, p2, e, hk, hs, b0, b1, b2, b4, b5, q0, q1, (q2.kk hS).2 w2 hw⟩⟩
theorem NodeS.ext {A : Option Addr} {n base : Nat} {b : List UInt8} {cs : Array Value} {x : Node} {w w' : World} (h : NodeS A n b base w cs x) (e : Ext w w') : NodeS A n b base w' cs x := NodeC.imp h (fun _ _ s => s) (fun _ _ z => z.ext e)
namespace Nd
theorem leafX_le (s : St) : slen (leafX s).2 ≤ slen s := by
  have a1 : slen (lf1 s) ≤ slen s := (vecX_le s).2
  have a2 : slen (lf2 s) ≤ slen (lf1 s) := (vecX_le (lf1 s)).2
  have a3 : slen (lf3 s) ≤ slen (lf2 s) := (vecX_le (lf2 s)).2
  have a4 : slen (lf4 s) ≤ slen (lf3 s) := num_le 1
  have a5 : slen (leafP s).2 ≤ slen (lf4 s) := by
    unfold leafP
    split
    · exact (vecX_le _).2
    · exact Nat.le_refl _
  have a6 : slen (leafQ s).2 ≤ slen (leafP s).2 := (vecX_le _).2
  unfold leafX
  split
  · show slen (lf4 s) ≤ _; omega
  · split
    · show slen (lf4 s) ≤ _; omega
    · split
      · show slen (leafQ s).2 ≤ _; omega
      · split
        · show slen (leafQ s).2 ≤ _; omega
        · show slen (leafQ s).2 ≤ _; omega
end Nd
end Go.Proofs.Ytpgalbgonmclaaa
