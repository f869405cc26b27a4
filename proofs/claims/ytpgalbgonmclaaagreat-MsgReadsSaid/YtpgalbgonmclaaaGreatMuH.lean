/- The reference's welcomes of bytes; the law MsgWelcomes. No conditions: contracts of functions. -/
import Derived.Test.YtpgalbgonmclaaaGreatMuB
import Derived.Test.YtpgalbgonmclaaaGreatMsE
import Derived.Test.YtpgalbgonmclaaaGreatPlA
import Derived.Test.YtpgalbgonmclaaaGreatMsJ
import Derived.Test.YtpgalbgonmclaaaGreatVk
/- The reference's infos, welcomes and secrets of bytes; a guest's secrets: what msg and the reference hand back. No conditions: contracts of functions. -/
namespace Go.Proofs.YtpgalbgonmclaaaGreat
open Go.RowKit
attribute [local irreducible] Y Ef WL WC WK WQ WM OpM WN WF OpN WJ OpJ
open Wire Nd M20
theorem PlS.get {A0 : Option Addr} {n0 : Nat} {b0 : List UInt8} {cs : Array Value} {s : St} (h : PlS A0 n0 b0 cs s) : ∃ A n c at_ e, cs = placeV A n c at_ e ∧ PlS A0 n0 b0 (placeV A n c at_ e) s := by
  have H := h
  obtain ⟨A, n, c, at_, e, b, rfl, _⟩ := h
  exact ⟨A, n, c, at_, e, rfl, H⟩
def InfS (A0 : Option Addr) (n0 : Nat) (b0 : List UInt8) (cs : Array Value) (x : Inf) : Prop := InfC (fun h xs => Sub A0 n0 b0 h.A h.n xs) cs x
theorem InfS.at {A0 : Option Addr} {n0 : Nat} {b0 : List UInt8} {cs : Array Value} {x : Inf} {w : World} (h : InfS A0 n0 b0 cs x) (HA : Bs w A0 n0 b0) : InfAt w cs x := InfC.imp h fun _ _ s => s w HA
theorem InfS.zero (A0 : Option Addr) (n0 : Nat) (b0 : List UInt8) : InfS A0 n0 b0 zInfV Inf.zero := ⟨_, _, _, _, _, rfl, (by decide), (by decide), Sub.nil _ _ _, Sub.nil _ _ _, Sub.nil _ _ _, Sub.nil _ _ _, Sub.nil _ _ _⟩
end Go.Proofs.YtpgalbgonmclaaaGreat

namespace Go.Proofs.YtpgalbgonmclaaaGreat
open Go.RowKit
attribute [local irreducible] Y Ef WL WC WK WQ WM OpM WN WF OpN WJ OpJ
open Wire Nd M20
theorem PlS.err {A0 : Option Addr} {n0 : Nat} {b0 : List UInt8} {s : St} {A : Option Addr} {n c t e : Nat} (h : PlS A0 n0 b0 (placeV A n c t e) s) : (e = 0 ∧ ∃ xs, s = .ok xs) ∨ (e ≠ 0 ∧ e < 256 ∧ s = .error e) := by
  obtain ⟨A', n', c', t', e', b', heq, _, _, _, _, hs⟩ := h
  have h1 := congrArg Array.toList heq
  simp only [placeV, List.cons.injEq, Value.int.injEq, true_and, and_true] at h1
  have h2 : e = e' := by omega
  subst h2
  rcases hs with ⟨h1, h2, _⟩ | h
  · exact .inl ⟨h1, _, h2⟩
  · exact .inr h
theorem PlS.seterr {A0 : Option Addr} {n0 : Nat} {b0 : List UInt8} {s : St} {A : Option Addr} {n c t e z : Nat} (h : PlS A0 n0 b0 (placeV A n c t e) s) (hz : z ≠ 0) (h8 : z < 256) : PlS A0 n0 b0 (placeV A n c t z) (.error z) := by
  obtain ⟨A', n', c', t', e', b', heq, hc, hn, hS, hl, hs⟩ := h
  have h1 := congrArg Array.toList heq
  simp only [placeV, List.cons.injEq, Value.int.injEq, Value.slice.injEq, true_and, and_true] at h1
  obtain ⟨⟨rfl, rfl, rfl⟩, h2, h3⟩ := h1
  exact ⟨_, _, _, t, z, b', rfl, hc, hn, hS, hl, .inr ⟨hz, h8, rfl⟩⟩
theorem PlS.note {A0 : Option Addr} {n0 : Nat} {b0 : List UInt8} {A pa : Option Addr} {n c t pn pc pt pe : Nat} {r : List UInt8} {st : St} (h : PlS A0 n0 b0 (placeV A n c t 0) (.ok r)) (hi : PlS A0 n0 b0 (placeV pa pn pc pt pe) st) : PlS A0 n0 b0 (placeV A n c t pe) (thenX r st) := by
  rcases hi.err with ⟨rfl, xs, rfl⟩ | ⟨h1, h2, rfl⟩
  · exact h
  · exact h.seterr h1 h2
theorem thenX_cong {a b : St} (r : List UInt8) (h : thenX [] a = thenX [] b) : thenX r a = thenX r b := by
  cases a <;> cases b <;> first | rfl | (injection h with h; subst h; rfl) | cases h
theorem each_exit {α : Type} {f : St → α × St} {zs : List α} {s st : St} (h1 : (eachN f (vecX s).1.length (vecX s).1).1 = zs) (h2 : thenX [] (eachN f (vecX s).1.length (vecX s).1).2 = thenX [] st) :
    ((∃ r, (vecX s).2 = .ok r ∧ eachX f s = (zs, thenX r st)) ∨ (∃ c, (vecX s).2 = .error c ∧ zs = [] ∧ eachX f s = (zs, .error c))) := by
  rcases st_cases (vecX s).2 with ⟨c, hc⟩ | ⟨q, hq⟩
  · have hv := vecX_err hc
    rw [hv] at h1
    have hz : zs = [] := by rw [← h1]; rfl
    exact .inr ⟨c, hc, hz, by rw [eachX_no hc, hz]⟩
  · exact .inl ⟨q, hq, by rw [eachX_yes hq, h1, thenX_cong q h2]⟩
def EachP {α : Type} (f : St → α × St) (E : List α × St) (zs : List α) (st : St) : Prop := (∃ c, st = .error c ∧ E = (zs, .error c)) ∨ (∃ ys n, st = .ok ys ∧ ys.length ≤ n ∧ E = (zs ++ (eachN f n ys).1, thenX [] (eachN f n ys).2))
theorem EachP.start {α : Type} (f : St → α × St) (v : List UInt8) : EachP f ((eachN f v.length v).1, thenX [] (eachN f v.length v).2) [] (.ok v) := .inr ⟨v, _, rfl, Nat.le_refl _, rfl⟩
theorem EachP.step {α : Type} {f : St → α × St} {E : List α × St} {zs : List α} {y : UInt8} {ys : List UInt8} (h : EachP f E zs (.ok (y :: ys))) (hdec : ∀ y ys r, (f (.ok (y :: ys))).2 = .ok r → r.length < (y :: ys).length) : EachP f E (zs ++ [(f (.ok (y :: ys))).1]) (f (.ok (y :: ys))).2 ∧ slen (f (.ok (y :: ys))).2 < slen (.ok (y :: ys)) := by
  rcases h with ⟨c, e, _⟩ | ⟨ys', n, e, hn, hE⟩
  · cases e
  · injection e with e
    subst e
    obtain ⟨h1, h2⟩ := each_step hn hE hdec
    refine ⟨?_, h2⟩
    rcases h1 with ⟨c, h3, h4⟩ | ⟨r2, ys2, n2, h3, h4, h5, h6⟩
    · refine .inl ⟨c, ?_, h4⟩
      rcases st_cases (f (.ok (y :: ys))).2 with ⟨d, hd⟩ | ⟨q, hq⟩
      · rw [hd] at h3 ⊢; exact h3
      · rw [hq] at h3; cases h3
    · have hr : r2 = [] := by
        rw [h4] at h3
        injection h3 with h3; exact h3.symm
      subst hr
      exact .inr ⟨ys2, n2, h4, h5, h6⟩
theorem EachP.out {α : Type} {f : St → α × St} {a : List α} {b : St} {zs : List α} {st : St} (h : EachP f (a, thenX [] b) zs st) (hm : moreX st = false) : a = zs ∧ thenX [] b = thenX [] st := by
  rcases h with ⟨c, rfl, hE⟩ | ⟨ys, n, rfl, hn, hE⟩
  · injection hE with h1 h2; exact ⟨h1, h2⟩
  · have hy : ys = [] := by
      cases ys with
      | nil => rfl
      | cons y ys => exact absurd hm (by simp [moreX])
    subst hy
    have e0 : eachN f n [] = ([], .ok []) := by cases n <;> rfl
    rw [e0, List.append_nil] at hE
    injection hE with h1 h2; exact ⟨h1, h2⟩
theorem more_yes {st : St} (h : moreX st = true) : ∃ y ys, st = .ok (y :: ys) := by
  cases st with
  | error c => cases h
  | ok xs =>
    cases xs with
    | nil => exact absurd h (by simp [moreX])
    | cons y ys => exact ⟨y, ys, rfl⟩
def GstS (A0 : Option Addr) (n0 : Nat) (b0 : List UInt8) (cs : Array Value) (x : Gst) : Prop := GstC (fun h xs => Sub A0 n0 b0 h.A h.n xs) cs x
def WelR (base : Nat) (A0 : Option Addr) (n0 : Nat) (b0 : List UInt8) (w : World) (cs : Array Value) (x : Wel) : Prop := ∃ h0 h1, cs = twoV h0 h1 ∧ ElsF base (fun _ cs x => GstS A0 n0 b0 cs x) 3 w h0.A h0.n x.guests ∧ Sub A0 n0 b0 h1.A h1.n x.info
theorem WelR.at {base : Nat} {A0 : Option Addr} {n0 : Nat} {b0 : List UInt8} {w : World} {cs : Array Value} {x : Wel} (h : WelR base A0 n0 b0 w cs x) (HA : Bs w A0 n0 b0) : WelAt w cs x := by
  obtain ⟨h0, h1, rfl, a, b⟩ := h
  exact ⟨h0, h1, rfl, a.ats fun _ _ g => GstC.imp g fun _ _ s => s w HA, b w HA⟩
theorem WelR.zero (base : Nat) (A0 : Option Addr) (n0 : Nat) (b0 : List UInt8) (w : World) : WelR base A0 n0 b0 w zWelV Wel.zero := ⟨_, _, rfl, ElsF.nil _ _ _ _ _, Sub.nil _ _ _⟩
end Go.Proofs.YtpgalbgonmclaaaGreat
