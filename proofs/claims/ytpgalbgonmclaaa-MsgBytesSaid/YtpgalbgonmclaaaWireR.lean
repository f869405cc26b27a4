/- Bytes that are taken by wire's reader: what each of its functions hands back and leaves. Lengths and vectors that are taken by wire's reader. The reference's lengths, vectors, numbers and flags at a place of bytes. -/
import Derived.Test.YtpgalbgonmclaaaVs
import Derived.Test.YtpgalbgonmclaaaWireA
namespace Go.Proofs.Ytpgalbgonmclaaa
section
open Go.RowKit
attribute [local irreducible] Y Ef WL WC WK WQ WM OpM WN WF OpN
namespace Wire
/-- The number that bytes are, the highest first. -/
def nb (xs : List UInt8) : Nat := xs.foldl (fun a x => a * 256 + x.toNat) 0
abbrev St := Except Nat (List UInt8)
/-- A length that stands ahead. -/
def pLen : List UInt8 → Except Nat (Nat × List UInt8)
  | [] => .error 4
  | b :: r =>
    if 192 ≤ b.toNat then .error 3
    else
      let s := if b.toNat < 64 then 1 else if b.toNat < 128 then 2 else 4
      if r.length < s - 1 then .error 4
      else
        let n := nb (UInt8.ofNat (b.toNat % 64) :: r.take (s - 1))
        if lsz n = s then .ok (n, r.drop (s - 1)) else .error 3
def pVec (xs : List UInt8) : Except Nat (List UInt8 × List UInt8) :=
  match pLen xs with
  | .error c => .error c
  | .ok (n, r) => if r.length < n then .error 4 else .ok (r.take n, r.drop n)
def pNum (k : Nat) (xs : List UInt8) : Except Nat (Nat × List UInt8) := if xs.length < k then .error 4 else .ok (nb (xs.take k), xs.drop k)
def vecX : St → List UInt8 × St
  | .error c => ([], .error c)
  | .ok xs => match pVec xs with
    | .error c => ([], .error c)
    | .ok (v, r) => (v, .ok r)
def numX (k : Nat) : St → Nat × St
  | .error c => (0, .error c)
  | .ok xs => match pNum k xs with
    | .error c => (0, .error c)
    | .ok (v, r) => (v, .ok r)
end Wire
open Wire
def rdV (A : Option Addr) (n c e : Nat) : Array Value := #[.slice A n c, .int .u8 (e : Int)]
/-- A reader: what is left of its bytes, and its error. -/
def Rd (N : Nat) (S : List Nat) (w : World) (g : Nat) (xs : List UInt8) (e : Nat) : Prop := ∃ A n c, Blk w g 185 (rdV A n c e) ∧ n ≤ c ∧ g ∈ S ∧ Kp N S (fun w => Bs w A n xs) w
def Rs (N : Nat) (S : List Nat) (w : World) (g : Nat) : St → Prop
  | .ok xs => Rd N S w g xs 0
  | .error c => c ≠ 0 ∧ c < 256 ∧ ∃ xs, Rd N S w g xs c
section
variable {N : Nat} {S S' : List Nat} {w w' : World} {g k e : Nat} {xs : List UInt8} {s : St}
theorem Rd.lt (h : Rd N S w g xs e) : g < w.heap.size := by obtain ⟨A, n, c, B, _⟩ := h; exact B.lt
theorem Rd.ext (h : Rd N S w g xs e) (E : Ext w w') : Rd N S w' g xs e := by obtain ⟨A, n, c, B, hc, m, K⟩ := h; exact ⟨A, n, c, B.ext E, hc, m, K.ext E⟩
theorem Rd.chs (h : Rd N S w g xs e) (C : Chs S' w w') (hs : ∀ k ∈ S', k ∈ S := by first | (simp; done) | (simp; assumption)) (hg : g ∉ S' := by first | (simp; done) | (simp; omega)) : Rd N S w' g xs e := by
  obtain ⟨A, n, c, B, hc, m, K⟩ := h; exact ⟨A, n, c, B.chs C hg, hc, m, K.chs C hs⟩
theorem Rd.mono (h : Rd N S w g xs e) (hs : ∀ k ∈ S', k ∈ S) (hg : g ∈ S') : Rd N S' w g xs e := by obtain ⟨A, n, c, B, hc, m, K⟩ := h; exact ⟨A, n, c, B, hc, hg, K.mono hs⟩
theorem Rs.ext (h : Rs N S w g s) (E : Ext w w') : Rs N S w' g s := by
  cases s with
  | ok xs => exact Rd.ext h E
  | error c => obtain ⟨h1, h2, xs, h⟩ := h; exact ⟨h1, h2, xs, h.ext E⟩
theorem Rs.chs (h : Rs N S w g s) (C : Chs S' w w') (hs : ∀ k ∈ S', k ∈ S := by first | (simp; done) | (simp; assumption)) (hg : g ∉ S' := by first | (simp; done) | (simp; omega)) : Rs N S w' g s := by
  cases s with
  | ok xs => exact Rd.chs h C hs hg
  | error c => obtain ⟨h1, h2, xs, h⟩ := h; exact ⟨h1, h2, xs, h.chs C hs hg⟩
theorem Rs.mono (h : Rs N S w g s) (hs : ∀ k ∈ S', k ∈ S) (hg : g ∈ S') : Rs N S' w g s := by
  cases s with
  | ok xs => exact Rd.mono h hs hg
  | error c => obtain ⟨h1, h2, xs, h⟩ := h; exact ⟨h1, h2, xs, h.mono hs hg⟩
theorem Rd.below {B : Nat} (h : Rd N S w g xs e) (be : Below B w w') (hN : N ≤ B) (hg : g < B) : Rd N S w' g xs e := by
  obtain ⟨A, n, c, B, hc, m, K⟩ := h; exact ⟨A, n, c, B.below be hg, hc, m, K.below be hN⟩
theorem Rs.below {B : Nat} (h : Rs N S w g s) (be : Below B w w') (hN : N ≤ B) (hg : g < B) : Rs N S w' g s := by
  cases s with
  | ok xs => exact Rd.below h be hN hg
  | error c => obtain ⟨h1, h2, xs, h⟩ := h; exact ⟨h1, h2, xs, h.below be hN hg⟩
theorem Rs.lt (h : Rs N S w g s) : g < w.heap.size := by
  cases s with
  | ok xs => exact Rd.lt h
  | error c => obtain ⟨h1, h2, xs, h⟩ := h; exact h.lt
end
end
section
open Go.RowKit
attribute [local irreducible] Y Ef WL WC WK WQ WM OpM WN WF OpN
open Wire
namespace Wire
end Wire
end
section
open Go.RowKit
attribute [local irreducible] Y Ef WL WC WK WQ WM OpM WN WF OpN
open Wire
namespace Wire
end Wire
/-- What lies at an address as a part of other bytes. -/
def Sub (A : Option Addr) (n : Nat) (b : List UInt8) (A' : Option Addr) (k : Nat) (v : List UInt8) : Prop := ∀ w, Bs w A n b → Bs w A' k v
end
end Go.Proofs.Ytpgalbgonmclaaa
