/- The reference's Expand: what it hands back. Lengths up to 2^20. -/
import Derived.Test.YtpgalbgonmclaaaGreatRow
import Derived.Test.YtpgalbgonmclaaaGreatLib
import Derived.Test.YtpgalbgonmclaaaGreatSl
import Derived.Deep.RegionLaw
import Derived.Test.YtpgalbgonmclaaaGreatWireA
import Derived.Test.YtpgalbgonmclaaaGreatVc5
/- Slices of numbers: read, and owned by the call. No conditions. -/
namespace Go.Proofs.YtpgalbgonmclaaaGreat
open Go.RowKit

/-- The numbers at an address. -/
def Ns (k : IntKind) (w : World) (A : Option Addr) (n : Nat) (xs : List Nat) : Prop := xs.length = n ∧ At w A (xs.map (iv k))
section
variable {k : IntKind} {w w' : World} {A : Option Addr} {n : Nat} {xs : List Nat}
theorem Ns.get (h : Ns k w A n xs) {i : Nat} (hi : i < n) : ∃ b off x, A = some ⟨b, off, none⟩ ∧ Hid (x = xs.getD i 0) ∧ b < w.heap.size ∧ w.cell? ⟨b, off + i, none⟩ = some (.int k (x : Int)) := by
  have hl : i < xs.length := by rw [h.1]; exact hi
  obtain ⟨b, off, e, hb, hc⟩ := h.2.get (k := i) (by simpa using hl)
  exact ⟨b, off, _, e, rfl, hb, by simpa [iv, hl] using hc⟩
theorem Ns.below (h : Ns k w A n xs) (hb : Below w.heap.size w w') : Ns k w' A n xs := ⟨h.1, h.2.below hb⟩
theorem Ns.grown {g : Nat} (h : Ns k w A n xs) (hg : w.grownBy w' (some g)) (hne : ∀ b off, A = some ⟨b, off, none⟩ → b ≠ g) : Ns k w' A n xs := by
  refine ⟨h.1, ?_⟩
  rcases h.2 with h0 | ⟨b, off, hA, hc⟩
  · exact .inl h0
  · exact .inr ⟨b, off, hA, fun j u hu => hg.cell (hc j u hu) (by simpa using hne b off hA)⟩
theorem Ns.one (w : World) (t : TypeId) {x : Nat} {v : Value} (h : v = .int k (x : Int)) : Ns k (w.alloc (.cells #[v] t)) (some ⟨w.heap.size, 0, none⟩) 1 [x] := by
  subst h; exact ⟨rfl, At.of_add (cell_one_new _ _ _)⟩
end

/-- Numbers that a call owns. -/
def OwnN (w : World) (base : Nat) (A : Option Addr) (n c : Nat) (xs : List Nat) : Prop := w.ownsRow base 53 1 (.slice A n c) n (xs.map (iv .u64))
section
variable {w w' : World} {base n c : Nat} {A : Option Addr} {xs ys : List Nat}
theorem OwnN.app (h : w.ownsRow base 53 1 (.slice A n c) n (xs.map (iv .u64) ++ ys.map (iv .u64))) : OwnN w base A n c (xs ++ ys) := by
  unfold OwnN; rw [List.map_append]; exact h
theorem OwnN.len (h : OwnN w base A n c xs) : xs.length = n := by have := h.1; simpa using this
theorem OwnN.congr {n' : Nat} {ys : List Nat} (h : OwnN w base A n c xs) (hn : n = n') (hx : xs = ys) : OwnN w base A n' c ys := by subst hn; subst hx; exact h
theorem OwnN.empty (w : World) (base : Nat) : OwnN w base none 0 0 [] := World.ownsRow_nil _ _ _ _
theorem OwnN.alloc (h : OwnN w base A n c xs) (o : Obj) : OwnN (w.alloc o) base A n c xs := World.ownsRow.alloc h o
theorem OwnN.below (h : OwnN w base A n c xs) (hb : Below w.heap.size w w') : OwnN w' base A n c xs :=
  World.ownsRow.kept (row := none) h ⟨hb.os, hb.tape, hb.output, hb.size, fun k hk _ => hb.block k hk⟩ (by cases A with | none => exact .inl rfl | some a => exact .inr (by simp [Value.ownBlock]))
theorem OwnN.set {g : Nat} (h : OwnN w base (some ⟨g, 0, none⟩) n c xs) (i : Nat) {v : Value} {x : Nat} (hv : v = .int .u64 (x : Int)) : OwnN (w.setCell ⟨g, i, none⟩ v) base (some ⟨g, 0, none⟩) n c (xs.set i x) ∧ w.grownBy (w.setCell ⟨g, i, none⟩ v) (some g) := by
  subst hv
  obtain ⟨h1, h2⟩ := World.ownsRow.stored h i (.int .u64 (x : Int))
  refine ⟨?_, h2⟩
  unfold OwnN
  rw [List.map_set]
  exact h1
end
end Go.Proofs.YtpgalbgonmclaaaGreat

/- The reference's words of a block, its padding and its state: plain laws. No program in sight. -/
namespace Go.Proofs.YtpgalbgonmclaaaGreat
namespace Sha
/-- The first t words. -/
def wt (l : List UInt8) (t : Nat) : List Nat := ext (w16 l (min t 16)) (t - 16)
/-- Four bytes, one behind the other. -/
def pre (l : List UInt8) (t : Nat) : Nat → Nat
  | 0 => 0
  | i + 1 => 256 * pre l t i + (l.getD (4 * t + i) 0).toNat
end Sha
end Go.Proofs.YtpgalbgonmclaaaGreat

/- The reference's digest: the loop over the blocks. A text of whole blocks, up to 2^46 bytes. -/
namespace Go.Proofs.YtpgalbgonmclaaaGreat
open Go.RowKit
theorem OwnN.made (w : World) (base cap : Nat) (cur : Array Value) (hb : base ≤ w.heap.size) (hm : cap ≤ maxLen) (hs : cur.size = cap) : OwnN (w.alloc (.cells cur 53)) base (some ⟨w.heap.size, 0, none⟩) 0 cap [] :=
  World.ownsRow_made w cur cap hb hm (by omega)
theorem OwnN.grown {w w' : World} {base n c g : Nat} {A : Option Addr} {xs : List Nat} (h : OwnN w base A n c xs) (hg : w.grownBy w' (some g)) (hne : ∀ b off, A = some ⟨b, off, none⟩ → b ≠ g) : OwnN w' base A n c xs :=
  World.ownsRow.kept h hg (by
    rcases h.2 with ⟨hv, _⟩ | ⟨b, cap, cur, hv, _⟩
    · injection hv with hA; subst hA; exact .inl rfl
    · injection hv with hA
      subst hA
      exact .inr (fun e => hne b 0 rfl (by injection e)))
end Go.Proofs.YtpgalbgonmclaaaGreat

/- ratlineref01.Same: are two lists of bytes the same? Lengths within an int. -/
namespace Go.Proofs.YtpgalbgonmclaaaGreat
open Go.RowKit
theorem same_step {xs ys : List UInt8} {n k : Nat} (hx : xs.length = n) (hy : ys.length = n) (hk : k < n) (h : xs.take k = ys.take k) (e : xs.getD k 0 = ys.getD k 0) : xs.take (k + 1) = ys.take (k + 1) := by
  rw [List.take_succ_eq_append_getElem (by omega), List.take_succ_eq_append_getElem (by omega), h]
  congr 1
  simpa [hx, hy, hk] using e
theorem same_at {xs ys : List UInt8} {k : Nat} (e : xs.getD k 0 ≠ ys.getD k 0) : xs ≠ ys := fun h => e (by rw [h])
set_option maxHeartbeats 400000 in
theorem same_any (A B : Option Addr) (n m c d : Nat) (xs ys : List UInt8) (w : World) (ha : Bs w A n xs) (hb : Bs w B m ys) (hn : n ≤ 140737488355328) (hm : m ≤ 140737488355328) :
    Calls Tryz.prog 28 #[.slice A n c, .slice B m d] w fun e w' => e = .returned (.bool (decide (xs = ys))) ∧ ∃ k, w' = w.drewN k := by
  by_cases hnm : n = m
  · subst hnm
    have HA := Lib.hid ha; have HB := Lib.hid hb
    clear ha hb
    go_enter Tryz.func28, Tryz.ntmps28
    go_wp2
    go_loopw [5] (fun i wr => ∃ k q : Nat, k ≤ n ∧ i = .int .i64 k ∧ wr = w.drewN q ∧ xs.take k = ys.take k) (fun i _ => n - (intOf i).toNat)
    case atStart => exact ⟨0, 0, Nat.zero_le _, rfl, rfl, rfl⟩
    case round =>
      obtain ⟨k, q, hk, rfl, rfl, heq⟩ := hrel
      have HE := Lib.hid heq
      clear heq
      by_cases hlt : k < n
      · obtain ⟨b, off, x, rfl, hx, hcx⟩ := HA.out.byte hlt
        obtain ⟨b', off', y, rfl, hy, hcy⟩ := HB.out.byte hlt
        by_cases he : x = y
        · subst he
          go_wp2_with fail
          go_quiet (fail)
          go_wp2
          go_roundw
          case rel => exact ⟨k + 1, _, by omega, by go_num, rfl, same_step HA.out.1 HB.out.1 hlt HE.out (hx.out.symm.trans hy.out)⟩
          case measure => simp [intOf]; omega
        · have hne : ((x.toNat : Int) != (y.toNat : Int)) = true := by
            rw [bne_iff_ne]
            intro h
            exact he (UInt8.toNat_inj.1 (by omega))
          have hxy : xs ≠ ys := same_at (k := k) (by rw [← hx.out, ← hy.out]; exact he)
          have HXY := Lib.hid hxy
          clear hxy he
          go_wp2_with fail
          go_quiet (fail)
          go_wp2
          go_ret
          exact ⟨by rw [decide_eq_false HXY.out]; rfl, _, by rw [World.drewN_drewN]⟩
      · go_wp2
        go_ret
        have h := HE.out
        rw [List.take_of_length_le (by rw [HA.out.1]; omega), List.take_of_length_le (by rw [HB.out.1]; omega)] at h
        exact ⟨by rw [decide_eq_true h]; rfl, _, rfl⟩
  · have hxy : xs ≠ ys := fun e => hnm (by rw [← ha.1, ← hb.1, e])
    have HXY := Lib.hid hxy
    clear hxy ha hb
    go_enter Tryz.func28, Tryz.ntmps28
    go_wp2
    go_ret
    exact ⟨by rw [decide_eq_false HXY.out]; rfl, 0, rfl⟩
end Go.Proofs.YtpgalbgonmclaaaGreat

namespace Go.Proofs.YtpgalbgonmclaaaGreat
open Go.RowKit
attribute [local irreducible] Y Ef WL WC WK WQ WM OpM
/-- Slices of bytes, each apart from the row at A. -/
def Parts (w : World) (A : Option Addr) (vs : List Value) (xss : List (List UInt8)) : Prop :=
  vs.length = xss.length ∧ ∀ i, i < xss.length → ∃ B m c, vs[i]? = some (.slice B m c) ∧ Bs w B m (xss.getD i []) ∧ Dj A B ∧ ∀ b o s, B = some ⟨b, o, s⟩ → b < w.heap.size
theorem Parts.nil (w : World) (A : Option Addr) : Parts w A [] [] := ⟨rfl, fun i hi => by cases hi⟩
theorem Parts.ext {w w' : World} {A : Option Addr} {vs : List Value} {xss : List (List UInt8)} (h : Parts w A vs xss) (e : Ext w w') : Parts w' A vs xss :=
  ⟨h.1, fun i hi => by
    obtain ⟨B, m, c, h1, h2, h3, h4⟩ := h.2 i hi
    exact ⟨B, m, c, h1, h2.ext e, h3, fun b o s hb => Nat.lt_of_lt_of_le (h4 b o s hb) e.size⟩⟩
theorem Parts.app {w w' : World} {A A' : Option Addr} {n c n' c' : Nat} {vs : List Value} {xss : List (List UInt8)} (h : Parts w A vs xss) (hg : w.grownBy w' (Value.slice A n c).ownBlock)
    (hl : (Value.slice A' n' c').ownBlock = (Value.slice A n c).ownBlock ∨ (Value.slice A' n' c').ownBlock = some w.heap.size) (hA : ∀ b o s, A = some ⟨b, o, s⟩ → s = none) : Parts w' A' vs xss :=
  ⟨h.1, fun i hi => by
    obtain ⟨B, m, k, h1, h2, h3, h4⟩ := h.2 i hi
    refine ⟨B, m, k, h1, h2.app h3 hg hA, ?_, fun b o s hb => Nat.lt_of_lt_of_le (h4 b o s hb) hg.size⟩
    intro b o b' o' e1 e2 hbb
    subst e1; subst e2; subst hbb
    have hlt := h4 b o' none rfl
    rcases hl with hl | hl
    · cases A with
      | none => simp [Value.ownBlock] at hl
      | some a =>
        obtain ⟨b2, o2, s⟩ := a
        have := hA b2 o2 s rfl
        subst this
        simp only [Value.ownBlock, Option.some.injEq] at hl
        exact h3 b2 o2 b o' rfl rfl hl.symm
    · simp only [Value.ownBlock, Option.some.injEq] at hl
      omega⟩
end Go.Proofs.YtpgalbgonmclaaaGreat
