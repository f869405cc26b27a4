/- The reference's Expand: what it hands back. Lengths up to 2^20. -/
import Derived.Test.YtpgalbgonmclaaaRSum
import Derived.Test.YtpgalbgonmclaaaSha5
import Derived.Test.YtpgalbgonmclaaaWireA
import Derived.Test.YtpgalbgonmclaaaVc5
import Derived.Test.YtpgalbgonmclaaaWire
import Derived.Test.YtpgalbgonmclaaaSame
/- The reference's Digest is the plain function; the code's Of. At most 2^45 bytes. -/
namespace Go.Proofs.Ytpgalbgonmclaaa
open Go.RowKit

set_option maxRecDepth 100000 in
set_option maxHeartbeats 2000000 in
theorem table_any (w : World) : Calls Try.prog 184 #[] w fun e w' => ∃ g1 g2, e = .returned (.tuple #[.slice (some ⟨g1, 0, none⟩) 8 8, .slice (some ⟨g2, 0, none⟩) 64 64]) ∧ Ns .u64 w' (some ⟨g1, 0, none⟩) 8 Sha.H0 ∧ Ns .u64 w' (some ⟨g2, 0, none⟩) 64 Sha.K ∧ Below w.heap.size w w' := by
  go_enter Try.func184, Try.ntmps184
  go_wp2
  go_ret2
  refine ⟨_, _, rfl, ?_, ?_, ((Below.refl _ _).alloc (Nat.le_refl _) _).alloc (by simp) _⟩
  · refine Ns.below (w := w.alloc _) ?_ ((Below.refl _ _).alloc (Nat.le_refl _) _)
    exact nsLit (w := w) Sha.H0 _ rfl rfl
  · have h := nsLit (w := w.alloc (.cells (nums .u64 Sha.H0) 46)) (t := 46) (k := .u64) Sha.K (nums .u64 Sha.K) rfl rfl (n := 64)
    rw [World.size_alloc] at h
    exact h
set_option maxHeartbeats 400000 in
theorem digest_any (A : Option Addr) (n c : Nat) (xs : List UInt8) (w : World) (ha : Bs w A n xs) (hn : n ≤ 35184372088832) :
    Calls Try.prog 158 #[.slice A n c] w fun e w' => ∃ A' c', e = .returned (.slice A' 32 c') ∧ Own w' w.heap.size A' 32 c' (Sha.sum xs) ∧ Below w.heap.size w w' := by
  have HA := Lib.hid ha
  clear ha
  go_enter Try.func158, Try.ntmps158
  go_wp2_with (first
    | (go_at_call 184; refine (table_any _).mono ?_; rintro e w1 ⟨g1, g2, rfl, h1, h2, hb1⟩
       have H1 := Lib.hid h1; have H2 := Lib.hid h2; have HB1 := Lib.hid hb1
       clear h1 h2 hb1)
    | (go_at_call 185; refine (sumr_any A _ _ n c _ _ xs _ (HA.out.below HB1.out) hn H1.out H2.out).mono ?_; rintro e w2 ⟨A2, c2, rfl, ho2, hb2⟩
       have HO2 := Lib.hid ho2
       have HB2 : Hid (Below w.heap.size w w2) := HB1.out.trans (hb2.mono HB1.out.size)
       have hs1 := HB1.out.size
       clear ho2 hb2))
  go_ret
  exact ⟨A2, c2, rfl, HO2.out.lower hs1, HB2.out⟩

/-- Of's digest lies in a block of its own. -/
theorem of_any (A : Option Addr) (n c : Nat) (xss : List (List UInt8)) (w : World) (ha : Bss w A n xss) (hn : n ≤ 35184372088832) (hlen : xss.flatten.length ≤ 35184372088832) :
    Calls Try.prog 157 #[.slice A n c] w fun e w' => ∃ g, e = .returned (.slice (some ⟨g, 0, none⟩) 32 32) ∧ w.heap.size ≤ g ∧ Blk w' g 176 (bys (Sha.sum xss.flatten)) ∧ Below w.heap.size w w' := by
  have HA := Lib.hid ha; have HL := Lib.hid hlen
  clear ha
  go_enter Try.func157, Try.ntmps157
  go_wp2_with (first
    | (go_at_call 183; refine (concat_any A n c xss _ HA.out (by omega) (by omega)).mono ?_; rintro e w1 ⟨A1, m1, c1, rfl, ho1, hb1⟩
       have HO1 := Lib.hid ho1; have HB1 := Lib.hid hb1
       have hm1 : m1 ≤ 35184372088832 := by have := ho1.len; omega
       clear ho1 hb1)
    | (go_at_call 182; refine (sum_any A1 m1 c1 xss.flatten _ HO1.out.bs hm1).mono ?_; rintro e w2 ⟨rfl, hb2⟩
       have HB2 : Hid (Below w.heap.size w w2) := HB1.out.trans (hb2.mono HB1.out.size)
       clear hb2)
    | refine arr_alloc rfl _ rfl _ zb32 w2.heap.size rfl ?_
    | refine arr_store rfl _ (.tmp 3) (.tmp 6) rfl w2.heap.size (bys (Sha.sum xss.flatten)) rfl rfl _ _ (Blk.new w2 _ _) 32 sb32 rfl rfl (bys_one _) ?_)
  go_ret
  exact ⟨w2.heap.size, rfl, HB2.out.size, (Blk.new w2 _ _).row _, bel_row (HB2.out.alloc HB2.out.size _) HB2.out.size _⟩
end Go.Proofs.Ytpgalbgonmclaaa

namespace Go.Proofs.Ytpgalbgonmclaaa
open Go.RowKit
attribute [local irreducible] Y Ef WL WC WK WQ WM OpM
/-- Slices of bytes, each apart from the row at A. -/
def Parts (w : World) (A : Option Addr) (vs : List Value) (xss : List (List UInt8)) : Prop :=
  vs.length = xss.length ∧ ∀ i, i < xss.length → ∃ B m c, vs[i]? = some (.slice B m c) ∧ Bs w B m (xss.getD i []) ∧ Dj A B ∧ ∀ b o s, B = some ⟨b, o, s⟩ → b < w.heap.size
theorem Parts.nil (w : World) (A : Option Addr) : Parts w A [] [] := ⟨rfl, fun i hi => by cases hi⟩
theorem Parts.ext {w w' : World} {A : Option Addr} {vs : List Value} {xss : List (List UInt8)} (h : Parts w A vs xss) (e : Ext w w') : Parts w' A vs xss :=
  ⟨h.1, fun i hi => by
    obtain ⟨B, m, c, h1, h2, h3, h4⟩ := h.2 i hi
    exact ⟨B, m, c, h1, h2.ext e, h3, fun b o s hb => Nat.lt_of_lt_of_le (h4 b o s hb) e.size⟩⟩
theorem Parts.app {w w' : World} {A A' : Option Addr} {n c n' c' : Nat} {vs : List Value} {xss : List (List UInt8)} (h : Parts w A vs xss) (hg : w.grownBy w' (Value.slice A n c).ownBlock)
    (hl : (Value.slice A' n' c').ownBlock = (Value.slice A n c).ownBlock ∨ (Value.slice A' n' c').ownBlock = some w.heap.size) (hA : ∀ b o s, A = some ⟨b, o, s⟩ → s = none) : Parts w' A' vs xss :=
  ⟨h.1, fun i hi => by
    obtain ⟨B, m, k, h1, h2, h3, h4⟩ := h.2 i hi
    refine ⟨B, m, k, h1, h2.app h3 hg hA, ?_, fun b o s hb => Nat.lt_of_lt_of_le (h4 b o s hb) hg.size⟩
    intro b o b' o' e1 e2 hbb
    subst e1; subst e2; subst hbb
    have hlt := h4 b o' none rfl
    rcases hl with hl | hl
    · cases A with
      | none => simp [Value.ownBlock] at hl
      | some a =>
        obtain ⟨b2, o2, s⟩ := a
        have := hA b2 o2 s rfl
        subst this
        simp only [Value.ownBlock, Option.some.injEq] at hl
        exact h3 b2 o2 b o' rfl rfl hl.symm
    · simp only [Value.ownBlock, Option.some.injEq] at hl
      omega⟩
end Go.Proofs.Ytpgalbgonmclaaa
