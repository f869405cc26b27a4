/- The reference's digest, its bits and words: plain laws. No program in sight. -/
import Derived.Test.YtjllhimhiekchaaRow
import Derived.Test.YtjllhimhiekchaaLib
import Derived.Test.YtjllhimhiekchaaSha
/- Slices of numbers: read, and owned by the call. No conditions. -/
namespace Go.Proofs.Ytjllhimhiekchaa
open Go.RowKit

theorem eltN : Elt Try.prog 103 52 8 := Elt.of Try.underlying103 (z := .int .u64 0) (by kernel_rfl) rfl

/-- The numbers at an address. -/
def Ns (k : IntKind) (w : World) (A : Option Addr) (n : Nat) (xs : List Nat) : Prop := xs.length = n ∧ At w A (xs.map (iv k))
section
variable {k : IntKind} {w w' : World} {A : Option Addr} {n : Nat} {xs : List Nat}
theorem Ns.get (h : Ns k w A n xs) {i : Nat} (hi : i < n) : ∃ b off x, A = some ⟨b, off, none⟩ ∧ Hid (x = xs.getD i 0) ∧ b < w.heap.size ∧ w.cell? ⟨b, off + i, none⟩ = some (.int k (x : Int)) := by
  have hl : i < xs.length := by rw [h.1]; exact hi
  obtain ⟨b, off, e, hb, hc⟩ := h.2.get (k := i) (by simpa using hl)
  exact ⟨b, off, _, e, rfl, hb, by simpa [iv, hl] using hc⟩
theorem Ns.getAt {b off : Nat} (h : Ns k w (some ⟨b, off, none⟩) n xs) {i : Nat} (hi : i < n) : ∃ x, Hid (x = xs.getD i 0) ∧ w.cell? ⟨b, off + i, none⟩ = some (.int k (x : Int)) := by
  obtain ⟨b', off', x, e, hx, _, hc⟩ := h.get hi
  injection e with e
  injection e with e1 e2
  subst e1; subst e2
  exact ⟨_, hx, hc⟩
theorem Ns.below (h : Ns k w A n xs) (hb : Below w.heap.size w w') : Ns k w' A n xs := ⟨h.1, h.2.below hb⟩
theorem Ns.grown {g : Nat} (h : Ns k w A n xs) (hg : w.grownBy w' (some g)) (hne : ∀ b off, A = some ⟨b, off, none⟩ → b ≠ g) : Ns k w' A n xs := by
  refine ⟨h.1, ?_⟩
  rcases h.2 with h0 | ⟨b, off, hA, hc⟩
  · exact .inl h0
  · exact .inr ⟨b, off, hA, fun j u hu => hg.cell (hc j u hu) (by simpa using hne b off hA)⟩
theorem Ns.one (w : World) (t : TypeId) {x : Nat} {v : Value} (h : v = .int k (x : Int)) : Ns k (w.alloc (.cells #[v] t)) (some ⟨w.heap.size, 0, none⟩) 1 [x] := by
  subst h; exact ⟨rfl, At.of_add (cell_one_new _ _ _)⟩
end

/-- Numbers that a call owns. -/
def OwnN (w : World) (base : Nat) (A : Option Addr) (n c : Nat) (xs : List Nat) : Prop := w.ownsRow base 52 1 (.slice A n c) n (xs.map (iv .u64))
section
variable {w w' : World} {base n c : Nat} {A : Option Addr} {xs ys : List Nat}
theorem OwnN.app (h : w.ownsRow base 52 1 (.slice A n c) n (xs.map (iv .u64) ++ ys.map (iv .u64))) : OwnN w base A n c (xs ++ ys) := by
  unfold OwnN; rw [List.map_append]; exact h
theorem OwnN.len (h : OwnN w base A n c xs) : xs.length = n := by have := h.1; simpa using this
theorem OwnN.ns (h : OwnN w base A n c xs) : Ns .u64 w A n xs := ⟨h.len, own_at h⟩
theorem OwnN.congr {n' : Nat} {ys : List Nat} (h : OwnN w base A n c xs) (hn : n = n') (hx : xs = ys) : OwnN w base A n' c ys := by subst hn; subst hx; exact h
theorem OwnN.empty (w : World) (base : Nat) : OwnN w base none 0 0 [] := World.ownsRow_nil _ _ _ _
theorem OwnN.alloc (h : OwnN w base A n c xs) (o : Obj) : OwnN (w.alloc o) base A n c xs := World.ownsRow.alloc h o
theorem OwnN.below (h : OwnN w base A n c xs) (hb : Below w.heap.size w w') : OwnN w' base A n c xs :=
  World.ownsRow.kept (row := none) h ⟨hb.os, hb.tape, hb.output, hb.size, fun k hk _ => hb.block k hk⟩ (by cases A with | none => exact .inl rfl | some a => exact .inr (by simp [Value.ownBlock]))
theorem OwnN.low {b off : Nat} (h : OwnN w base A n c xs) (hA : A = some ⟨b, off, none⟩) : base ≤ b ∧ b < w.heap.size := by
  subst hA
  exact World.ownsRow.lt h b rfl
/-- A row of numbers that is read and written: it lies at a block's head. -/
theorem OwnN.open (h : OwnN w base A n c xs) (hn : 0 < n) : ∃ g, A = some ⟨g, 0, none⟩ ∧ base ≤ g ∧ g < w.heap.size ∧ (∀ j, w.frozen? ⟨g, j, none⟩ = false) := by
  obtain ⟨g, cap, hv, h1, h2⟩ := World.ownsRow.form h hn
  injection hv with hv
  subst hv
  refine ⟨g, rfl, h1, h2, fun j => World.ownsRow.frozenAt h j⟩
theorem OwnN.set {g : Nat} (h : OwnN w base (some ⟨g, 0, none⟩) n c xs) (i : Nat) {v : Value} {x : Nat} (hv : v = .int .u64 (x : Int)) : OwnN (w.setCell ⟨g, i, none⟩ v) base (some ⟨g, 0, none⟩) n c (xs.set i x) ∧ w.grownBy (w.setCell ⟨g, i, none⟩ v) (some g) := by
  subst hv
  obtain ⟨h1, h2⟩ := World.ownsRow.stored h i (.int .u64 (x : Int))
  refine ⟨?_, h2⟩
  unfold OwnN
  rw [List.map_set]
  exact h1
end
end Go.Proofs.Ytjllhimhiekchaa

/- The references' turn and shift of 32 bits. Numbers below 2^32, by at most 32 bits. -/
namespace Go.Proofs.Ytjllhimhiekchaa
open Go.RowKit

theorem rotr_zero (x : Nat) : Sha.rotr x 0 = x := by simp [Sha.rotr, Nat.mod_one]
theorem rotr_succ (x i : Nat) (hi : i < 32) : Sha.rotr x (i + 1) = Sha.rotr x i / 2 + Sha.rotr x i % 2 * 2147483648 := by
  unfold Sha.rotr
  obtain ⟨p, hp⟩ : ∃ p, p = 2 ^ i := ⟨_, rfl⟩
  obtain ⟨q, hq⟩ : ∃ q, q = 2 ^ (31 - i) := ⟨_, rfl⟩
  have hpq : p * q = 2147483648 := by rw [hp, hq, ← Nat.pow_add, show i + (31 - i) = 31 from by omega]
  have e1 : 2 ^ (i + 1) = 2 * p := by rw [Nat.pow_succ, hp]; omega
  have e2 : 2 ^ (32 - i) = 2 * q := by rw [show 32 - i = (31 - i) + 1 from by omega, Nat.pow_succ, hq]; omega
  have e3 : 2 ^ (32 - (i + 1)) = q := by rw [show 32 - (i + 1) = 31 - i from by omega, hq]
  rw [e1, e2, e3, ← hp]
  have h1 : x / (2 * p) = x / p / 2 := by rw [Nat.mul_comm, Nat.div_div_eq_div_mul]
  have h2 : x % (2 * p) = x % p + p * (x / p % 2) := by rw [Nat.mul_comm 2 p, Nat.mod_mul]
  rw [h1, h2, Nat.add_mul, Nat.mul_assoc, Nat.mul_comm (x / p % 2) q, ← Nat.mul_assoc, hpq]
  generalize x / p = a
  generalize x % p = b
  have h3 : b * (2 * q) = 2 * (b * q) := by rw [← Nat.mul_assoc, Nat.mul_comm b 2, Nat.mul_assoc]
  rw [h3]
  generalize b * q = t
  omega

set_option maxHeartbeats 400000 in
theorem turn_any (x n : Nat) (w : World) (hx : x < 4294967296) (hn : n ≤ 32) :
    Calls Try.prog 97 #[.int .u64 x, .int .i64 n] w fun e w' => e = .returned (.int .u64 (Sha.rotr x n : Nat)) ∧ w = w' := by
  go_enter Try.func97, Try.ntmps97
  go_wp2
  go_loop [0, 5] (fun v i => ∃ k y : Nat, k ≤ n ∧ i = .int .i64 k ∧ v = .int .u64 y ∧ y = Sha.rotr x k) (fun _ i => n - (intOf i).toNat)
  case atStart => exact ⟨0, x, by omega, rfl, rfl, (rotr_zero x).symm⟩
  case round =>
    obtain ⟨k, y, hk, rfl, rfl, hy⟩ := hrel
    have hyl : y < 4294967296 := by rw [hy]; exact Sha.rotr_lt hx (by omega)
    have HY := Lib.hid hy
    clear hy
    by_cases hlt : k < n
    · go_wp2
      go_round
      case rel => exact ⟨k + 1, y / 2 + y % 2 * 2147483648, by omega, by go_num, int_val (by omega), by rw [HY.out, rotr_succ x k (by omega)]⟩
      case measure => simp [intOf]; omega
    · go_wp2
      go_ret
      exact ⟨by rw [show n = k from by omega, ← HY.out]; rfl, rfl⟩
set_option maxHeartbeats 400000 in
theorem shift_any (x n : Nat) (w : World) (hx : x < 4294967296) (hn : n ≤ 32) :
    Calls Try.prog 98 #[.int .u64 x, .int .i64 n] w fun e w' => e = .returned (.int .u64 (x / 2 ^ n : Nat)) ∧ w = w' := by
  go_enter Try.func98, Try.ntmps98
  go_wp2
  go_loop [0, 5] (fun v i => ∃ k y : Nat, k ≤ n ∧ i = .int .i64 k ∧ v = .int .u64 y ∧ y = x / 2 ^ k) (fun _ i => n - (intOf i).toNat)
  case atStart => exact ⟨0, x, by omega, rfl, rfl, by simp⟩
  case round =>
    obtain ⟨k, y, hk, rfl, rfl, hy⟩ := hrel
    have hyl : y < 4294967296 := by rw [hy]; exact Nat.lt_of_le_of_lt (Nat.div_le_self _ _) hx
    have HY := Lib.hid hy
    clear hy
    by_cases hlt : k < n
    · go_wp2
      go_round
      case rel => exact ⟨k + 1, y / 2, by omega, by go_num, int_val (by omega), by rw [HY.out, Nat.pow_succ, Nat.div_div_eq_div_mul]⟩
      case measure => simp [intOf]; omega
    · go_wp2
      go_ret
      exact ⟨by show Ending.returned (.int .u64 (y : Int)) = _; rw [HY.out, show n = k from by omega]; simp, rfl⟩
theorem turn_lit (x : Nat) (n : Int) (w : World) (hx : x < 4294967296) (h0 : 0 ≤ n) (hn : n ≤ 32) :
    Calls Try.prog 97 #[.int .u64 x, .int .i64 n] w fun e w' => e = .returned (.int .u64 (Sha.rotr x n.toNat : Nat)) ∧ w = w' := by
  obtain ⟨m, rfl⟩ := Int.eq_ofNat_of_zero_le h0
  rw [Int.toNat_natCast]
  exact turn_any x m w hx (by omega)
theorem shift_lit (x : Nat) (n : Int) (w : World) (hx : x < 4294967296) (h0 : 0 ≤ n) (hn : n ≤ 32) :
    Calls Try.prog 98 #[.int .u64 x, .int .i64 n] w fun e w' => e = .returned (.int .u64 (x / 2 ^ n.toNat : Nat)) ∧ w = w' := by
  obtain ⟨m, rfl⟩ := Int.eq_ofNat_of_zero_le h0
  rw [Int.toNat_natCast]
  exact shift_any x m w hx (by omega)
end Go.Proofs.Ytjllhimhiekchaa

namespace Go.Proofs.Ytjllhimhiekchaa
namespace Sha
theorem low_succ (c k : Nat) : c % 2 ^ (k + 1) = c % 2 ^ k + c / 2 ^ k % 2 * 2 ^ k := by
  rw [Nat.pow_succ, Nat.mod_mul, Nat.mul_comm (2 ^ k)]
theorem compl_bit {e k : Nat} (he : e < 4294967296) (hk : k < 32) : (4294967295 - e).testBit k = !e.testBit k := by
  have h1 := Nat.testBit_two_pow_sub_succ (n := 32) he k
  rw [show (2 : Nat) ^ 32 - (e + 1) = 4294967295 - e from by omega] at h1
  simp [h1, hk]
theorem ch_bit {e f g k : Nat} (he : e < 4294967296) (hk : k < 32) : ch e f g / 2 ^ k % 2 = if e / 2 ^ k % 2 = 1 then f / 2 ^ k % 2 else g / 2 ^ k % 2 := by
  rw [← Nat.toNat_testBit, ← Nat.toNat_testBit, ← Nat.toNat_testBit, ← Nat.toNat_testBit]
  unfold ch
  rw [Nat.testBit_xor, Nat.testBit_and, Nat.testBit_and, compl_bit he hk]
  cases e.testBit k <;> cases f.testBit k <;> cases g.testBit k <;> rfl
theorem maj_bit (a b c k : Nat) : maj a b c / 2 ^ k % 2 = if 2 ≤ a / 2 ^ k % 2 + b / 2 ^ k % 2 + c / 2 ^ k % 2 then 1 else 0 := by
  rw [← Nat.toNat_testBit, ← Nat.toNat_testBit, ← Nat.toNat_testBit, ← Nat.toNat_testBit]
  unfold maj
  rw [Nat.testBit_xor, Nat.testBit_xor, Nat.testBit_and, Nat.testBit_and, Nat.testBit_and]
  cases a.testBit k <;> cases b.testBit k <;> cases c.testBit k <;> rfl
theorem ch_step1 {e f g k : Nat} (he : e < 4294967296) (hk : k < 32) (h : e / 2 ^ k % 2 = 1) : ch e f g % 2 ^ (k + 1) = ch e f g % 2 ^ k + f / 2 ^ k % 2 * 2 ^ k := by
  rw [low_succ, ch_bit he hk, if_pos h]
theorem ch_step0 {e f g k : Nat} (he : e < 4294967296) (hk : k < 32) (h : ¬ e / 2 ^ k % 2 = 1) : ch e f g % 2 ^ (k + 1) = ch e f g % 2 ^ k + g / 2 ^ k % 2 * 2 ^ k := by
  rw [low_succ, ch_bit he hk, if_neg h]
theorem maj_step1 {a b c k : Nat} (h : 2 ≤ a / 2 ^ k % 2 + b / 2 ^ k % 2 + c / 2 ^ k % 2) : maj a b c % 2 ^ (k + 1) = maj a b c % 2 ^ k + 2 ^ k := by
  rw [low_succ, maj_bit, if_pos h, Nat.one_mul]
theorem maj_step0 {a b c k : Nat} (h : ¬ 2 ≤ a / 2 ^ k % 2 + b / 2 ^ k % 2 + c / 2 ^ k % 2) : maj a b c % 2 ^ (k + 1) = maj a b c % 2 ^ k := by
  rw [low_succ, maj_bit, if_neg h, Nat.zero_mul, Nat.add_zero]
end Sha
end Go.Proofs.Ytjllhimhiekchaa
