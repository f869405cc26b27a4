/- The reference's Div, Primes, Root, Roots, Sum: what each hands back. -/
import Derived.Test.YtjllhimhiekchaaRow
import Derived.Test.YtjllhimhiekchaaLib
import Derived.Test.YtjllhimhiekchaaVc5
import Derived.Test.YtjllhimhiekchaaSl
/- Slices of numbers: read, and owned by the call. No conditions. -/
namespace Go.Proofs.Ytjllhimhiekchaa
open Go.RowKit

/-- The numbers at an address. -/
def Ns (k : IntKind) (w : World) (A : Option Addr) (n : Nat) (xs : List Nat) : Prop := xs.length = n ∧ At w A (xs.map (iv k))
section
variable {k : IntKind} {w w' : World} {A : Option Addr} {n : Nat} {xs : List Nat}
theorem Ns.get (h : Ns k w A n xs) {i : Nat} (hi : i < n) : ∃ b off x, A = some ⟨b, off, none⟩ ∧ Hid (x = xs.getD i 0) ∧ b < w.heap.size ∧ w.cell? ⟨b, off + i, none⟩ = some (.int k (x : Int)) := by
  have hl : i < xs.length := by rw [h.1]; exact hi
  obtain ⟨b, off, e, hb, hc⟩ := h.2.get (k := i) (by simpa using hl)
  exact ⟨b, off, _, e, rfl, hb, by simpa [iv, hl] using hc⟩
theorem Ns.below (h : Ns k w A n xs) (hb : Below w.heap.size w w') : Ns k w' A n xs := ⟨h.1, h.2.below hb⟩
theorem Ns.grown {g : Nat} (h : Ns k w A n xs) (hg : w.grownBy w' (some g)) (hne : ∀ b off, A = some ⟨b, off, none⟩ → b ≠ g) : Ns k w' A n xs := by
  refine ⟨h.1, ?_⟩
  rcases h.2 with h0 | ⟨b, off, hA, hc⟩
  · exact .inl h0
  · exact .inr ⟨b, off, hA, fun j u hu => hg.cell (hc j u hu) (by simpa using hne b off hA)⟩
theorem Ns.one (w : World) (t : TypeId) {x : Nat} {v : Value} (h : v = .int k (x : Int)) : Ns k (w.alloc (.cells #[v] t)) (some ⟨w.heap.size, 0, none⟩) 1 [x] := by
  subst h; exact ⟨rfl, At.of_add (cell_one_new _ _ _)⟩
end

/-- Numbers that a call owns. -/
def OwnN (w : World) (base : Nat) (A : Option Addr) (n c : Nat) (xs : List Nat) : Prop := w.ownsRow base 52 1 (.slice A n c) n (xs.map (iv .u64))
section
variable {w w' : World} {base n c : Nat} {A : Option Addr} {xs ys : List Nat}
theorem OwnN.app (h : w.ownsRow base 52 1 (.slice A n c) n (xs.map (iv .u64) ++ ys.map (iv .u64))) : OwnN w base A n c (xs ++ ys) := by
  unfold OwnN; rw [List.map_append]; exact h
theorem OwnN.len (h : OwnN w base A n c xs) : xs.length = n := by have := h.1; simpa using this
theorem OwnN.congr {n' : Nat} {ys : List Nat} (h : OwnN w base A n c xs) (hn : n = n') (hx : xs = ys) : OwnN w base A n' c ys := by subst hn; subst hx; exact h
theorem OwnN.empty (w : World) (base : Nat) : OwnN w base none 0 0 [] := World.ownsRow_nil _ _ _ _
theorem OwnN.alloc (h : OwnN w base A n c xs) (o : Obj) : OwnN (w.alloc o) base A n c xs := World.ownsRow.alloc h o
theorem OwnN.below (h : OwnN w base A n c xs) (hb : Below w.heap.size w w') : OwnN w' base A n c xs :=
  World.ownsRow.kept (row := none) h ⟨hb.os, hb.tape, hb.output, hb.size, fun k hk _ => hb.block k hk⟩ (by cases A with | none => exact .inl rfl | some a => exact .inr (by simp [Value.ownBlock]))
theorem OwnN.set {g : Nat} (h : OwnN w base (some ⟨g, 0, none⟩) n c xs) (i : Nat) {v : Value} {x : Nat} (hv : v = .int .u64 (x : Int)) : OwnN (w.setCell ⟨g, i, none⟩ v) base (some ⟨g, 0, none⟩) n c (xs.set i x) ∧ w.grownBy (w.setCell ⟨g, i, none⟩ v) (some g) := by
  subst hv
  obtain ⟨h1, h2⟩ := World.ownsRow.stored h i (.int .u64 (x : Int))
  refine ⟨?_, h2⟩
  unfold OwnN
  rw [List.map_set]
  exact h1
end
end Go.Proofs.Ytjllhimhiekchaa

/- Whole numbers as digits of base 2^15, the lowest first: plain functions on lists. No program in sight. -/
namespace Go.Proofs.Ytjllhimhiekchaa
namespace Big
def val : List Nat → Nat
  | [] => 0
  | d :: ds => d + 32768 * val ds
def ok (ds : List Nat) : Prop := ∀ d ∈ ds, d < 32768
def digsF : Nat → Nat → List Nat
  | 0, _ => []
  | f + 1, n => if n = 0 then [] else (n % 32768) :: digsF f (n / 32768)
/-- The digits of a number, without noughts at the end. -/
def digs (n : Nat) : List Nat := digsF n n
theorem digsF_enough : ∀ (f n : Nat), n ≤ f → digsF f n = digs n := by
  intro f
  induction f using Nat.strongRecOn with
  | _ f ih =>
    intro n hn
    match f, n, hn with
    | 0, 0, _ => rfl
    | f + 1, 0, _ => simp [digsF, digs]
    | f + 1, n + 1, hn =>
      unfold digs
      simp only [digsF, Nat.succ_ne_zero, if_false]
      have h1 : (n + 1) / 32768 ≤ n := by omega
      rw [ih f (by omega) _ (by omega)]
      congr 1
      by_cases hfn : n = f
      · subst hfn; exact (ih n (by omega) _ h1).symm
      · exact (ih n (by omega) _ h1).symm
theorem digs_pos {n : Nat} (h : 0 < n) : digs n = (n % 32768) :: digs (n / 32768) := by
  match n, h with
  | n + 1, _ =>
    show digsF (n + 1) (n + 1) = _
    simp only [digsF, Nat.succ_ne_zero, if_false]
    rw [digsF_enough n _ (by omega)]
theorem digs_ind {p : Nat → Prop} (h0 : p 0) (h : ∀ n, 0 < n → p (n / 32768) → p n) (n : Nat) : p n := by
  induction n using Nat.strongRecOn with
  | _ n ih =>
    by_cases hn : n = 0
    · subst hn; exact h0
    · exact h n (by omega) (ih _ (by omega))
theorem val_digs (n : Nat) : val (digs n) = n := by
  induction n using digs_ind with
  | h0 => rfl
  | h n hn ih => rw [digs_pos hn, val, ih]; omega
theorem ok_digs (n : Nat) : ok (digs n) := by
  induction n using digs_ind with
  | h0 => intro d hd; cases hd
  | h n hn ih =>
    rw [digs_pos hn]
    intro d hd
    rcases List.mem_cons.1 hd with rfl | hd
    · omega
    · exact ih d hd
theorem ok_cons {d : Nat} {ds : List Nat} : ok (d :: ds) ↔ d < 32768 ∧ ok ds := by
  constructor
  · intro h; exact ⟨h d (by simp), fun x hx => h x (by simp [hx])⟩
  · rintro ⟨h1, h2⟩ x hx
    rcases List.mem_cons.1 hx with rfl | hx
    · exact h1
    · exact h2 x hx
theorem getD_set_ne (l : List Nat) (i j x : Nat) (h : i ≠ j) : (l.set i x).getD j 0 = l.getD j 0 := by
  rw [List.getD_eq_getElem?_getD, List.getD_eq_getElem?_getD, List.getElem?_set_ne h]
theorem digs_ne {n : Nat} (h : 0 < n) : digs n ≠ [] := by rw [digs_pos h]; simp
/-- A list of digits whose last is none: they are its number's. -/
theorem canon : ∀ (l : List Nat), ok l → (∀ h : l ≠ [], l.getLast h ≠ 0) → digs (val l) = l
  | [], _, _ => rfl
  | d :: ds, hok, hl => by
    obtain ⟨h1, h2⟩ := ok_cons.1 hok
    by_cases hds : ds = []
    · subst hds
      have hd : d ≠ 0 := by simpa using hl (by simp)
      rw [val, val, digs_pos (by omega), show (d + 32768 * 0) % 32768 = d by omega, show (d + 32768 * 0) / 32768 = 0 by omega]
      rfl
    · have ih := canon ds h2 (fun h => by have := hl (by simp); rwa [List.getLast_cons h] at this)
      have hv : 0 < val ds := by
        rcases Nat.eq_zero_or_pos (val ds) with h | h
        · rw [h] at ih; exact absurd ih.symm hds
        · exact h
      rw [val, digs_pos (by omega), show (d + 32768 * val ds) % 32768 = d by omega, show (d + 32768 * val ds) / 32768 = val ds by omega, ih]
theorem digs_last (n : Nat) (h : digs n ≠ []) : (digs n).getLast h ≠ 0 := by
  induction n using digs_ind with
  | h0 => exact absurd rfl h
  | h n hn ih =>
    by_cases hq : n / 32768 = 0
    · have e : digs n = [n % 32768] := by rw [digs_pos hn, hq]; rfl
      simp only [e, List.getLast_singleton]
      omega
    · have hne := digs_ne (Nat.pos_of_ne_zero hq)
      have e := digs_pos hn
      have := ih hne
      simp only [e, List.getLast_cons hne]
      exact this
theorem val_append : ∀ (a b : List Nat), val (a ++ b) = val a + 32768 ^ a.length * val b
  | [], b => by simp [val]
  | d :: a, b => by
    simp only [List.cons_append, val, val_append a b, List.length_cons, Nat.pow_succ]
    rw [Nat.mul_add, Nat.mul_comm (32768 ^ a.length) 32768, Nat.mul_assoc]
    omega
theorem val_lt : ∀ (a : List Nat), ok a → val a < 32768 ^ a.length
  | [], _ => by simp [val]
  | d :: a, h => by
    obtain ⟨h1, h2⟩ := ok_cons.1 h
    have := val_lt a h2
    simp only [val, List.length_cons, Nat.pow_succ]
    omega
theorem val_set : ∀ (l : List Nat) (i x : Nat), i < l.length → val (l.set i x) + l.getD i 0 * 32768 ^ i = val l + x * 32768 ^ i
  | [], i, x, h => by cases h
  | d :: l, 0, x, _ => by simp [val]; omega
  | d :: l, i + 1, x, h => by
    have ih := val_set l i x (by simpa using h)
    simp only [List.set_cons_succ, val, List.getD_cons_succ, Nat.pow_succ]
    have e1 : l.getD i 0 * (32768 ^ i * 32768) = 32768 * (l.getD i 0 * 32768 ^ i) := by rw [← Nat.mul_assoc, Nat.mul_comm]
    have e2 : x * (32768 ^ i * 32768) = 32768 * (x * 32768 ^ i) := by rw [← Nat.mul_assoc, Nat.mul_comm]
    rw [e1, e2]
    omega
theorem ok_set {l : List Nat} (h : ok l) (i x : Nat) (hx : x < 32768) : ok (l.set i x) := fun d hd => by
  rcases List.mem_or_eq_of_mem_set hd with h1 | h1
  · exact h d h1
  · omega
theorem val_zeros (n : Nat) : val (List.replicate n 0) = 0 := by
  induction n with
  | zero => rfl
  | succ n ih => rw [List.replicate_succ, val, ih]
theorem ok_zeros (n : Nat) : ok (List.replicate n 0) := fun d hd => by rw [List.eq_of_mem_replicate hd]; omega
theorem digs_length_le (n k : Nat) (h : n < 32768 ^ k) : (digs n).length ≤ k := by
  rcases Nat.lt_or_ge k (digs n).length with hlt | hge
  · exfalso
    have hne : digs n ≠ [] := by intro e; rw [e] at hlt; cases hlt
    have hl := digs_last n hne
    have hv := val_digs n
    have hsp : digs n = (digs n).dropLast ++ [(digs n).getLast hne] := (List.dropLast_concat_getLast hne).symm
    rw [hsp, val_append] at hv
    have hlen : (digs n).dropLast.length = (digs n).length - 1 := by simp
    rw [hlen] at hv
    simp only [val] at hv
    have h1 : 32768 ^ k ≤ 32768 ^ ((digs n).length - 1) := Nat.pow_le_pow_right (by omega) (by omega)
    have h2 : 32768 ^ ((digs n).length - 1) * 1 ≤ 32768 ^ ((digs n).length - 1) * ((digs n).getLast hne + 32768 * 0) := Nat.mul_le_mul_left _ (by omega)
    omega
  · exact hge
theorem lt_pow_length (n : Nat) : n < 32768 ^ (digs n).length := by
  have := val_lt _ (ok_digs n)
  rwa [val_digs] at this
theorem length_le {a b : Nat} (h : a ≤ b) : (digs a).length ≤ (digs b).length := digs_length_le a _ (Nat.lt_of_le_of_lt h (lt_pow_length b))
theorem pow_two (n : Nat) : digs (2 ^ n) = (List.replicate (n / 15 + 1) 0).set (n / 15) (2 ^ (n % 15)) := by
  have hlt : 2 ^ (n % 15) < 32768 := by
    have : n % 15 ≤ 14 := by omega
    have := Nat.pow_le_pow_right (n := 2) (by omega) this
    omega
  have hpos : 0 < 2 ^ (n % 15) := Nat.pow_pos (by omega)
  have hv := val_set (List.replicate (n / 15 + 1) 0) (n / 15) (2 ^ (n % 15)) (by simp)
  rw [val_zeros, show (List.replicate (n / 15 + 1) 0).getD (n / 15) 0 = 0 from by simp, Nat.zero_mul, Nat.zero_add, Nat.add_zero] at hv
  have e : 2 ^ n = 2 ^ (n % 15) * 32768 ^ (n / 15) := by
    rw [show (32768 : Nat) = 2 ^ 15 from rfl, ← Nat.pow_mul, ← Nat.pow_add]
    congr 1
    omega
  rw [e, ← hv]
  refine canon _ (ok_set (ok_zeros _) _ _ hlt) fun h => ?_
  rw [List.getLast_eq_getElem]
  simp only [List.length_set, List.length_replicate, Nat.add_sub_cancel, List.getElem_set_self]
  omega
end Big
end Go.Proofs.Ytjllhimhiekchaa

/- The reference's whole numbers (digits of base 2^15): trim, Num, digit, Less: what each hands back. Lengths up to 10^6. The reference's whole numbers: Add, Sub, Mul, Pow, Low: what each hands back. Lengths up to 10^6. -/
namespace Go.Proofs.Ytjllhimhiekchaa
section
open Go.RowKit
attribute [local irreducible] Y Ef WL WC WK WQ WM OpM
/-- A number's digits at an address. -/
def Bg (w : World) (A : Option Addr) (n v : Nat) : Prop := Ns .i64 w A n (Big.digs v)
section
variable {w w' : World} {A : Option Addr} {n v : Nat} {xs : List Nat} {k : IntKind}
theorem Ns.ext (h : Ns k w A n xs) (E : Ext w w') : Ns k w' A n xs := h.below E
theorem Ns.wk {w0 : World} (h : Ns k w0 A n xs) (E : Ext w0 w) : Ns k w A n xs := h.below E
theorem Bg.ext (h : Bg w A n v) (E : Ext w w') : Bg w' A n v := Ns.ext h E
theorem Bg.wk {w0 : World} (h : Bg w0 A n v) (E : Ext w0 w) : Bg w A n v := Ns.ext h E
theorem Bg.len (h : Bg w A n v) : (Big.digs v).length = n := h.1
theorem Bg.congr {u : Nat} (h : Bg w A n v) (e : v = u) : Bg w A n u := e ▸ h
theorem Ns.take (h : Ns k w A n xs) {j : Nat} (hj : j ≤ n) : Ns k w A j (xs.take j) := by
  refine ⟨by have := h.1; simp; omega, ?_⟩
  rcases h.2 with h0 | ⟨b, off, hA, hc⟩
  · left; have : xs = [] := by simpa using h0
    rw [this]; simp
  · refine .inr ⟨b, off, hA, fun i u hu => hc i u ?_⟩
    rw [List.map_take, List.getElem?_take] at hu
    split at hu
    · exact hu
    · cases hu
theorem Ns.nil (w : World) (A : Option Addr) : Ns k w A 0 [] := ⟨rfl, .inl rfl⟩
theorem Ns.blk {g : Nat} {t : TypeId} (h : Blk w g t (nums k xs)) (hn : xs.length = n) : Ns k w (some ⟨g, 0, none⟩) n xs :=
  ⟨hn, At.blk (vs := xs.map (iv k)) h⟩
theorem Ns.cell {i : Nat} (h : Ns k w A n xs) (hi : i < n) : ∃ b off x, A = some ⟨b, off, none⟩ ∧ Hid (x = xs.getD i 0) ∧ w.cell? ⟨b, off + i, none⟩ = some (.int k (x : Int)) := by
  obtain ⟨b, off, x, e, hx, _, hc⟩ := h.get hi
  exact ⟨b, off, x, e, hx, hc⟩
end
theorem i64_nat {a : Int} {n : Nat} (h : a = (n : Int)) (hn : n ≤ 9223372036854775807) : IntKind.i64.wrap a = (n : Int) := by
  subst h; exact i64_ok (by omega) (by omega)
end
section
open Go.RowKit
attribute [local irreducible] Y Ef WL WC WK WQ WM OpM
theorem wrap_u64' (n : Int) : IntKind.u64.wrap n = n % 18446744073709551616 := by simp [IntKind.wrap, IntKind.bits, IntKind.signed]
theorem u64_mod {a : Int} {n : Nat} (h : a = (n : Int)) : IntKind.u64.wrap a = ((n % 18446744073709551616 : Nat) : Int) := by
  subst h; rw [wrap_u64']; omega
end
end Go.Proofs.Ytjllhimhiekchaa

/- Primes and roots, plain: what the reference's Primes and Root compute; sha's constants by the kernel. No program in sight. -/
namespace Go.Proofs.Ytjllhimhiekchaa
namespace Big
def rootF (T k : Nat) : Nat → Nat → Nat
  | 0, x => x
  | j + 1, x => rootF T k j (if (x + 2 ^ j) ^ k ≤ T then x + 2 ^ j else x)
/-- The first 64 bits behind the point of the k-th root. -/
def root (n k : Nat) : Nat := rootF (n * 2 ^ (64 * k)) k 70 0 % 18446744073709551616
end Big
end Go.Proofs.Ytjllhimhiekchaa

namespace Go.Proofs.Ytjllhimhiekchaa
open Go.RowKit
attribute [local irreducible] Y Ef WL WC WK WQ WM OpM
theorem Ns.chg {w w' : World} {k : IntKind} {A : Option Addr} {n g : Nat} {xs : List Nat} (h : Ns k w A n xs) (cg : Chg w g w') (hne : ∀ b off, A = some ⟨b, off, none⟩ → b ≠ g) : Ns k w' A n xs := h.grown cg hne
theorem Bg.cells {w : World} {A : Option Addr} {n v : Nat} (h : Bg w A n v) : At w A ((Big.digs v).map (iv .i64)) := h.2
theorem u64_nat {a : Int} {n : Nat} (h : a = (n : Int)) (hn : n < 18446744073709551616) : IntKind.u64.wrap a = (n : Int) := by
  subst h; rw [wrap_u64']; omega
end Go.Proofs.Ytjllhimhiekchaa
