/- aes: products of bytes. No conditions: contracts of functions. -/
import Derived.Test.YtjllhimhiekchaaVc7
import Derived.Test.YtjllhimhiekchaaRow
import Derived.Laws.BytesArg
import Derived.Laws.Strings
import Derived.Great.BuildSlice
import Derived.Test.YtjllhimhiekchaaWireA
/- Blocks that may turn, and facts that outlive it. No conditions: plain lemmas of the model. Bytes held against bytes and copied; strings; literal slices of structs. No conditions: plain lemmas, and what bytes.Equal and bytes.Clone hand back. -/
namespace Go.Proofs.Ytjllhimhiekchaa
section
open Go.RowKit
/-- Of what was there only the blocks of S may have turned. -/
structure Chs (S : List Nat) (w w' : World) : Prop where
  os : w'.os = w.os
  tape : w'.tape = w.tape
  output : w'.output = w.output
  size : w.heap.size ≤ w'.heap.size
  block : ∀ k, k < w.heap.size → k ∉ S → w'.heap[k]? = w.heap[k]?
/-- A fact that holds as long as what was there below N, but for the blocks of S, stays. -/
def Kp (N : Nat) (S : List Nat) (Φ : World → Prop) (w : World) : Prop := N ≤ w.heap.size ∧ ∀ w' : World, (∀ k, k < N → k ∉ S → w'.heap[k]? = w.heap[k]?) → Φ w'
section
variable {S S' : List Nat} {w w' w'' : World} {g k : Nat}
theorem Chs.refl (S : List Nat) (w : World) : Chs S w w := ⟨rfl, rfl, rfl, Nat.le_refl _, fun _ _ _ => rfl⟩
theorem Chs.mono (h : Chs S w w') (hs : ∀ k ∈ S, k ∈ S') : Chs S' w w' := ⟨h.os, h.tape, h.output, h.size, fun k hk hn => h.block k hk (fun hm => hn (hs k hm))⟩
theorem Chs.tr (h : Chs S w w') (k : Chs S w' w'') : Chs S w w'' :=
  ⟨k.os.trans h.os, k.tape.trans h.tape, k.output.trans h.output, Nat.le_trans h.size k.size, fun i hi hn => (k.block i (Nat.lt_of_lt_of_le hi h.size) hn).trans (h.block i hi hn)⟩
theorem Chs.of (h : Ext w w') (S : List Nat) : Chs S w w' := ⟨h.os, h.tape, h.output, h.size, fun k hk _ => h.block k hk⟩
theorem Chs.one (h : Chg w g w') : Chs [g] w w' := ⟨h.os, h.tape, h.output, h.size, fun k hk hn => h.block k hk (by intro e; injection e with e; exact hn (by simp [e]))⟩
theorem Chs.toExt (h : Chs S w w') (hS : ∀ k ∈ S, w.heap.size ≤ k) : Ext w w' := ⟨h.os, h.tape, h.output, h.size, fun k hk => h.block k hk (fun hm => by have := hS k hm; omega)⟩
theorem Chs.ext (h : Chs S w w') (e : Ext w' w'') : Chs S w w'' := h.tr (.of e S)
theorem Chs.chs (h : Chs S w w') (k : Chs S' w' w'') (hs : ∀ k ∈ S', k ∈ S := by first | (simp; done) | (simp; assumption)) : Chs S w w'' := h.tr (k.mono hs)
theorem Chs.grow (h : Chs S w w') (e : Ext w' w'') (_ : w'.heap.size ≤ k) : Chs (k :: S) w w'' := (h.ext e).mono (fun _ h => List.mem_cons_of_mem _ h)
theorem Chs.drop (h : Chs (k :: S) w w') (hk : w.heap.size ≤ k) : Chs S w w' :=
  ⟨h.os, h.tape, h.output, h.size, fun i hi hn => h.block i hi (by simp only [List.mem_cons, not_or]; exact ⟨by omega, hn⟩)⟩
theorem Ext.chsN (h : Ext w w') (k : Chs S w' w'') (hS : ∀ g ∈ S, w.heap.size ≤ g) : Ext w w'' :=
  ⟨k.os.trans h.os, k.tape.trans h.tape, k.output.trans h.output, Nat.le_trans h.size k.size, fun i hi => (k.block i (Nat.lt_of_lt_of_le hi h.size) (fun hm => by have := hS i hm; omega)).trans (h.block i hi)⟩
theorem Blk.chs {b : Nat} {t : TypeId} {cs : Array Value} (h : Blk w b t cs) (c : Chs S w w') (hb : b ∉ S := by first | (simp; done) | (simp; omega)) : Blk w' b t cs := (c.block b h.lt hb).trans h
theorem Blk.grow {b : Nat} {t : TypeId} {cs : Array Value} (h : Blk w b t cs) (e : Ext w w') (_ : w.heap.size ≤ k) : Blk w' b t cs := h.ext e
theorem _root_.Go.RowKit.Below.grow {a : World} (h : Ext a w) (e : Ext w w') (_ : w.heap.size ≤ k) : Ext a w' := h.tr e
theorem Chs.below {B : Nat} (h : Chs S w w') (be : Below B w' w'') (hB : w.heap.size ≤ B) : Chs S w w'' :=
  ⟨be.os.trans h.os, be.tape.trans h.tape, be.output.trans h.output, Nat.le_trans h.size be.size, fun i hi hn => (be.block i (by omega)).trans (h.block i hi hn)⟩
variable {Φ Ψ : World → Prop} {N M : Nat}
theorem Kp.out (h : Kp N S Φ w) : Φ w := h.2 w fun _ _ _ => rfl
theorem Kp.chs (h : Kp N S Φ w) (c : Chs S' w w') (hs : ∀ k ∈ S', k ∈ S := by first | (simp; done) | (simp; assumption)) : Kp N S Φ w' :=
  ⟨Nat.le_trans h.1 c.size, fun w2 hw => h.2 w2 fun k hk hn => (hw k hk hn).trans (c.block k (Nat.lt_of_lt_of_le hk h.1) fun hm => hn (hs k hm))⟩
theorem Kp.ext (h : Kp N S Φ w) (e : Ext w w') : Kp N S Φ w' := h.chs (Chs.of e []) (by simp)
theorem Kp.below {B : Nat} (h : Kp N S Φ w) (be : Below B w w') (hN : N ≤ B) : Kp N S Φ w' :=
  ⟨Nat.le_trans h.1 be.size, fun w2 hw => h.2 w2 fun k hk hn => (hw k hk hn).trans (be.block k (by omega))⟩
theorem Kp.grow (h : Kp N S Φ w) (e : Ext w w') (hk : w.heap.size ≤ k) : Kp N (k :: S) Φ w' :=
  ⟨Nat.le_trans h.1 e.size, fun w2 hw => h.2 w2 fun i hi hn => (hw i hi (by simp only [List.mem_cons, not_or]; exact ⟨by have := h.1; omega, hn⟩)).trans (e.block i (Nat.lt_of_lt_of_le hi h.1))⟩
theorem Kp.mono (h : Kp N S Φ w) (hs : ∀ k ∈ S', k ∈ S) : Kp N S' Φ w := ⟨h.1, fun w2 hw => h.2 w2 fun k hk hn => hw k hk fun hm => hn (hs k hm)⟩
theorem Kp.map (h : Kp N S Φ w) (f : ∀ w, Φ w → Ψ w) : Kp N S Ψ w := ⟨h.1, fun w2 hw => f _ (h.2 w2 hw)⟩
theorem Kp.at {A : Option Addr} {xs : List Value} (h : At w A xs) (hS : xs ≠ [] → ∀ g ∈ S, ∀ o, A ≠ some ⟨g, o, none⟩) : Kp w.heap.size S (fun w => At w A xs) w := by
  refine ⟨Nat.le_refl _, fun w2 hw => ?_⟩
  rcases h with h0 | ⟨b, off, hA, hc⟩
  · exact .inl h0
  · rcases xs with _ | ⟨x, xs⟩
    · exact .inl rfl
    · have hb : b < w.heap.size := cell_lt (hc 0 x rfl)
      have hn : b ∉ S := fun hm => hS (by simp) b hm off hA
      exact .inr ⟨b, off, hA, fun j u hu => (World.cell?_of_block (w := w) (w' := w2) (hw b hb hn)).trans (hc j u hu)⟩
theorem Kp.bs {A : Option Addr} {n : Nat} {xs : List UInt8} (h : Bs w A n xs) (hS : 0 < n → ∀ g ∈ S, ∀ o, A ≠ some ⟨g, o, none⟩) : Kp w.heap.size S (fun w => Bs w A n xs) w :=
  ⟨Nat.le_refl _, fun w2 hw => ⟨h.1, (Kp.at h.2 fun hne => hS (by rw [← h.1]; exact Nat.pos_of_ne_zero fun e => hne (by rw [List.eq_nil_of_length_eq_zero e]; rfl))).2 w2 hw⟩⟩
theorem Kp.nil (S : List Nat) (A : Option Addr) (h : N ≤ w.heap.size) : Kp N S (fun w => Bs w A 0 []) w := ⟨h, fun _ _ => Bs.nil _ _⟩
theorem Kp.row {base : Nat} {e : TypeId} {A : Option Addr} {n c : Nat} {xs : List Value} (h : Row w base e A n c xs) (hS : ∀ g ∈ S, g < base) : Kp w.heap.size S (fun w => Row w base e A n c xs) w := by
  refine ⟨Nat.le_refl _, fun w2 hw => ⟨h.1, ?_⟩⟩
  rcases h.2 with h0 | ⟨g, cap, cur, hv, hg, hb, r⟩
  · exact .inl h0
  · have hlt : g < w.heap.size := (Array.getElem?_eq_some_iff.1 hb).1
    exact .inr ⟨g, cap, cur, hv, hg, (hw g hlt fun hm => by have := hS g hm; omega).trans hb, r⟩
/-- Bytes in memory from block 'base' on. -/
def Fb (base : Nat) (w : World) (A : Option Addr) (n : Nat) (xs : List UInt8) : Prop := Bs w A n xs ∧ (0 < n → ∀ b o, A = some ⟨b, o, none⟩ → base ≤ b)
section
variable {A : Option Addr} {n c base base' : Nat} {xs : List UInt8}
theorem Fb.mono (h : Fb base w A n xs) (hb : base' ≤ base) : Fb base' w A n xs := ⟨h.1, fun hn b o e => Nat.le_trans hb (h.2 hn b o e)⟩
theorem Fb.nil (base : Nat) (w : World) (A : Option Addr) : Fb base w A 0 [] := ⟨Bs.nil _ _, fun h => absurd h (Nat.lt_irrefl 0)⟩
theorem Fb.ext (h : Fb base w A n xs) (e : Ext w w') : Fb base w' A n xs := ⟨h.1.ext e, h.2⟩
end
theorem Row.chs {S : List Nat} {w w' : World} {base n c : Nat} {e : TypeId} {A : Option Addr} {xs : List Value} (h : Row w base e A n c xs) (k : Chs S w w') (hS : ∀ g ∈ S, g < base := by first | (simp; done) | (simp; omega)) : Row w' base e A n c xs :=
  ((Kp.row h hS).chs k (fun _ h => h)).out
/-- Numbers of Go's int. -/
def zv (z : Int) : Value := .int .i64 z
def Zs (w : World) (A : Option Addr) (n : Nat) (zs : List Int) : Prop := zs.length = n ∧ At w A (zs.map zv) ∧ ∀ z ∈ zs, -9223372036854775808 ≤ z ∧ z ≤ 9223372036854775807
section
variable {A : Option Addr} {n c base base' : Nat} {zs : List Int}
theorem Zs.ext (h : Zs w A n zs) (e : Ext w w') : Zs w' A n zs := ⟨h.1, h.2.1.ext e, h.2.2⟩
theorem Zs.nil (w : World) (A : Option Addr) : Zs w A 0 [] := ⟨rfl, .inl rfl, fun _ h => by cases h⟩
theorem Zs.get (h : Zs w A n zs) {k : Nat} (hk : k < n) : ∃ b off, A = some ⟨b, off, none⟩ ∧ b < w.heap.size ∧ w.cell? ⟨b, off + k, none⟩ = some (.int .i64 (zs.getD k 0)) ∧ -9223372036854775808 ≤ zs.getD k 0 ∧ zs.getD k 0 ≤ 9223372036854775807 := by
  have hl : k < zs.length := by rw [h.1]; exact hk
  obtain ⟨b, off, e, hb, hc⟩ := h.2.1.get (k := k) (by simpa using hl)
  refine ⟨b, off, e, hb, by simpa [zv, hl] using hc, ?_⟩
  have := h.2.2 zs[k] (List.getElem_mem hl)
  rw [List.getD_eq_getElem?_getD, List.getElem?_eq_getElem hl]
  exact this
/-- Such numbers from block 'base' on. -/
def Fz (base : Nat) (w : World) (A : Option Addr) (n : Nat) (zs : List Int) : Prop := Zs w A n zs ∧ (0 < n → ∀ b o, A = some ⟨b, o, none⟩ → base ≤ b)
theorem Fz.mono (h : Fz base w A n zs) (hb : base' ≤ base) : Fz base' w A n zs := ⟨h.1, fun hn b o e => Nat.le_trans hb (h.2 hn b o e)⟩
theorem Fz.nil (base : Nat) (w : World) (A : Option Addr) : Fz base w A 0 [] := ⟨Zs.nil _ _, fun h => absurd h (Nat.lt_irrefl 0)⟩
theorem Fz.ext (h : Fz base w A n zs) (e : Ext w w') : Fz base w' A n zs := ⟨h.1.ext e, h.2⟩
end
end
section
variable {P : Program} {L : List (Nat × Value)} {w : World} {ty t e : TypeId} {x y : Operand}
/-- A part of a block that is known whole. -/
theorem y_loadx {g o s : Nat} {cs : Array Value} {d : TypeDesc} (hx : ev L x = some (.pointer (some ⟨g, o, none⟩))) (hu : P.underlying t = some d) (hd : (match d with | .struct _ | .array _ _ => true | _ => false) = true) (hs : (P.info? t).map (·.size) = some s) (hB : Blk w g e cs) (hz : Nat.ble (o + s) cs.size = true) : Y P L w (.load t x) ty (.agg ((cs.toList.drop o).take s).toArray) := by
  have hz' : o + s ≤ cs.size := Nat.le_of_ble_eq_true hz
  have hsz : ((cs.toList.drop o).take s).toArray.size = s := by simp; omega
  refine y_loadp hx hu hd (by rw [hsz]; exact hs) fun j v hj => ?_
  rw [Addr.add_plain]
  refine hB.get ?_
  have h1 : ((cs.toList.drop o).take s)[j]? = some v := by simpa using hj
  have hlt : j < s := by
    rcases Nat.lt_or_ge j s with h | h
    · exact h
    · rw [List.getElem?_eq_none (by rw [List.length_take]; omega)] at h1; cases h1
  rw [List.getElem?_take_of_lt hlt, List.getElem?_drop] at h1
  simpa using h1
end
section
variable {P : Program} {f : FuncId} {fn : Func} {c : Code} {args : Array Value} {R : Ending → World → Prop} {w : World}
def ones : List Value → Bool
  | [] => true
  | v :: vs => v.oneCell' && ones vs
theorem all_ones {cells : Array Value} (h : ones cells.toList = true) : cells.all (·.oneCell') = true := by
  rw [← Array.all_toList]
  generalize cells.toList = l at h
  induction l with
  | nil => rfl
  | cons v vs ih =>
    rw [ones, Bool.and_eq_true] at h
    rw [List.all_cons, h.1, ih h.2]; rfl
end
end
section
open Go.RowKit
section
section
variable {P : Program} {L : List (Nat × Value)} {w : World} {ty t t' e : TypeId} {x y : Operand}
/-- A string of these bytes. -/
def strB (xs : List UInt8) : ByteArray := ⟨xs.toArray⟩
theorem y_ofBytes {A : Option Addr} {n c : Nat} {xs : List UInt8} (hx : ev L x = some (.slice A n c)) (HA : Bs w A n xs) (hs : P.underlying t = some (.slice e)) (he : P.underlying e = some (.int .u8)) (hd : P.underlying t' = some .string) :
    Y P L w (.convert t t' x) ty (.string (strB xs)) := fun ρ hρ w' E _ _ _ _ => by
  have HB := HA.wk E
  have key : (convert t t' (.slice A n c)).run P w' = .ok (.string (strB xs)) w' := by
    rcases Nat.eq_zero_or_pos n with h0 | h0
    · subst h0
      have hx0 : xs = [] := List.eq_nil_of_length_eq_zero HA.1
      subst hx0
      rw [run_convert_bytes_string w' t t' e A 0 c hs he hd]
      cases A with
      | none => simp [Conv.bytesToString, strB]; rfl
      | some a => rw [run_bytesToString w' a 0 c [] (by simp [loadCells, loadCellsFrom])]; rfl
    · obtain ⟨b, off, rfl, _⟩ := HB.get h0
      have h := run_convert_bytes_arg (P := P) w' t e hs he b off n c (xs.map fun u => (u.toNat : Int)) (by simpa using HA.1) (fun i hi => by
        have hl := HA.1
        obtain ⟨b', off', e1, _, hc⟩ := HB.get hi
        injection e1 with e1
        injection e1 with e1 e2 _
        subst e1; subst e2
        rw [hc]
        simp [List.getD, List.getElem?_eq_getElem (show i < xs.length by omega)]) t' hd
      rw [h]
      have : strOfNums (xs.map fun u => (u.toNat : Int)) = strB xs := by
        unfold strOfNums strB
        congr 1
        rw [List.map_map]
        congr 1
        conv => rhs; rw [← List.map_id xs]
        exact List.map_congr_left fun u _ => by simp
      rw [this]
  simp [execOp, hρ _ _ hx, key]
end
attribute [local irreducible] Y Ef WL WC WK WQ WM OpM WN WF OpN
end
section
section
variable {P : Program} {L : List (Nat × Value)} {w : World} {ty t t' e : TypeId} {x y : Operand}
end
attribute [local irreducible] Y Ef WL WC WK WQ WM OpM WN WF OpN
end
end
end Go.Proofs.Ytjllhimhiekchaa

namespace Go.Proofs.Ytjllhimhiekchaa
open Go.RowKit
attribute [local irreducible] Y Ef WL WC WK WQ WM OpM
namespace Ae
def dbl (a : Nat) : Nat := (2 * a % 256) ^^^ (if a / 128 = 1 then 27 else 0)
def out (a b o : Nat) : Nat := o ^^^ (if b % 2 = 1 then a else 0)
def tmk : Nat → Nat → Nat → Nat → Nat
  | 0, _, _, o => o
  | k + 1, a, b, o => tmk k (dbl a) (b / 2) (out a b o)
def tm (a b : Nat) : Nat := tmk 8 a b 0
theorem dbl_lt (a : Nat) : dbl a < 256 := Nat.xor_lt_two_pow (n := 8) (Nat.mod_lt _ (by omega)) (by split <;> omega)
theorem out_lt {a b o : Nat} (ha : a < 256) (ho : o < 256) : out a b o < 256 := Nat.xor_lt_two_pow (n := 8) ho (by split <;> omega)
theorem tmk_zero : ∀ (k a o : Nat), tmk k a 0 o = o
  | 0, _, _ => rfl
  | k + 1, a, o => by rw [tmk, Nat.zero_div, tmk_zero k]; unfold out; rw [if_neg (by omega), Nat.xor_zero]
theorem and1 : ∀ x : Fin 256, bits .and .u8 ((x.val : Nat) : Int) 1 = ((x.val % 2 : Nat) : Int) := by decide +kernel
theorem neg1 (p : Nat) (c : Prop) [Decidable c] (h : p = if c then 1 else 0) : IntKind.u8.wrap (0 - ((p : Nat) : Int)) = (((if c then 255 else 0 : Nat)) : Int) := by
  subst h; split <;> decide
theorem and255 : ∀ x : Fin 256, bits .and .u8 ((x.val : Nat) : Int) 255 = ((x.val : Nat) : Int) ∧ bits .and .u8 ((x.val : Nat) : Int) 0 = 0 := by decide +kernel
theorem andm (a : Nat) (ha : a < 256) (c : Prop) [Decidable c] : bits .and .u8 ((a : Nat) : Int) (((if c then 255 else 0 : Nat)) : Int) = (((if c then a else 0 : Nat)) : Int) := by
  split
  · exact (and255 ⟨a, ha⟩).1
  · exact (and255 ⟨a, ha⟩).2
theorem shl1 : ∀ x : Fin 256, IntKind.u8.wrap (((x.val : Nat) : Int) * 2 ^ min (1 : Int).toNat IntKind.u8.bits) = ((2 * x.val % 256 : Nat) : Int) := by decide +kernel
theorem shr7 : ∀ x : Fin 256, ((x.val : Nat) : Int) / 2 ^ min (7 : Int).toNat IntKind.u8.bits = ((x.val / 128 : Nat) : Int) := by decide +kernel
theorem shr1 : ∀ x : Fin 256, ((x.val : Nat) : Int) / 2 ^ min (1 : Int).toNat IntKind.u8.bits = ((x.val / 2 : Nat) : Int) := by decide +kernel
end Ae
open Ae
theorem times_any (A B : Nat) (hA : A < 256) (hB : B < 256) (w : World) :
    Calls Try.prog 93 #[.int .u8 (A : Int), .int .u8 (B : Int)] w fun e w' => e = .returned (.int .u8 ((tm A B : Nat) : Int)) ∧ tm A B < 256 ∧ Ext w w' := by
  refine vc_enter1 25 Try.func93 rfl rfl rfl rfl ?_
  intro Q hret
  refine wc_seq ?_; intro K1 hK1
  refine wc_region ?_
  refine wl_y (y_assign rfl) rfl ?_
  refine wl_nil ?_
  refine wq_then_norm (hK1 ?_)
  refine wc_seq ?_; intro K2 hK2
  refine wc_region ?_
  refine wl_y (y_assign rfl) rfl ?_
  refine wl_nil ?_
  refine wq_then_norm (hK2 ?_)
  refine wc_seq ?_; intro K3 hK3
  refine wc_block ?_
  refine wc_loop (fun n' L wr => ∃ (j a b o : Nat), L = [(0, .int .u8 (a : Int)), (1, .int .u8 (b : Int)), (5, .int .u8 (o : Int))] ∧ n' = 1 + j ∧ (a < 256 ∧ b < 256 ∧ o < 256 ∧ b < 2 ^ j ∧ j ≤ 8 ∧ tmk j a b o = tm A B ∧ Ext w wr)) _ _ ⟨8, A, B, 0, rfl, rfl, hA, hB, (by omega), hB, Nat.le_refl _, rfl, Ext.refl _⟩ ⟨(by first | rfl | exact congrArg some (int_val (by omega))), (by first | rfl | exact congrArg some (int_val (by omega))), (by first | rfl | exact congrArg some (int_val (by omega))), trivial⟩ ?_
  rintro KL1 n' L wr ⟨j, a, b, o, rfl, rfl, ha, hb, ho, hj, hj8, ht, F⟩ hL1
  refine wc_seq ?_; intro K4 hK4
  refine wc_seq ?_; intro K5 hK5
  refine wc_region ?_
  refine wl_y (y_move rfl) rfl ?_
  refine wl_y (y_gtr rfl rfl) rfl ?_
  refine wl_nil ?_
  refine wq_then_norm (hK5 ?_)
  refine wc_dec rfl (fun hc1 => ?_) (fun hc1 => ?_)
  · skip
    refine wc_skip ?_
    refine wq_then_norm (hK4 ?_)
    refine wc_seq ?_; intro K6 hK6
    refine wc_block ?_
    refine wc_seq ?_; intro K7 hK7
    obtain ⟨i, rfl⟩ : ∃ i, j = i + 1 := ⟨j - 1, by rcases j with _ | j; simp at hj; omega; omega⟩
    rw [tmk] at ht
    rw [Nat.pow_succ] at hj
    refine wc_region ?_
    refine wl_y (y_move rfl) rfl ?_
    refine wl_y (y_move rfl) rfl ?_
    refine wl_y (y_move rfl) rfl ?_
    refine wl_y (y_and rfl rfl (and1 ⟨b, hb⟩)) rfl ?_
    refine wl_y (y_neg rfl (neg1 (b % 2) (b % 2 = 1) (by split <;> omega))) rfl ?_
    refine wl_y (y_and rfl rfl (andm a ha (b % 2 = 1))) rfl ?_
    refine wl_y (y_xor rfl rfl (show _ = ((out a b o : Nat) : Int) from (bits_u8 ho (by split <;> omega)).2.2)) rfl ?_
    refine wl_y (y_assign rfl) rfl ?_
    refine wl_nil ?_
    refine wq_then_norm (hK7 ?_)
    refine wc_region ?_
    refine wl_y (y_move rfl) rfl ?_
    refine wl_y (y_shl rfl rfl (by omega) (shl1 ⟨a, ha⟩)) rfl ?_
    refine wl_y (y_move rfl) rfl ?_
    refine wl_y (y_shr rfl rfl (by omega) (shr7 ⟨a, ha⟩)) rfl ?_
    refine wl_y (y_neg rfl (neg1 (a / 128) (a / 128 = 1) (by split <;> omega))) rfl ?_
    refine wl_y (y_and rfl rfl (andm 27 (by omega) (a / 128 = 1))) rfl ?_
    refine wl_y (y_xor rfl rfl (show _ = ((dbl a : Nat) : Int) from (bits_u8 (Nat.mod_lt _ (by omega)) (by split <;> omega)).2.2)) rfl ?_
    refine wl_y (y_assign rfl) rfl ?_
    refine wl_nil ?_
    refine wq_blk_norm ?_
    refine wq_then_norm (hK6 ?_)
    refine wc_region ?_
    refine wl_y (y_move rfl) rfl ?_
    refine wl_y (y_shr rfl rfl (by omega) (shr1 ⟨b, hb⟩)) rfl ?_
    refine wl_y (y_assign rfl) rfl ?_
    refine wl_nil ?_
    refine wq_then_norm ?_
    refine hL1 _ _ ⟨i, dbl a, b / 2, out a b o, rfl, rfl, dbl_lt a, (by omega), out_lt ha ho, (by omega), (by omega), ht, F⟩ (by omega) ⟨(by first | rfl | exact congrArg some (int_val (by omega))), (by first | rfl | exact congrArg some (int_val (by omega))), (by first | rfl | exact congrArg some (int_val (by omega))), trivial⟩
  · skip
    refine wc_exit ?_
    refine wq_then_exit ?_
    refine wq_then_exit ?_
    refine wq_blk_hit ?_
    refine wq_then_norm (hK3 ?_)
    refine wc_seq ?_; intro K8 hK8
    refine wc_region ?_
    refine wl_y (y_move rfl) rfl ?_
    refine wl_y (y_assign rfl) rfl ?_
    refine wl_nil ?_
    refine wq_then_norm (hK8 ?_)
    refine wc_ret ?_
    refine hret rfl ?_
    obtain rfl : b = 0 := by omega
    rw [tmk_zero] at ht
    exact ⟨by rw [← ht], by rw [← ht]; exact ho, F⟩
namespace Ae
def rot (x k : Nat) : Nat := x * 2 ^ k % 256 ||| x / 2 ^ (8 - k)
theorem rot_lt {x k : Nat} (hx : x < 256) : rot x k < 256 := Nat.or_lt_two_pow (n := 8) (Nat.mod_lt _ (by omega)) (Nat.lt_of_le_of_lt (Nat.div_le_self _ _) hx)
theorem rot_lem : ∀ x : Fin 256, ∀ k : Fin 5, (bits .or .u8 (IntKind.u8.wrap (((x.val : Nat) : Int) * 2 ^ min ((k.val : Nat) : Int).toNat IntKind.u8.bits)) (((x.val : Nat) : Int) / 2 ^ min (8 - ((k.val : Nat) : Int)).toNat IntKind.u8.bits)) = ((rot x.val k.val : Nat) : Int) := by decide +kernel
theorem and7 : ∀ k : Fin 5, bits .and .u64 ((k.val : Nat) : Int) 7 = ((k.val : Nat) : Int) := by decide +kernel
def bp : Nat → Nat
  | 0 => 1
  | i + 1 => tm (bp i) 3
def bq : Nat → Nat
  | 0 => 1
  | i + 1 => tm (bq i) 246
def bx (q : Nat) : Nat → Nat
  | 0 => q
  | n + 1 => bx q n ^^^ rot q (n + 1)
def tab : Nat → List UInt8
  | 0 => (List.replicate 256 0).set 0 99
  | i + 1 => (tab i).set (bp (i + 1)) (UInt8.ofNat (bx (bq (i + 1)) 4 ^^^ 99))
theorem tab_length : ∀ i, (tab i).length = 256
  | 0 => by unfold tab; rw [List.length_set, List.length_replicate]
  | i + 1 => by unfold tab; rw [List.length_set, tab_length i]
theorem bx_lt {q : Nat} (h : q < 256) : ∀ n, bx q n < 256
  | 0 => h
  | n + 1 => Nat.xor_lt_two_pow (n := 8) (bx_lt h n) (rot_lt h)
/-- The table. -/
def box : List UInt8 := tab 255
end Ae
theorem rot8_any (x k : Nat) (hx : x < 256) (hk : k < 5) (w : World) :
    Calls Try.prog 94 #[.int .u8 (x : Int), .int .i64 (k : Int)] w fun e w' => e = .returned (.int .u8 ((rot x k : Nat) : Int)) ∧ Ext w w' := by
  refine vc_enter1 17 Try.func94 rfl rfl rfl rfl ?_
  intro Q hret
  refine wc_seq ?_; intro K1 hK1
  refine wc_region ?_
  refine wl_y (y_assign rfl) rfl ?_
  refine wl_nil ?_
  refine wq_then_norm (hK1 ?_)
  refine wc_seq ?_; intro K2 hK2
  refine wc_region ?_
  refine wl_y (y_move rfl) rfl ?_
  refine wl_y (y_conv rfl Try.underlying3 Try.underlying71 (IntWalk.u64_in _ ⟨by omega, by omega⟩)) rfl ?_
  refine wl_y (y_and rfl rfl (and7 ⟨k, hk⟩)) rfl ?_
  refine wl_y (y_assign rfl) rfl ?_
  refine wl_nil ?_
  refine wq_then_norm (hK2 ?_)
  refine wc_seq ?_; intro K3 hK3
  refine wc_region ?_
  refine wl_y (y_move rfl) rfl ?_
  refine wl_y (y_move rfl) rfl ?_
  refine wl_y (y_shl rfl rfl (by omega) rfl) rfl ?_
  refine wl_y (y_move rfl) rfl ?_
  refine wl_y (y_move rfl) rfl ?_
  refine wl_y (y_sub rfl rfl (IntWalk.u64_in _ ⟨by omega, by omega⟩)) rfl ?_
  refine wl_y (y_shr rfl rfl (by omega) rfl) rfl ?_
  refine wl_y (y_or rfl rfl (rot_lem ⟨x, hx⟩ ⟨k, hk⟩)) rfl ?_
  refine wl_y (y_assign rfl) rfl ?_
  refine wl_nil ?_
  refine wq_then_norm (hK3 ?_)
  refine wc_ret ?_
  refine hret rfl ?_
  exact ⟨rfl, Ext.refl _⟩
end Go.Proofs.Ytjllhimhiekchaa
