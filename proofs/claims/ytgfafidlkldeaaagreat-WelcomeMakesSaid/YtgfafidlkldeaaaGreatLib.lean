/- Small words for memory: slices that read as lists, blocks known whole, and what a call leaves. No conditions: plain lemmas of the model. More small words for memory and jumps. No conditions: plain lemmas of the model. -/
import Derived.WalkKit
import Derived.WalkSpells
import Derived.WalkLawsBesides
import Derived.Maps.AppendAt
import Derived.Deep.AppendLies
import Derived.Deep.Draws
import Derived.Laws.OwnMore
import Derived.Laws.Rows
import Derived.RegionTactic
import Derived.OwnWalk
import Derived.Deep.QuietTactic
import Derived.BigQuiet
import Derived.BigRegion
import Derived.Lib.Hide
import Derived.Handy
import Derived.PlainAid
import Derived.StillTailTactics
import Derived.ScopeJumps
import Derived.WalkMore
import Derived.Deep.RegionHeld3
set_option linter.unusedVariables false
set_option linter.unusedSimpArgs false
namespace Go.Proofs.YtgfafidlkldeaaaGreat
theorem Om {p : Prop} (h : p := by omega) : p := h
theorem So {p : Prop} (h : p := by simp; omega) : p := h
theorem Nb {a b : Nat} (h : Nat.ble a b = true := by exact rfl) : a ≤ b := Nat.le_of_ble_eq_true h
theorem Kr {α : Type} {a b : α} (h : a = b := by kernel_rfl) : a = b := h
abbrev Oa := Option Addr
abbrev Lb := List UInt8
section
open Go.RowKit
theorem dQ {w : World} {a : Addr} {v : Value} (h : w.cell? a = some v) : a.block < w.heap.size := by
 rcases Nat.lt_or_ge a.block w.heap.size with hlt | hge
 ·exact hlt
 ·unfold World.cell? at h; rw [Array.getElem?_eq_none hge] at h; cases h
def At (w : World) (A : Option Addr) (xs : List Value) : Prop :=
 xs = [] ∨ ∃ b off, A = some ⟨b, off, none⟩ ∧ ∀ j u, xs[j]? = some u → w.cell? ⟨b, off + j, none⟩ = some u
theorem add_lit (b off j : Nat) : (⟨b, off, none⟩ : Addr).add j = ⟨b, off + j, none⟩ := by
 unfold Addr.add; split <;> simp_all
section
variable {w w' : World} {A : Option Addr} {xs : List Value}
theorem At.nil : At w A [] := .inl rfl
theorem At.ov {ad : Addr} (h : ∀ j u, xs[j]? = some u → w.cell? (ad.add j) = some u) : At w (some ad) xs := by
 rcases xs with _ | ⟨x, xs⟩
 ·exact .inl rfl
 ·obtain ⟨b, off, sp⟩ := ad
  have h0 := h 0 x rfl
  simp only [Addr.add, if_true] at h0
  have hs : sp = none := by
   cases sp with
   | none => rfl
   | some s => unfold World.cell? at h0; split at h0 <;> simp at h0
  subst hs
  exact .inr ⟨b, off, rfl, fun j u hu => by rw [← add_lit]; exact h j u hu⟩
theorem At.Mc {ad : Addr} (h : At w (some ad) xs) : ∀ j u, xs[j]? = some u → w.cell? (ad.add j) = some u := by
 rcases h with rfl | ⟨b, off, hA, hc⟩
 ·simp
 ·injection hA with hA
  subst hA
  intro j u hu
  rw [add_lit]; exact hc j u hu
theorem At.get (h : At w A xs) {k : Nat} (hk : k < xs.length) : ∃ b off, A = some ⟨b, off, none⟩ ∧ b < w.heap.size ∧ w.cell? ⟨b, off + k, none⟩ = some xs[k] := by
 rcases h with rfl | ⟨b, off, hA, hc⟩
 ·simp at hk
 ·have h1 := hc k xs[k] (List.getElem?_eq_getElem hk)
  exact ⟨b, off, hA, dQ h1, h1⟩
theorem At.NK (h : At w A xs) (hk : ∀ p : Addr, p.block < w.heap.size → w'.cell? p = w.cell? p) : At w' A xs := by
 rcases h with rfl | ⟨b, off, hA, hc⟩
 ·exact .inl rfl
 ·exact .inr ⟨b, off, hA, fun j u hu => (hk _ (dQ (hc j u hu))).trans (hc j u hu)⟩
theorem At.below (h : At w A xs) (hb : Below w.heap.size w w') : At w' A xs := h.NK fun _ hp => hb.cell hp
end
def bv (x : UInt8) : Value := .int .u8 (x.toNat : Int)
def Bs (w : World) (A : Option Addr) (n : Nat) (xs : List UInt8) : Prop := xs.length = n ∧ At w A (xs.map bv)
def Bn (base : Nat) (w : World) (A : Option Addr) (n : Nat) (xs : List UInt8) : Prop := Bs w A n xs ∧ ∀ b o, A = some ⟨b, o, none⟩ → base ≤ b
theorem Bn.lo {base b : Nat} {w : World} {A : Option Addr} {n : Nat} {xs : List UInt8} (h : Bn base w A n xs) (hb : b ≤ base) : Bn b w A n xs := ⟨h.1, fun c o e => Nat.le_trans hb (h.2 c o e)⟩
theorem Bn.nil (base : Nat) (w : World) : Bn base w none 0 [] := ⟨⟨rfl, .inl rfl⟩, fun _ _ e => by cases e⟩
section
variable {w w' : World} {A : Option Addr} {n : Nat} {xs : List UInt8}
theorem Bs.get (h : Bs w A n xs) {k : Nat} (hk : k < n) : ∃ b off, A = some ⟨b, off, none⟩ ∧ b < w.heap.size ∧ w.cell? ⟨b, off + k, none⟩ = some (.int .u8 ((xs.getD k 0).toNat : Int)) := by
 have hl : k < xs.length := by rw [h.1]; exact hk
 obtain ⟨b, off, e, hb, hc⟩ := h.2.get (k := k) (by simpa using hl)
 exact ⟨b, off, e, hb, by simpa [bv, hl] using hc⟩
theorem Bs.byte (h : Bs w A n xs) {k : Nat} (hk : k < n) : ∃ b off x, A = some ⟨b, off, none⟩ ∧ Hid (x = xs.getD k 0) ∧ w.cell? ⟨b, off + k, none⟩ = some (.int .u8 (x.toNat : Int)) := by
 obtain ⟨b, off, e, _, hc⟩ := h.get hk
 exact ⟨b, off, _, e, rfl, hc⟩
theorem Bs.xj {b off : Nat} (h : Bs w (some ⟨b, off, none⟩) n xs) {k : Nat} (hk : k < n) : ∃ x, Hid (x = xs.getD k 0) ∧ w.cell? ⟨b, off + k, none⟩ = some (.int .u8 (x.toNat : Int)) := by
 obtain ⟨b', off', e, _, hc⟩ := h.get hk
 injection e with e
 injection e with e1 e2
 subst e1; subst e2
 exact ⟨_, rfl, hc⟩
theorem Bs.one (w : World) (t : TypeId) (x : UInt8) : Bs (w.alloc (.cells #[.int .u8 (x.toNat : Int)] t)) (some ⟨w.heap.size, 0, none⟩) 1 [x] :=
 ⟨rfl, At.ov (cell_one_new _ _ _)⟩
theorem Bs.uO (w : World) (t : TypeId) {x : UInt8} {v : Value} (h : v = .int .u8 (x.toNat : Int)) : Bs (w.alloc (.cells #[v] t)) (some ⟨w.heap.size, 0, none⟩) 1 [x] := by subst h; exact Bs.one w t x
theorem dD {a : Int} {b : Nat} (h0 : 0 ≤ a) (h : a % 256 = (b : Int) % 256) (h1 : a < 256) : Value.int .u8 a = .int .u8 ((UInt8.ofNat b).toNat : Int) := by
 congr 1; rw [UInt8.toNat_ofNat']; omega
theorem aH (u : Value) (h : u ∈ xs.map bv) : u.oneCell' = true := by
 obtain ⟨x, _, rfl⟩ := List.mem_map.1 h
 rfl
theorem Bs.below (h : Bs w A n xs) (hb : Below w.heap.size w w') : Bs w' A n xs := ⟨h.1, h.2.below hb⟩
end
structure vm (P : Program) (t e : TypeId) (bytes : Nat) : Prop where
 ht : P.underlying t = some (.slice e)
 row : ∃ (i : TypeInfo) (z : Value), P.info? e = some i ∧ i.zero = some z ∧ i.size = 1 ∧ i.bytes = bytes ∧ z.cells.size = 1
theorem vm.of {P : Program} {t e : TypeId} {z : Value} {bytes : Nat} (ht : P.underlying t = some (.slice e)) (h : (P.info? e).map (fun i => (i.zero, i.size, i.bytes)) = some (some z, 1, bytes)) (hz : z.cells.size = 1) : vm P t e bytes := by
 obtain ⟨i, h1, h2, h3, h4⟩ := info_parts h
 exact ⟨ht, i, z, h1, h2, h3, h4, hz⟩
section
variable {P : Program} {w w0 : World} {α : Type} {f : α → Value}
theorem run_append_nil (base : Nat) (t ty e : TypeId) (bytes : Nat) (hE : vm P t e bytes)
  (v : Value) (n : Nat) (xs : List Value) (hown : w.ownsRow base e 1 v n xs) (c : Nat) : (Builtin.append_ #[t, t] ty #[v, .slice none 0 c]).run P w = .ok v w := by
 obtain ⟨ht, i, z, hi, _⟩ := hE
 rcases hown.2 with ⟨rfl, rfl⟩ | ⟨g, cap, cur, rfl, _, _, hnc, _⟩
 ·simp [Builtin.append_, run_underlying ht, sizeOf, typeInfo, hi, Builtin.lenOf, Builtin.firstCells]
 ·simp [Builtin.append_, run_underlying ht, sizeOf, typeInfo, hi, Builtin.lenOf, Builtin.firstCells, hnc, storeCells]
theorem oT (base : Nat) (t ty e : TypeId) (bytes : Nat) (hE : vm P t e bytes)
  (v : Value) (n : Nat) (xs : List Value) (hown : w.ownsRow base e 1 v n xs)
  (A : Option Addr) (m c : Nat) (ys : List Value) (hl : ys.length = m) (hr : At w A ys) (h1 : ∀ u ∈ ys, u.oneCell' = true)
  (hlen : (n + m) * bytes ≤ 140737488355328) (h63 : n + m ≤ 140737488355328) (hB : Below base w0 w) (hbase : base ≤ w.heap.size) :
  ∃ v' w', (Builtin.append_ #[t, t] ty #[v, .slice A m c]).run P w = .ok v' w' ∧ w'.ownsRow base e 1 v' (n + m) (xs ++ ys) ∧ Below base w0 w' ∧ w.grownBy w' v.ownBlock ∧
   (v'.ownBlock = v.ownBlock ∨ v'.ownBlock = some w.heap.size) := by
 have hr' := hr
 rcases hr with rfl | ⟨b, off, rfl, _⟩
 ·simp only [List.length_nil] at hl
  subst hl
  rcases A with _ | ad
  ·exact ⟨v, w, run_append_nil base t ty e bytes hE v n xs hown c, by simpa using hown, hB, World.grownBy.refl w _, .inl rfl⟩
  ·obtain ⟨ht, i, z, hi, hz, hs, hb, hzs⟩ := hE
   obtain ⟨v', w', hrun, h2, h3, _, h5⟩ := run_append_own_at (P := P) w base t ty e i z 1 bytes ht hi hz hs hb hzs (by omega) v n xs hown ad 0 c [] rfl (by simp) (by simp) (by unfold maxLen; omega) hlen hbase
   exact ⟨v', w', hrun, h2, hB.grown h3 hbase fun k hk => (hown.lt k hk).1, h3, h5⟩
 ·obtain ⟨ht, i, z, hi, hz, hs, hb, hzs⟩ := hE
  obtain ⟨v', w', hrun, h2, h3, _, h5⟩ := run_append_own_at (P := P) w base t ty e i z 1 bytes ht hi hz hs hb hzs (by omega) v n xs hown ⟨b, off, none⟩ m c ys (by omega) hr'.Mc h1 (by unfold maxLen; omega) hlen hbase
  exact ⟨v', w', hrun, h2, hB.grown h3 hbase fun k hk => (hown.lt k hk).1, h3, h5⟩
theorem mN {base n : Nat} {e : TypeId} {v : Value} {xs : List Value} (h : w.ownsRow base e 1 v n xs) : ∃ A c, v = .slice A n c := by
 rcases h.2 with ⟨rfl, rfl⟩ | ⟨g, cap, cur, rfl, _⟩
 ·exact ⟨none, 0, rfl⟩
 ·exact ⟨_, _, rfl⟩
theorem Cn {base n c : Nat} {e : TypeId} {A : Option Addr} {xs : List Value} (h : w.ownsRow base e 1 (.slice A n c) n xs) : At w A xs := by
 rcases h.2 with ⟨hv, rfl⟩ | ⟨g, cap, cur, hv, _⟩
 ·have := h.1
  exact .inl (List.eq_nil_of_length_eq_zero (by omega))
 ·injection hv with hA
  subst hA
  exact At.ov (h.cells rfl)
theorem er {ops : Array Oper} {rest : List Oper} {o : Oper} {a : Act} {Q : Exit → Act → World → Prop} (hgd : o.guard = none) (s x : Operand) (t : TypeId)
  (ho : o.op = .call { callee := .builtin .append, args := #[s, x], argTypes := #[t, t] })
  (e : TypeId) (bytes : Nat) (hE : vm P t e bytes) (base : Nat)
  (v : Value) (n : Nat) (xs : List Value) (hs : a.eval s = v) (hown : w.ownsRow base e 1 v n xs)
  (A : Option Addr) (m c : Nat) (ys : List Value) (hx : a.eval x = .slice A m c) (hl : ys.length = m) (hr : At w A ys) (h1 : ∀ u ∈ ys, u.oneCell' = true)
  (hlen : (n + m) * bytes ≤ 140737488355328) (h63 : n + m ≤ 140737488355328) (hB : Below base w0 w) (hbase : base ≤ w.heap.size)
  (h : ∀ A' c' w', w'.ownsRow base e 1 (.slice A' (n + m) c') (n + m) (xs ++ ys) → Below base w0 w' → w.grownBy w' v.ownBlock → ((Value.slice A' (n + m) c').ownBlock = v.ownBlock ∨ (Value.slice A' (n + m) c').ownBlock = some w.heap.size) →
   wpList P ops Q rest (a.put o.dst (.slice A' (n + m) c')) w') :
  wpList P ops Q (o :: rest) a w := by
 obtain ⟨v', w', hrun, h2, h3, h4, h5⟩ := oT (P := P) (w0 := w0) base t o.type e bytes hE v n xs hown A m c ys hl hr h1 hlen h63 hB hbase
 refine wpList_plain hgd fun _ hK => ?_
 unfold Oper.wp execOp
 simp only [ho, resolve, invoke, builtin, Sem.run_bind, Sem.run_pure, Result.andThen_ok, List.map_toArray, List.map_cons, List.map_nil, hs, hx, hrun]
 obtain ⟨A', c', rfl⟩ := mN h2
 exact hK _ _ (h A' c' w' h2 h3 h4 h5)
end
def ao (w : World) (g : Nat) (t : TypeId) (cs : Array Value) : Prop := w.heap[g]? = some (.cells cs t (0, 0))
section
variable {w w' : World} {g : Nat} {t : TypeId} {cs : Array Value}
theorem ao.lt (h : ao w g t cs) : g < w.heap.size := by
 rcases Nat.lt_or_ge g w.heap.size with hlt | hge
 ·exact hlt
 ·unfold ao at h; rw [Array.getElem?_eq_none hge] at h; cases h
theorem ao.cell (h : ao w g t cs) (i : Nat) : w.cell? ⟨g, i, none⟩ = cs[i]? := cell_of_row w g i cs t (0, 0) h
theorem ao.frozen (h : ao w g t cs) (i : Nat) : w.frozen? ⟨g, i, none⟩ = false := frozen_of_row w g i cs t h
theorem ao.new (w : World) (t : TypeId) (cs : Array Value) : ao (w.alloc (.cells cs t)) w.heap.size t cs := heap_alloc_new w _
theorem ao.alloc (h : ao w g t cs) (o : Obj) : ao (w.alloc o) g t cs := (Below.heap_alloc w o g h.lt).trans h
theorem ao.set (h : ao w g t cs) (i : Nat) (u : Value) : ao (w.setCell ⟨g, i, none⟩ u) g t (cs.setIfInBounds i u) := by
 unfold ao at h ⊢
 simp [World.setCell, Array.getElem?_modify, h]
theorem ao.xM (h : ao w g t cs) {p : Addr} (hp : g ≠ p.block) (u : Value) : ao (w.setCell p u) g t cs := (Below.heap_setCell w p u g hp).trans h
theorem ao.below {B : Nat} (h : ao w g t cs) (hb : Below B w w') (hg : g < B) : ao w' g t cs := (hb.block g hg).trans h
theorem ao.kept (h : ao w g t cs) (hb : Below w.heap.size w w') : ao w' g t cs := (hb.block g h.lt).trans h
theorem ao.grown {row : Option Nat} (h : ao w g t cs) (hb : w.grownBy w' row) (hg : some g ≠ row) : ao w' g t cs := (hb.block g h.lt hg).trans h
theorem ao.row (h : ao w g t cs) (cs' : Array Value) : ao (w.setRow g cs') g t cs' := setRow_heap w g cs cs' t (0, 0) h
theorem ao.gV (h : ao w g t cs) {k : Nat} (hk : g ≠ k) (cs' : Array Value) : ao (w.setRow k cs') g t cs := (setRow_other w k g cs' hk).trans h
theorem fv {B k : Nat} {a : World} (h : Below B a w) (hk : B ≤ k) (cs' : Array Value) : Below B a (w.setRow k cs') :=
 h.trans ⟨rfl, rfl, rfl, by simp [World.setRow], fun i hi => setRow_other w k i cs' (by omega)⟩
theorem jW {B : Nat} {a w : World} (h : Below B a w) (n : Nat) : Below B a (w.drewN n) := ⟨h.os, h.tape, h.output, h.size, h.block⟩
end
def iv (k : IntKind) (x : Nat) : Value := .int k (x : Int)
def aK (k : IntKind) (l : List Nat) : Array Value := (l.map (iv k)).toArray
theorem bc (k : IntKind) (l : List Nat) : (aK k l).size = l.length := by simp [aK]
theorem de (k : IntKind) (l : List Nat) (i : Nat) (h : i < l.length) : (aK k l)[i]? = some (.int k (l.getD i 0 : Nat)) := by
 simp [aK, iv, h]
theorem eS (k : IntKind) (l : List Nat) (i x : Nat) : (aK k l).setIfInBounds i (.int k (x : Int)) = aK k (l.set i x) := by
 simp [aK, iv, List.map_set]
theorem cF (k : IntKind) (l : List Nat) : (aK k l).all (·.oneCell') = true := by
 rw [Array.all_eq_true_iff_forall_mem]
 intro x hx
 simp only [aK, List.mem_toArray, List.mem_map] at hx
 obtain ⟨y, _, rfl⟩ := hx
 rfl
theorem dv {P : Program} {w : World} {ops : Array Oper} {rest : List Oper} {o : Oper} {a : Act} {Q : Exit → Act → World → Prop} (hgd : o.guard = none) (t : TypeId) (ho : o.op = .alloc t) (Z : Array Value)
    (hz : (P.info? t).map (fun i => i.zero.map (·.cells)) = some (some Z)) (b : Nat) (hb : w.heap.size = b)
    (h : wpList P ops Q rest (a.put o.dst (.pointer (some ⟨b, 0, none⟩))) (w.alloc (.cells Z t))) : wpList P ops Q (o :: rest) a w := by
  subst hb
  refine wpList_plain hgd fun _ hK => ?_
  cases hi : P.info? t with
  | none => simp [hi] at hz
  | some i =>
    cases hzz : i.zero with
    | none => simp [hi, hzz] at hz
    | some z =>
      simp only [hi, hzz, Option.map_some, Option.some.injEq] at hz
      subst hz
      unfold Oper.wp execOp
      simp only [ho]
      simp [Instr.alloc, zeroValue, typeInfo, hi, hzz, newVar, newRow]
      exact hK _ _ h
theorem qy {P : Program} {w : World} {ops : Array Oper} {rest : List Oper} {o : Oper} {a : Act} {Q : Exit → Act → World → Prop} (hg : o.guard = none) (t : TypeId) (parts : Array (Nat × Operand)) (ho : o.op = .build t parts)
  (cells : Array Value) (hf : P.built t (parts.map fun (i, x) => (i, a.eval x)).toList = some cells)
  (h : wpList P ops Q rest (a.put o.dst (.agg cells)) w) : wpList P ops Q (o :: rest) a w :=
 wpList_build hg t parts ho (by rw [hf]; rfl) (by rw [hf]; exact h)
theorem dS {P : Program} {w : World} {ops : Array Oper} {rest : List Oper} {o : Oper} {a : Act} {Q : Exit → Act → World → Prop} (hgd : o.guard = none) (ty : TypeId) (x y : Operand) (ho : o.op = .store ty x y)
  (g : Nat) (cells : Array Value) (hx : a.eval x = .pointer (some ⟨g, 0, none⟩)) (hy : a.eval y = .agg cells)
  (t : TypeId) (old : Array Value) (hg : ao w g t old) (n : Nat) (hi : (P.info? ty).map (·.size) = some n)
  (hn : cells.size = n) (hold : old.size = n) (h1 : cells.all (·.oneCell') = true)
  (h : wpList P ops Q rest (a.put o.dst undef) (w.setRow g cells)) : wpList P ops Q (o :: rest) a w :=
 wpList_store_row hgd ty x y ho g cells hx hy t old hg (by rw [hi, hn]) (by omega) h1 h
theorem mv {P : Program} {w : World} {ops : Array Oper} {rest : List Oper} {o : Oper} {a : Act} {Q : Exit → Act → World → Prop} (hgd : o.guard = none) (ty : TypeId) (x : Operand) (ho : o.op = .load ty x)
  (g : Nat) (hx : a.eval x = .pointer (some ⟨g, 0, none⟩)) (t : TypeId) (cs : Array Value) (d : TypeDesc) (hg : ao w g t cs)
  (hu : P.underlying ty = some d) (hd : (match d with | .struct _ | .array _ _ => true | _ => false) = true) (n : Nat) (hi : (P.info? ty).map (·.size) = some n) (hn : cs.size = n)
  (h : wpList P ops Q rest (a.put o.dst (.agg cs)) w) : wpList P ops Q (o :: rest) a w :=
 wpList_load_row hgd ty x ho g hx t cs (0, 0) d hg hu hd (by rw [hi, hn]) h
theorem nP {P : Program} {fn : Func} {R : Ending → World → Prop} {a : Act} {w : World} {p : Tmp} {ty : TypeId} (h : fn.results = #[.cell p ty]) (g : Nat) (t : TypeId) (cs : Array Value) (d : TypeDesc)
  (hp : a.tmps.getD p undef = .pointer (some ⟨g, 0, none⟩)) (hg : ao w g t cs)
  (hu : P.underlying ty = some d) (hd : (match d with | .struct _ | .array _ _ => true | _ => false) = true) (n : Nat) (hi : (P.info? ty).map (·.size) = some n) (hn : cs.size = n) (hdf : a.defers = [])
  (hR : R (.returned (.agg cs)) w) : bodyPost P fn R .ret a w :=
 bodyPost_ret (v := .agg cs) (results_cell_row h a.tmps w g t cs (0, 0) d hp hg hu hd (by rw [hi, hn])) hdf hR
def ji (n : Nat) : List Nat := List.replicate n 0
theorem mh (k : IntKind) (l : List Nat) (m i : Nat) (h : i < l.length) : (aK k (l ++ ji m))[i]? = some (.int k (l.getD i 0 : Nat)) := by
 rw [de _ _ _ (by simp; omega)]
 simp [List.getElem?_append, h]
theorem rm (k : IntKind) (l : List Nat) (m i : Nat) (h : i = l.length) (hm : 0 < m) : (aK k (l ++ ji m))[i]? = some (.int k 0) := by
 subst h
 rw [de _ _ _ (by simp [ji]; omega)]
 simp [ji, List.getElem?_append, List.getElem?_replicate, hm]
theorem tB (k : IntKind) (l : List Nat) (m m' i x : Nat) (h : i = l.length) (hm : m = m' + 1) : (aK k (l ++ ji m)).setIfInBounds i (.int k (x : Int)) = aK k (l ++ [x] ++ ji m') := by
 subst h; subst hm
 rw [eS]
 simp [ji, List.replicate_succ]
theorem ao.fill {w : World} {g m m' i x : Nat} {t : TypeId} {k : IntKind} {l : List Nat} {v : Value} (h : ao w g t (aK k (l ++ ji m))) (hi : i = l.length) (hm : m = m' + 1) (hv : v = .int k (x : Int)) :
  ao (w.setCell ⟨g, i, none⟩ v) g t (aK k (l ++ [x] ++ ji m')) := by
 subst hv
 rw [← tB k l m m' i x hi hm]
 exact h.set i _
theorem rU {k : IntKind} {a b : Int} (h : a = b) : Value.int k a = Value.int k b := by rw [h]
theorem br {a : Int} (h1 : -9223372036854775808 ≤ a) (h2 : a ≤ 9223372036854775807) : IntKind.i64.wrap a = a := IntWalk.i64_in _ ⟨h1, h2⟩
theorem Ib {P : Program} {f : FuncId} {args : Array Value} {w : World} {n : Nat} {v : Value}
  (h : Calls P f args (w.drewN n) fun e w' => e = .returned v ∧ w.drewN n = w') : Calls P f args (w.drewN n) fun e w'' => e = .returned v ∧ ∃ m, w'' = w.drewN m :=
 h.mono fun _ _ ⟨he, hm⟩ => ⟨he, n, hm.symm⟩
theorem rh {P : Program} {f : FuncId} {args : Array Value} {w : World} {a n : Nat} {v : Value}
  (h : Calls P f args (w.drewN (a + n)) fun e w' => e = .returned v ∧ w.drewN (a + n) = w') :
  Calls P f args (w.drewN (a + n)) fun e w'' => e = .returned v ∧ ∃ m, w'' = w.drewN (a + m) :=
 h.mono fun _ _ ⟨he, hm⟩ => ⟨he, n, hm.symm⟩
theorem lN {P : Program} (w : World) (dT sT ty elem : TypeId) (g o dLen dCap : Nat) (A : Option Addr) (m c : Nat) (cur : Array Value) (t : TypeId) (cs : List Value)
    (hu : P.underlying dT = some (.slice elem)) (hs : (P.info? elem).map (·.size) = some 1)
    (hg : ao w g t cur) (hr : At w A cs) (hn : cs.length = Nat.min m dLen) (hfit : o + cs.length ≤ cur.size) (h1 : ∀ v ∈ cs, v.oneCell' = true) :
    (Builtin.copy_ #[dT, sT] ty #[.slice (some ⟨g, o, none⟩) dLen dCap, .slice A m c]).run P w =
      .ok (.int .i64 (cs.length : Int)) (w.setRow g (cur.toList.take o ++ cs ++ cur.toList.drop (o + cs.length)).toArray) := by
  cases A with
  | some a => exact run_copy_row P w dT sT ty elem g o dLen dCap a m c cur t cs hu hs hg hn hr.Mc hfit h1
  | none =>
    have h0 : cs = [] := by
      rcases hr with h | ⟨b, off, h, _⟩
      · exact h
      · cases h
    subst h0
    have e : Nat.min m dLen = 0 := hn.symm
    have hcur : (cur.toList.take o ++ [] ++ cur.toList.drop (o + ([] : List Value).length)).toArray = cur := by
      simp
    rw [hcur, setRow_self w g cur t (0, 0) hg]
    cases hq : P.info? elem with
    | none => simp [hq] at hs
    | some i => simp [Builtin.copy_, run_underlying hu, Builtin.lenOf, Builtin.firstCells, sizeOf, typeInfo, hq, storeCells, e]; rfl
theorem Cf {P : Program} {w : World} {ops : Array Oper} {rest : List Oper} {o : Oper} {a : Act} {Q : Exit → Act → World → Prop} (hgd : o.guard = none) (s x : Operand) (dT sT elem : TypeId)
  (ho : o.op = .call { callee := .builtin .copy, args := #[s, x], argTypes := #[dT, sT] })
  (g off dLen dCap : Nat) (A : Option Addr) (m c : Nat) (cur : Array Value) (t : TypeId) (cs : List Value) (hx1 : a.eval s = .slice (some ⟨g, off, none⟩) dLen dCap) (hx2 : a.eval x = .slice A m c)
  (hu : P.underlying dT = some (.slice elem)) (hs : (P.info? elem).map (·.size) = some 1)
  (hg : ao w g t cur) (hr : At w A cs) (hn : cs.length = Nat.min m dLen) (hfit : off + cs.length ≤ cur.size) (h1 : ∀ v ∈ cs, v.oneCell' = true)
  (h : wpList P ops Q rest (a.put o.dst (.int .i64 (cs.length : Int))) (w.setRow g (cur.toList.take off ++ cs ++ cur.toList.drop (off + cs.length)).toArray)) : wpList P ops Q (o :: rest) a w := by
 refine wpList_plain hgd fun _ hK => ?_
 unfold Oper.wp execOp
 simp only [ho, resolve, invoke, builtin, Sem.run_bind, Sem.run_pure, Result.andThen_ok, List.map_toArray, List.map_cons, List.map_nil, hx1, hx2, lN (P := P) w dT sT o.type elem g off dLen dCap A m c cur t cs hu hs hg hr hn hfit h1]
 exact hK _ _ h
theorem ao.at {w : World} {g : Nat} {t : TypeId} {cs : Array Value} (h : ao w g t cs) (o : Nat) (xs : List Value) (hx : ∀ j u, xs[j]? = some u → cs[o + j]? = some u) : At w (some ⟨g, o, none⟩) xs :=
 .inr ⟨g, o, rfl, fun j u hu => by rw [h.cell]; exact hx j u hu⟩
theorem kO {k : IntKind} {l : List Nat} (v : Value) (h : v ∈ l.map (iv k)) : v.oneCell' = true := by
 obtain ⟨y, _, rfl⟩ := List.mem_map.1 h
 rfl
theorem uU (k : IntKind) (l l' : List Nat) (j : Nat) (u : Value) (h : (l.map (iv k))[j]? = some u) : (aK k (l ++ l'))[0 + j]? = some u := by
 have hl : j < (l.map (iv k)).length := (List.getElem?_eq_some_iff.1 h).1
 simp only [aK, List.map_append, Nat.zero_add, List.getElem?_toArray, List.getElem?_append, if_pos hl]
 exact h
theorem size_setRow (w : World) (g : Nat) (cs : Array Value) : (w.setRow g cs).heap.size = w.heap.size := by simp [World.setRow]
theorem size_setCell (w : World) (a : Addr) (u : Value) : (w.setCell a u).heap.size = w.heap.size := by simp [World.setCell]
theorem ny {a w : World} {B : Nat} (h : Below B a w) (hB : a.heap.size ≤ B) (row : Option Nat) : a.grownBy w row := ⟨h.os, h.tape, h.output, h.size, fun i hi _ => h.block i (by omega)⟩
theorem xu {a w : World} {row : Option Nat} (h : a.grownBy w row) : a.grownBy w.drew row := ⟨h.os, h.tape, h.output, h.size, h.block⟩
theorem qw {a w : World} {g : Nat} (h : a.grownBy w (some g)) {p : Addr} (hp : p.block = g ∨ a.heap.size ≤ p.block) (u : Value) : a.grownBy (w.setCell p u) (some g) :=
 ⟨h.os, h.tape, h.output, by rw [size_setCell]; exact h.size, fun i hi hne => (Below.heap_setCell w p u i (by
  rintro rfl
  rcases hp with hp | hp
  ·exact hne (by rw [hp])
  ·omega)).trans (h.block i hi hne)⟩
theorem wZ {a w w' : World} {row : Option Nat} (h : a.grownBy w row) (hb : Below w.heap.size w w') : a.grownBy w' row :=
 ⟨hb.os.trans h.os, hb.tape.trans h.tape, hb.output.trans h.output, Nat.le_trans h.size hb.size, fun i hi hne => (hb.block i (Nat.lt_of_lt_of_le hi h.size)).trans (h.block i hi hne)⟩
theorem nD {a w w' : World} {B g : Nat} (h : Below B a w) (hg : w.grownBy w' (some g)) (hB : B ≤ g) (hw : B ≤ w.heap.size) : Below B a w' :=
 h.grown hg hw (fun k hk => by injection hk with hk; omega)
def lenOf : Value → Nat | .slice _ n _ => n | _ => 0
def sN (w : World) (A : Option Addr) (n : Nat) (xss : List (List UInt8)) : Prop :=
 xss.length = n ∧ ∃ vs : List Value, vs.length = n ∧ At w A vs ∧ ∀ i, i < n → ∃ B m c, vs[i]? = some (.slice B m c) ∧ Bs w B m (xss.getD i [])
theorem sN.get {w : World} {A : Option Addr} {n : Nat} {xss : List (List UInt8)} (h : sN w A n xss) {k : Nat} (hk : k < n) :
  ∃ b off B m c xs, A = some ⟨b, off, none⟩ ∧ Hid (xs = xss.getD k []) ∧ w.cell? ⟨b, off + k, none⟩ = some (.slice B m c) ∧ Bs w B m xs := by
 obtain ⟨_, vs, hl, hat, hv⟩ := h
 obtain ⟨b, off, hA, _, hc⟩ := hat.get (k := k) (by omega)
 obtain ⟨B, m, c, h1, h2⟩ := hv k hk
 have : vs[k] = .slice B m c := by
  rw [List.getElem?_eq_getElem (by omega)] at h1
  injection h1
 exact ⟨b, off, B, m, c, _, hA, rfl, by rw [hc, this], h2⟩
theorem sN.below {w w' : World} {A : Option Addr} {n : Nat} {xss : List (List UInt8)} (h : sN w A n xss) (hb : Below w.heap.size w w') : sN w' A n xss := by
 obtain ⟨hl, vs, h1, h2, h3⟩ := h
 refine ⟨hl, vs, h1, h2.below hb, fun i hi => ?_⟩
 obtain ⟨B, m, c, h4, h5⟩ := h3 i hi
 exact ⟨B, m, c, h4, h5.below hb⟩
theorem eL {α : Type} (xss : List (List α)) (k : Nat) (hk : k < xss.length) : (xss.take (k + 1)).flatten = (xss.take k).flatten ++ xss.getD k [] := by
 rw [List.take_succ_eq_append_getElem hk, List.flatten_append]
 simp [hk]
theorem fR {α : Type} (xss : List (List α)) (k : Nat) : (xss.take k).flatten.length ≤ xss.flatten.length := by
 have h : xss.flatten = (xss.take k).flatten ++ (xss.drop k).flatten := by rw [← List.flatten_append, List.take_append_drop]
 rw [h, List.length_append]; omega
theorem rZ {P : Program} {a : Act} {w : World} {Q : Exit → Act → World → Prop} {c rest : Code} (l : Nat) (J : Act → World → Prop) (μ : Act → World → Nat) (hf : findLabel c l = some rest)
  (pass : ∀ a w, J a w → rest.wp P (Exit.jump l (fun a' w' => J a' w' ∧ μ a' w' < μ a w) Q) a w)
  (first : (∀ a w, J a w → rest.wp P (Exit.jump l J Q) a w) → c.wp P (Exit.jump l J Q) a w) : (Code.scope c).wp P Q a w := by
 refine wp_scope_jumps l J μ hf (first fun a w hJ => ?_) pass
 intro b k cs
 obtain ⟨e, a', w', hq, harr⟩ := pass a w hJ b k cs
 refine ⟨e, a', w', ?_, harr⟩
 cases e with
 | goto l' => exact ⟨hq.1, hq.2.1⟩
 | normal => exact hq
 | exit id => exact hq
 | ret => exact hq
 | panic ch => exact hq
 | outgrown => exact hq
theorem Bs.grown {w w' : World} {A : Option Addr} {n g : Nat} {xs : List UInt8} (h : Bs w A n xs) (hg : w.grownBy w' (some g)) (hne : ∀ b off, A = some ⟨b, off, none⟩ → b ≠ g) : Bs w' A n xs := by
 refine ⟨h.1, ?_⟩
 rcases h.2 with h0 | ⟨b, off, hA, hc⟩
 ·exact .inl h0
 ·exact .inr ⟨b, off, hA, fun j u hu => hg.cell (hc j u hu) (by simpa using hne b off hA)⟩
theorem Bs.cut {w : World} {A : Option Addr} {n cap : Nat} {xs : List UInt8} (h : Bs w A n xs) {k : Nat} (hk : k ≤ n) (_hc : n ≤ cap) : Bs w (if cap = k then A else A.map (·.add k)) (n - k) (xs.drop k) := by
 refine ⟨by rw [List.length_drop, h.1], ?_⟩
 by_cases hz : n = k
 ·exact .inl (by simp [List.drop_of_length_le (by rw [h.1]; omega : xs.length ≤ k)])
 ·rcases h.2 with h0 | ⟨b, off, rfl, hc⟩
  ·exact .inl (by simp at h0; simp [h0])
  ·rw [if_neg (by omega)]
   refine .inr ⟨b, off + k, by rw [Option.map_some, add_lit], fun j u hu => ?_⟩
   have := hc (k + j) u (by rw [← hu, List.map_drop, List.getElem?_drop])
   rw [← Nat.add_assoc] at this
   exact this
theorem Bs.take {w : World} {A : Option Addr} {n : Nat} {xs : List UInt8} (h : Bs w A n xs) {k : Nat} (hk : k ≤ n) : Bs w A k (xs.take k) := by
 refine ⟨by rw [List.length_take, h.1]; omega, ?_⟩
 rcases h.2 with h0 | ⟨b, off, rfl, hc⟩
 ·exact .inl (by simp at h0; simp [h0])
 ·refine .inr ⟨b, off, rfl, fun j u hu => hc j u ?_⟩
  rw [List.map_take, List.getElem?_take] at hu
  split at hu
  ·exact hu
  ·cases hu
end
section
open Go.RowKit
theorem tW {P : Program} {a : Act} {w : World} {Q : Exit → Act → World → Prop} {c rest : Code} (l : Nat) (J : Act → World → Prop) (μ : Act → World → Nat) (hf : findLabel c l = some (Code.skip.seq rest))
  (pass : ∀ a w, J a w → rest.wp P (Exit.jump l (fun a' w' => J a' w' ∧ μ a' w' < μ a w) Q) a w)
  (first : (∀ a w, J a w → rest.wp P (Exit.jump l J Q) a w) → c.wp P (Exit.jump l J Q) a w) : (Code.scope c).wp P Q a w := by
 refine rZ l J μ hf (fun a w hJ => wp_seq (wp_skip (pass a w hJ))) (fun h => first fun a w hJ => ?_)
 intro b k cs
 obtain ⟨e, a', w', hq, harr⟩ := pass a w hJ b k cs
 refine ⟨e, a', w', ?_, harr⟩
 cases e with
 | goto l' => exact ⟨hq.1, hq.2.1⟩
 | normal => exact hq
 | exit id => exact hq
 | ret => exact hq
 | panic ch => exact hq
 | outgrown => exact hq
theorem Bs.Jr {w : World} {A : Option Addr} {n : Nat} {xs : List UInt8} (h : Bs w A n xs) {k : Nat} (hk : n = k) (A' : Option Addr) : Bs w A' (n - k) (xs.drop k) :=
 ⟨by rw [List.length_drop, h.1], .inl (by simp [List.drop_of_length_le (by rw [h.1]; omega : xs.length ≤ k)])⟩
theorem Bs.wj {w : World} {b off : Nat} {n : Nat} {xs : List UInt8} (h : Bs w (some ⟨b, off, none⟩) n xs) (k : Nat) : Bs w (some ⟨b, off + k, none⟩) (n - k) (xs.drop k) := by
 refine ⟨by rw [List.length_drop, h.1], ?_⟩
 rcases h.2 with h0 | ⟨b', off', hA, hc⟩
 ·exact .inl (by simp at h0; simp [h0])
 ·injection hA with hA
  injection hA with h1 h2
  subst h1; subst h2
  refine .inr ⟨b, off + k, rfl, fun j u hu => ?_⟩
  have := hc (k + j) u (by rw [← hu, List.map_drop, List.getElem?_drop])
  rw [← Nat.add_assoc] at this
  exact this
theorem xy {w : World} {base n c : Nat} {e : TypeId} {A : Option Addr} {xs : List Value} (h : w.ownsRow base e 1 (.slice A n c) n xs) : n ≤ c := by
 rcases h.2 with ⟨hv, rfl⟩ | ⟨g, cap, cur, hv, _, _, hc, _⟩
 ·omega
 ·injection hv with _ _ hv; omega
theorem qp {P : Program} {w : World} {t e : TypeId} {n : Nat} {kd k : IntKind} {cs : Array Value} {i : Nat} {v : Value} (hu : P.underlying t = some (.array n e)) (he : P.underlying e = some (.int kd)) (hs : (P.info? e).map (·.size) = some 1)
    (hi : i < n) (hv : cs[i]? = some v) : (Instr.index t (.agg cs) (.int k (i : Int))).run P w = .ok v w := by
  have hagg : (isAgg e).run P w = .ok false w := by
    unfold isAgg
    rw [Sem.run_bind, run_underlying he w]
    rfl
  cases hq : P.info? e with
  | none => simp [hq] at hs
  | some j =>
    have hj : j.size = 1 := by simpa [hq] using hs
    simp [Instr.index, run_underlying hu, asIntOf, sizeOf, typeInfo, hq, hj, part, hagg, hv, hi]
def cJ (l : List UInt8) : Array Value := (l.map bv).toArray
def fV (n : Nat) : List UInt8 := List.replicate n 0
theorem aW (l : List UInt8) : (cJ l).size = l.length := by simp [cJ]
theorem iX {l : List UInt8} {i : Nat} (h : i < l.length) : (cJ l)[i]? = some (.int .u8 ((l.getD i 0).toNat : Int)) := by simp [cJ, bv, h]
theorem jT (l : List UInt8) : (cJ l).all (·.oneCell') = true := by
 rw [Array.all_eq_true_iff_forall_mem]
 intro x hx
 simp only [cJ, List.mem_toArray] at hx
 exact aH x hx
theorem lM {l : List UInt8} {m i : Nat} (h : l.length ≤ i) (hm : i < l.length + m) : (cJ (l ++ fV m))[i]? = some (.int .u8 0) := by
 rw [iX (by simp [fV]; omega)]
 simp [fV, List.getElem?_append, List.getElem?_replicate, show ¬ i < l.length by omega, show i - l.length < m by omega]
theorem j3 (l : List UInt8) (i : Nat) (x : UInt8) : (cJ l).setIfInBounds i (.int .u8 (x.toNat : Int)) = cJ (l.set i x) := by
 simp [cJ, bv, List.map_set]
theorem uv {l : List UInt8} {m m' i : Nat} {x : UInt8} (h : i = l.length) (hm : m = m' + 1) : (cJ (l ++ fV m)).setIfInBounds i (.int .u8 (x.toNat : Int)) = cJ (l ++ [x] ++ fV m') := by
 subst h; subst hm
 rw [j3]
 simp [fV, List.replicate_succ]
theorem ao.xR {w : World} {g m m' i : Nat} {t : TypeId} {l : List UInt8} {v : Value} {x : UInt8} (h : ao w g t (cJ (l ++ fV m))) (hi : i = l.length) (hm : m = m' + 1) (hv : v = .int .u8 (x.toNat : Int)) :
  ao (w.setCell ⟨g, i, none⟩ v) g t (cJ (l ++ [x] ++ fV m')) := by
 subst hv
 rw [← uv hi hm]
 exact h.set i _
end
end Go.Proofs.YtgfafidlkldeaaaGreat
