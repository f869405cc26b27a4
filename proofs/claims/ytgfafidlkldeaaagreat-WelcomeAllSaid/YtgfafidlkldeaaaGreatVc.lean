/- A walk by small laws: what slots hold as a list, one law an operation, regions that draw their order taken in one order. No conditions: plain lemmas of the model. A region that draws its order, walked in one order: what only reads is taken first; what makes memory is taken as it comes up; a store comes behind all that must not see it. No conditions: plain lemmas of the model. -/
import Derived.WalkKit
import Derived.WalkSpells
import Derived.WalkLawsBesides
import Derived.Maps.AppendAt
import Derived.Deep.AppendLies
import Derived.Deep.Draws
import Derived.Laws.OwnMore
import Derived.Laws.Rows
import Derived.RegionTactic
import Derived.OwnWalk
import Derived.Deep.QuietTactic
import Derived.BigQuiet
import Derived.BigRegion
import Derived.Lib.Hide
import Derived.Handy
import Derived.PlainAid
import Derived.StillTailTactics
import Derived.ScopeJumps
import Derived.WalkMore
import Derived.Deep.RegionHeld3
import Derived.Test.YtgfafidlkldeaaaGreatChecked
import Derived.ProofKit
import Derived.OpenShut
import Derived.ShutString
import Derived.ChangeOld
import Derived.Deep.LoopGhost
set_option linter.unusedVariables false
set_option linter.unusedSimpArgs false
namespace Go.Proofs.YtgfafidlkldeaaaGreat
variable {a : Act} {ad : Addr} {aa3 : Array Bool} {after : Array Edge} {ops : Array Oper} {args : Array Value} {b held : Bool} {x y : Code} {Q R : Exit → Act → World → Prop} {fn : Func} {f : FuncId} {xss : List (List UInt8)} {L L' : List (Nat × Value)} {rest : List Oper} {l xs : List UInt8} {cs vs : List Value} {B base bytes cap fuel g i id j k m m' n n' off : Nat} {spare : Nat → Bool} {op : Op} {o oi : Oper} {c : Operand} {A : Option Addr} {dst : Option Tmp} {P : Program} {a' b' c' d' f' g' h h' i' j' p z : Prop} {pos : String} {d u : Tmp} {e t ty : TypeId} {v : Value} {W w w' w0 : World}
section
abbrev cf (g : Nat) : Option Addr := some ⟨g, 0, none⟩
theorem aa2 {p : Prop} [Decidable p] (h : decide p = true) : p := of_decide_eq_true h
abbrev aa9 := World
theorem Om (h : p := by omega) : p := h
theorem So (h : p := by simp; omega) : p := h
theorem Nb {a b : Nat} (h : Nat.ble a b = true := by exact rfl) : a ≤ b := Nat.le_of_ble_eq_true h
theorem Kr {α : Type} {a b : α} (h : a = b := by kernel_rfl) : a = b := h
abbrev Oa := Option Addr
abbrev Lb := List UInt8
open Go.RowKit
theorem dR {a : Addr} (h : w.cell? a = some v) : a.block < w.heap.size := by
 rcases Nat.lt_or_ge a.block w.heap.size with hlt | hge
 ·exact hlt
 unfold World.cell? at h; grind
def At (w : aa9) (A : Option Addr) (xs : List Value) : Prop :=
 xs = [] ∨ ∃ b off, A = some ⟨b, off, none⟩ ∧ ∀ j u, xs[j]? = some u → w.cell? ⟨b, off + j, none⟩ = some u
theorem add_lit (b off j : Nat) : (⟨b, off, none⟩ : Addr).add j = ⟨b, off + j, none⟩ := by unfold Addr.add; grind
section
variable {xs : List Value}
theorem At.nil : At w A [] := .inl rfl
theorem At.uv (h : ∀ j u, xs[j]? = some u → w.cell? (ad.add j) = some u) : At w (some ad) xs := by
 rcases xs with _ | ⟨x, xs⟩
 ·exact .inl rfl
 obtain ⟨b, off, sp⟩ := ad;have h0 := h 0 x rfl;simp only [Addr.add, if_true] at h0
 have hs : sp = none := by
  cases sp with
  | none => rfl
  | some s => unfold World.cell? at h0; grind
 subst hs;exact .inr ⟨b, off, rfl, fun j u hu => by rw [← add_lit]; exact h j u hu⟩
theorem At.Vm (h : At w (some ad) xs) : ∀ j u, xs[j]? = some u → w.cell? (ad.add j) = some u := by
 rcases h with rfl | ⟨b, off, hA, hc⟩
 ·simp
 injection hA with hA
 subst hA;intro j u hu;rw [add_lit]; exact hc j u hu
theorem At.get (h : At w A xs) (hk : k < xs.length) : ∃ b off, A = some ⟨b, off, none⟩ ∧ b < w.heap.size ∧ w.cell? ⟨b, off + k, none⟩ = some xs[k] := by
 rcases h with rfl | ⟨b, off, hA, hc⟩
 ·simp at hk
 have h1 := hc k xs[k] (List.getElem?_eq_getElem hk);exact ⟨b, off, hA, dR h1, h1⟩
theorem At.XJ (h : At w A xs) (hk : ∀ p : Addr, p.block < w.heap.size → w'.cell? p = w.cell? p) : At w' A xs := by
 rcases h with rfl | ⟨b, off, hA, hc⟩
 ·exact .inl rfl
 exact .inr ⟨b, off, hA, fun j u hu => (hk _ (dR (hc j u hu))).trans (hc j u hu)⟩
theorem At.below (h : At w A xs) (hb : Below w.heap.size w w') : At w' A xs := h.XJ fun _ hp => hb.cell hp
end
def bv (x : UInt8) : Value := .int .u8 (x.toNat : Int)
def Bs (w : aa9) (A : Option Addr) (n : Nat) (xs : List UInt8) : Prop := xs.length = n ∧ At w A (xs.map bv)
def Nw (base : Nat) (w : aa9) (A : Option Addr) : Prop := ∀ b o, A = some ⟨b, o, none⟩ → base ≤ b ∧ ∃ t cur, w.heap[b]? = some (.cells cur t (0, 0))
theorem Nw.lo {b : Nat} (h : Nw base w A) (hb : b ≤ base) : Nw b w A := fun c o e => ⟨Nat.le_trans hb (h c o e).1, (h c o e).2⟩
def Bn (base : Nat) (w : aa9) (A : Option Addr) (n : Nat) (xs : List UInt8) : Prop := Bs w A n xs ∧ Nw base w A
theorem Bn.lo {b : Nat} (h : Bn base w A n xs) (hb : b ≤ base) : Bn b w A n xs := ⟨h.1, h.2.lo hb⟩
theorem Bn.nil (base : Nat) (w : aa9) : Bn base w none 0 [] := ⟨⟨rfl, .inl rfl⟩, fun _ _ e => by cases e⟩
section
theorem Bs.get (h : Bs w A n xs) (hk : k < n) : ∃ b off, A = some ⟨b, off, none⟩ ∧ b < w.heap.size ∧ w.cell? ⟨b, off + k, none⟩ = some (.int .u8 ((xs.getD k 0).toNat : Int)) := by
 have hl : k < xs.length := by rw [h.1]; exact hk
 obtain ⟨b, off, e, hb, hc⟩ := h.2.get (k := k) (by simpa using hl);exact ⟨b, off, e, hb, by simpa [bv, hl] using hc⟩
theorem Bs.byte (h : Bs w A n xs) (hk : k < n) : ∃ b off x, A = some ⟨b, off, none⟩ ∧ Hid (x = xs.getD k 0) ∧ w.cell? ⟨b, off + k, none⟩ = some (.int .u8 (x.toNat : Int)) := by obtain ⟨b, off, e, _, hc⟩ := h.get hk;exact ⟨b, off, _, e, rfl, hc⟩
theorem Bs.yb {b : Nat} (h : Bs w (some ⟨b, off, none⟩) n xs) (hk : k < n) : ∃ x, Hid (x = xs.getD k 0) ∧ w.cell? ⟨b, off + k, none⟩ = some (.int .u8 (x.toNat : Int)) := by
 obtain ⟨b', off', e, _, hc⟩ := h.get hk;injection e with e
 injection e with e1 e2
 subst e1; subst e2;exact ⟨_, rfl, hc⟩
theorem Bs.one (w : aa9) (t : TypeId) (x : UInt8) : Bs (w.alloc (.cells #[.int .u8 (x.toNat : Int)] t)) (some ⟨w.heap.size, 0, none⟩) 1 [x] :=
 ⟨rfl, At.uv (cell_one_new _ _ _)⟩
theorem Bs.yQ (w : aa9) (t : TypeId) {x : UInt8} (h : v = .int .u8 (x.toNat : Int)) : Bs (w.alloc (.cells #[v] t)) (some ⟨w.heap.size, 0, none⟩) 1 [x] := by subst h; exact Bs.one w t x
theorem kf {a : Int} {b : Nat} (h0 : 0 ≤ a) (h : a % 256 = (b : Int) % 256) (h1 : a < 256) : Value.int .u8 a = .int .u8 ((UInt8.ofNat b).toNat : Int) := by congr 1; rw [UInt8.toNat_ofNat']; omega
theorem aJ (u : Value) (h : u ∈ xs.map bv) : u.oneCell' = true := by obtain ⟨x, _, rfl⟩ := List.mem_map.1 h;rfl
theorem Bs.below (h : Bs w A n xs) (hb : Below w.heap.size w w') : Bs w' A n xs := ⟨h.1, h.2.below hb⟩
end
structure Cf (P : Program) (t e : TypeId) (bytes : Nat) : Prop where
 ht : P.underlying t = some (.slice e)
 row : ∃ (i : TypeInfo) (z : Value), P.info? e = some i ∧ i.zero = some z ∧ i.size = 1 ∧ i.bytes = bytes ∧ z.cells.size = 1
theorem Cf.of {z : Value} (ht : P.underlying t = some (.slice e)) (h : (P.info? e).map (fun i => (i.zero, i.size, i.bytes)) = some (some z, 1, bytes)) (hz : z.cells.size = 1) : Cf P t e bytes := by obtain ⟨i, h1, h2, h3, h4⟩ := info_parts h;exact ⟨ht, i, z, h1, h2, h3, h4, hz⟩
section
variable {α : Type} {f : α → Value}
theorem run_append_nil (base : Nat) (t ty e : TypeId) (bytes : Nat) (hE : Cf P t e bytes)
  (v : Value) (n : Nat) (xs : List Value) (aa5 : w.ownsRow base e 1 v n xs) (c : Nat) : (Builtin.append_ #[t, t] ty #[v, .slice none 0 c]).run P w = .ok v w := by
 obtain ⟨ht, i, z, hi, _⟩ := hE
 rcases aa5.2 with ⟨rfl, rfl⟩ | ⟨g, cap, cur, rfl, _, _, hnc, _⟩
 ·simp [Builtin.append_, run_underlying ht, sizeOf, typeInfo, hi, Builtin.lenOf, Builtin.firstCells]
 simp [Builtin.append_, run_underlying ht, sizeOf, typeInfo, hi, Builtin.lenOf, Builtin.firstCells, hnc, storeCells]
theorem tN (base : Nat) (t ty e : TypeId) (bytes : Nat) (hE : Cf P t e bytes)
  (v : Value) (n : Nat) (xs : List Value) (aa5 : w.ownsRow base e 1 v n xs)
  (A : Option Addr) (m c : Nat) (ys : List Value) (hl : ys.length = m) (hr : At w A ys) (h1 : ∀ u ∈ ys, u.oneCell' = true)
  (hlen : (n + m) * bytes ≤ 140737488355328) (h63 : n + m ≤ 140737488355328) (hB : Below base w0 w) (aa6 : base ≤ w.heap.size) :
  ∃ v' w', (Builtin.append_ #[t, t] ty #[v, .slice A m c]).run P w = .ok v' w' ∧ w'.ownsRow base e 1 v' (n + m) (xs ++ ys) ∧ Below base w0 w' ∧ w.grownBy w' v.ownBlock ∧
   (v'.ownBlock = v.ownBlock ∨ v'.ownBlock = some w.heap.size) := by
 have hr' := hr
 rcases hr with rfl | ⟨b, off, rfl, _⟩
 ·simp only [List.length_nil] at hl;subst hl;rcases A with _ | ad
  ·exact ⟨v, w, run_append_nil base t ty e bytes hE v n xs aa5 c, by grind, hB, World.grownBy.refl w _, .inl rfl⟩
  obtain ⟨ht, i, z, hi, hz, hs, hb, hzs⟩ := hE;obtain ⟨v', w', aa8, h2, h3, _, h5⟩ := run_append_own_at (P := P) w base t ty e i z 1 bytes ht hi hz hs hb hzs (Om) v n xs aa5 ad 0 c [] rfl (by simp) (by simp) (by unfold maxLen; omega) hlen aa6;exact ⟨v', w', aa8, h2, hB.grown h3 aa6 fun k hk => (aa5.lt k hk).1, h3, h5⟩
 obtain ⟨ht, i, z, hi, hz, hs, hb, hzs⟩ := hE;obtain ⟨v', w', aa8, h2, h3, _, h5⟩ := run_append_own_at (P := P) w base t ty e i z 1 bytes ht hi hz hs hb hzs (Om) v n xs aa5 ⟨b, off, none⟩ m c ys (Om) hr'.Vm h1 (by unfold maxLen; omega) hlen aa6;exact ⟨v', w', aa8, h2, hB.grown h3 aa6 fun k hk => (aa5.lt k hk).1, h3, h5⟩
theorem qp {xs : List Value} (h : w.ownsRow base e 1 v n xs) : ∃ A c, v = .slice A n c := by
 rcases h.2 with ⟨rfl, rfl⟩ | ⟨g, cap, cur, rfl, _⟩
 ·grind
 grind
theorem M1 {c : Nat} {xs : List Value} (h : w.ownsRow base e 1 (.slice A n c) n xs) : At w A xs := by
 rcases h.2 with ⟨hv, rfl⟩ | ⟨g, cap, cur, hv, _⟩
 ·have := h.1;exact .inl (List.eq_nil_of_length_eq_zero (Om))
 injection hv with hA
 subst hA;exact At.uv (h.cells rfl)
theorem fL (hgd : o.guard = none) (s x : Operand) (t : TypeId)
  (ho : o.op = .call { callee := .builtin .append, args := #[s, x], argTypes := #[t, t] })
  (e : TypeId) (bytes : Nat) (hE : Cf P t e bytes) (base : Nat)
  (v : Value) (n : Nat) (xs : List Value) (hs : a.eval s = v) (aa5 : w.ownsRow base e 1 v n xs)
  (A : Option Addr) (m c : Nat) (ys : List Value) (hx : a.eval x = .slice A m c) (hl : ys.length = m) (hr : At w A ys) (h1 : ∀ u ∈ ys, u.oneCell' = true)
  (hlen : (n + m) * bytes ≤ 140737488355328) (h63 : n + m ≤ 140737488355328) (hB : Below base w0 w) (aa6 : base ≤ w.heap.size)
  (h : ∀ A' c' w', w'.ownsRow base e 1 (.slice A' (n + m) c') (n + m) (xs ++ ys) → Below base w0 w' → w.grownBy w' v.ownBlock → ((Value.slice A' (n + m) c').ownBlock = v.ownBlock ∨ (Value.slice A' (n + m) c').ownBlock = some w.heap.size) →
   wpList P ops Q rest (a.put o.dst (.slice A' (n + m) c')) w') :
  wpList P ops Q (o :: rest) a w := by
 obtain ⟨v', w', aa8, h2, h3, h4, h5⟩ := tN (P := P) (w0 := w0) base t o.type e bytes hE v n xs aa5 A m c ys hl hr h1 hlen h63 hB aa6;refine wpList_plain hgd fun _ hK => ?_;unfold Oper.wp execOp;simp only [ho, resolve, invoke, builtin, Sem.run_bind, Sem.run_pure, Result.andThen_ok, List.map_toArray, List.map_cons, List.map_nil, hs, hx, aa8];obtain ⟨A', c', rfl⟩ := qp h2;exact hK _ _ (h A' c' w' h2 h3 h4 h5)
end
def aq (w : aa9) (g : Nat) (t : TypeId) (cs : Array Value) : Prop := w.heap[g]? = some (.cells cs t (0, 0))
section
variable {cs : Array Value}
theorem aq.lt (h : aq w g t cs) : g < w.heap.size := by
 rcases Nat.lt_or_ge g w.heap.size with hlt | hge
 ·exact hlt
 unfold aq at h; grind
theorem aq.cell (h : aq w g t cs) (i : Nat) : w.cell? ⟨g, i, none⟩ = cs[i]? := cell_of_row w g i cs t (0, 0) h
theorem aq.frozen (h : aq w g t cs) (i : Nat) : w.frozen? ⟨g, i, none⟩ = false := frozen_of_row w g i cs t h
theorem aq.new (w : aa9) (t : TypeId) (cs : Array Value) : aq (w.alloc (.cells cs t)) w.heap.size t cs := heap_alloc_new w _
theorem aq.alloc (h : aq w g t cs) (o : Obj) : aq (w.alloc o) g t cs := (Below.heap_alloc w o g h.lt).trans h
theorem aq.set (h : aq w g t cs) (i : Nat) (u : Value) : aq (w.setCell ⟨g, i, none⟩ u) g t (cs.setIfInBounds i u) := by unfold aq at h ⊢;simp [World.setCell, Array.getElem?_modify, h]
theorem aq.Fq (h : aq w g t cs) {p : Addr} (hp : g ≠ p.block) (u : Value) : aq (w.setCell p u) g t cs := (Below.heap_setCell w p u g hp).trans h
theorem aq.below (h : aq w g t cs) (hb : Below B w w') (hg : g < B) : aq w' g t cs := (hb.block g hg).trans h
theorem aq.kept (h : aq w g t cs) (hb : Below w.heap.size w w') : aq w' g t cs := (hb.block g h.lt).trans h
theorem aq.grown {row : Option Nat} (h : aq w g t cs) (hb : w.grownBy w' row) (hg : some g ≠ row) : aq w' g t cs := (hb.block g h.lt hg).trans h
theorem aq.row (h : aq w g t cs) (cs' : Array Value) : aq (w.setRow g cs') g t cs' := setRow_heap w g cs cs' t (0, 0) h
theorem aq.jU (h : aq w g t cs) (hk : g ≠ k) (cs' : Array Value) : aq (w.setRow k cs') g t cs := (setRow_other w k g cs' hk).trans h
theorem iu {a : aa9} (h : Below B a w) (hk : B ≤ k) (cs' : Array Value) : Below B a (w.setRow k cs') :=
 h.trans ⟨rfl, rfl, rfl, by simp_all, fun i hi => setRow_other w k i cs' (Om)⟩
theorem nA {a w : aa9} (h : Below B a w) (n : Nat) : Below B a (w.drewN n) := ⟨h.os, h.tape, h.output, h.size, h.block⟩
end
def iv (k : IntKind) (x : Nat) : Value := .int k (x : Int)
def aM (k : IntKind) (l : List Nat) : Array Value := (l.map (iv k)).toArray
theorem bf (k : IntKind) (l : List Nat) : (aM k l).size = l.length := by simp [aM]
theorem dQ (k : IntKind) (l : List Nat) (i : Nat) (h : i < l.length) : (aM k l)[i]? = some (.int k (l.getD i 0 : Nat)) := by simp [aM, iv, h]
theorem gu (k : IntKind) (l : List Nat) (i x : Nat) : (aM k l).setIfInBounds i (.int k (x : Int)) = aM k (l.set i x) := by simp [aM, iv, List.map_set]
theorem cZ (k : IntKind) (l : List Nat) : (aM k l).all (·.oneCell') = true := by rw [Array.all_eq_true_iff_forall_mem];intro x hx;simp only [aM, List.mem_toArray, List.mem_map] at hx;obtain ⟨y, _, rfl⟩ := hx;rfl
theorem dY (hgd : o.guard = none) (t : TypeId) (ho : o.op = .alloc t) (Z : Array Value)
    (hz : (P.info? t).map (fun i => i.zero.map (·.cells)) = some (some Z)) (b : Nat) (hb : w.heap.size = b)
    (h : wpList P ops Q rest (a.put o.dst (.pointer (cf b))) (w.alloc (.cells Z t))) : wpList P ops Q (o :: rest) a w := by
  subst hb;refine wpList_plain hgd fun _ hK => ?_
  cases hi : P.info? t with
  | none => simp [hi] at hz
  | some i =>
    cases hzz : i.zero with
    | none => grind
    | some z =>
      simp only [hi, hzz, Option.map_some, Option.some.injEq] at hz
      subst hz
      unfold Oper.wp execOp
      simp only [ho]
      simp [Instr.alloc, zeroValue, typeInfo, hi, hzz, newVar, newRow]
      exact hK _ _ h
theorem wG (hg : o.guard = none) (t : TypeId) (parts : Array (Nat × Operand)) (ho : o.op = .build t parts)
  (cells : Array Value) (hf : P.built t (parts.map fun (i, x) => (i, a.eval x)).toList = some cells)
  (h : wpList P ops Q rest (a.put o.dst (.agg cells)) w) : wpList P ops Q (o :: rest) a w :=
 wpList_build hg t parts ho (by rw [hf]; rfl) (by grind)
theorem eY (hgd : o.guard = none) (ty : TypeId) (x y : Operand) (ho : o.op = .store ty x y)
  (g : Nat) (cells : Array Value) (hx : a.eval x = .pointer (cf g)) (hy : a.eval y = .agg cells)
  (t : TypeId) (old : Array Value) (hg : aq w g t old) (n : Nat) (hi : (P.info? ty).map (·.size) = some n)
  (hn : cells.size = n) (hold : old.size = n) (h1 : cells.all (·.oneCell') = true)
  (h : wpList P ops Q rest (a.put o.dst undef) (w.setRow g cells)) : wpList P ops Q (o :: rest) a w :=
 wpList_store_row hgd ty x y ho g cells hx hy t old hg (by rw [hi, hn]) (Om) h1 h
theorem pM {P : Program} {w : aa9} {ops : Array Oper} {rest : List Oper} {o : Oper} {a : Act} {Q : Exit → Act → aa9 → Prop} (hgd : o.guard = none) (ty : TypeId) (x : Operand) (ho : o.op = .load ty x)
  (g : Nat) (hx : a.eval x = .pointer (cf g)) (t : TypeId) (cs : Array Value) (d : TypeDesc) (hg : aq w g t cs)
  (hu : P.underlying ty = some d) (hd : (match d with | .struct _ | .array _ _ => true | _ => false) = true) (n : Nat) (hi : (P.info? ty).map (·.size) = some n) (hn : cs.size = n)
  (h : wpList P ops Q rest (a.put o.dst (.agg cs)) w) : wpList P ops Q (o :: rest) a w :=
 wpList_load_row hgd ty x ho g hx t cs (0, 0) d hg hu hd (by rw [hi, hn]) h
theorem sD {P : Program} {fn : Func} {R : Ending → aa9 → Prop} {a : Act} {w : aa9} {p : Tmp} {ty : TypeId} (h : fn.results = #[.cell p ty]) (g : Nat) (t : TypeId) (cs : Array Value) (d : TypeDesc)
  (hp : a.tmps.getD p undef = .pointer (cf g)) (hg : aq w g t cs)
  (hu : P.underlying ty = some d) (hd : (match d with | .struct _ | .array _ _ => true | _ => false) = true) (n : Nat) (hi : (P.info? ty).map (·.size) = some n) (hn : cs.size = n) (hdf : a.defers = [])
  (hR : R (.returned (.agg cs)) w) : bodyPost P fn R .ret a w :=
 bodyPost_ret (v := .agg cs) (results_cell_row h a.tmps w g t cs (0, 0) d hp hg hu hd (by rw [hi, hn])) hdf hR
def me (n : Nat) : List Nat := List.replicate n 0
theorem pS (k : IntKind) (l : List Nat) (m i : Nat) (h : i < l.length) : (aM k (l ++ me m))[i]? = some (.int k (l.getD i 0 : Nat)) := by rw [dQ _ _ _ (by simp; omega)];grind
theorem vE (k : IntKind) (l : List Nat) (m i : Nat) (h : i = l.length) (hm : 0 < m) : (aM k (l ++ me m))[i]? = some (.int k 0) := by subst h;rw [dQ _ _ _ (by simp [me]; omega)];simp [me, List.getElem?_append, List.getElem?_replicate, hm]
theorem BW (k : IntKind) (l : List Nat) (m m' i x : Nat) (h : i = l.length) (hm : m = m' + 1) : (aM k (l ++ me m)).setIfInBounds i (.int k (x : Int)) = aM k (l ++ [x] ++ me m') := by subst h; subst hm;rw [gu];simp [me, List.replicate_succ]
theorem aq.fill {x : Nat} {k : IntKind} {l : List Nat} (h : aq w g t (aM k (l ++ me m))) (hi : i = l.length) (hm : m = m' + 1) (hv : v = .int k (x : Int)) :
  aq (w.setCell ⟨g, i, none⟩ v) g t (aM k (l ++ [x] ++ me m')) := by
 subst hv;rw [← BW k l m m' i x hi hm];exact h.set i _
theorem xm {k : IntKind} {a b : Int} (h : a = b) : Value.int k a = Value.int k b := by rw [h]
theorem bj {a : Int} (h1 : -9223372036854775808 ≤ a) (h2 : a ≤ 9223372036854775807) : IntKind.i64.wrap a = a := IntWalk.i64_in _ ⟨h1, h2⟩
theorem QX
  (h : Calls P f args (w.drewN n) fun e w' => e = .returned v ∧ w.drewN n = w') : Calls P f args (w.drewN n) fun e w'' => e = .returned v ∧ ∃ m, w'' = w.drewN m :=
 h.mono fun _ _ ⟨he, hm⟩ => ⟨he, n, hm.symm⟩
theorem vk {a : Nat}
  (h : Calls P f args (w.drewN (a + n)) fun e w' => e = .returned v ∧ w.drewN (a + n) = w') :
  Calls P f args (w.drewN (a + n)) fun e w'' => e = .returned v ∧ ∃ m, w'' = w.drewN (a + m) :=
 h.mono fun _ _ ⟨he, hm⟩ => ⟨he, n, hm.symm⟩
theorem pI (w : aa9) (dT sT ty elem : TypeId) (g o dLen dCap : Nat) (A : Option Addr) (m c : Nat) (cur : Array Value) (t : TypeId) (cs : List Value)
    (hu : P.underlying dT = some (.slice elem)) (hs : (P.info? elem).map (·.size) = some 1)
    (hg : aq w g t cur) (hr : At w A cs) (hn : cs.length = Nat.min m dLen) (hfit : o + cs.length ≤ cur.size) (h1 : ∀ v ∈ cs, v.oneCell' = true) :
    (Builtin.copy_ #[dT, sT] ty #[.slice (some ⟨g, o, none⟩) dLen dCap, .slice A m c]).run P w =
      .ok (.int .i64 (cs.length : Int)) (w.setRow g (cur.toList.take o ++ cs ++ cur.toList.drop (o + cs.length)).toArray) := by
  cases A with
  | some a => exact run_copy_row P w dT sT ty elem g o dLen dCap a m c cur t cs hu hs hg hn hr.Vm hfit h1
  | none =>
    have h0 : cs = [] := by
      rcases hr with h | ⟨b, off, h, _⟩
      · exact h
      cases h
    subst h0
    have e : Nat.min m dLen = 0 := hn.symm
    have hcur : (cur.toList.take o ++ [] ++ cur.toList.drop (o + ([] : List Value).length)).toArray = cur := by simp
    rw [hcur, setRow_self w g cur t (0, 0) hg]
    cases hq : P.info? elem with
    | none => simp [hq] at hs
    | some i => simp [Builtin.copy_, run_underlying hu, Builtin.lenOf, Builtin.firstCells, sizeOf, typeInfo, hq, storeCells, e]; rfl
theorem MW (hgd : o.guard = none) (s x : Operand) (dT sT elem : TypeId)
  (ho : o.op = .call { callee := .builtin .copy, args := #[s, x], argTypes := #[dT, sT] })
  (g off dLen dCap : Nat) (A : Option Addr) (m c : Nat) (cur : Array Value) (t : TypeId) (cs : List Value) (hx1 : a.eval s = .slice (some ⟨g, off, none⟩) dLen dCap) (hx2 : a.eval x = .slice A m c)
  (hu : P.underlying dT = some (.slice elem)) (hs : (P.info? elem).map (·.size) = some 1)
  (hg : aq w g t cur) (hr : At w A cs) (hn : cs.length = Nat.min m dLen) (hfit : off + cs.length ≤ cur.size) (h1 : ∀ v ∈ cs, v.oneCell' = true)
  (h : wpList P ops Q rest (a.put o.dst (.int .i64 (cs.length : Int))) (w.setRow g (cur.toList.take off ++ cs ++ cur.toList.drop (off + cs.length)).toArray)) : wpList P ops Q (o :: rest) a w := by
 refine wpList_plain hgd fun _ hK => ?_;unfold Oper.wp execOp;simp only [ho, resolve, invoke, builtin, Sem.run_bind, Sem.run_pure, Result.andThen_ok, List.map_toArray, List.map_cons, List.map_nil, hx1, hx2, pI (P := P) w dT sT o.type elem g off dLen dCap A m c cur t cs hu hs hg hr hn hfit h1];exact hK _ _ h
theorem aq.at {cs : Array Value} (h : aq w g t cs) (o : Nat) (xs : List Value) (hx : ∀ j u, xs[j]? = some u → cs[o + j]? = some u) : At w (some ⟨g, o, none⟩) xs :=
 .inr ⟨g, o, rfl, fun j u hu => by rw [h.cell]; exact hx j u hu⟩
theorem oN {k : IntKind} {l : List Nat} (v : Value) (h : v ∈ l.map (iv k)) : v.oneCell' = true := by obtain ⟨y, _, rfl⟩ := List.mem_map.1 h;rfl
theorem BO (k : IntKind) (l l' : List Nat) (j : Nat) (u : Value) (h : (l.map (iv k))[j]? = some u) : (aM k (l ++ l'))[0 + j]? = some u := by have hl : j < (l.map (iv k)).length := (List.getElem?_eq_some_iff.1 h).1;simp only [aM, List.map_append, Nat.zero_add, List.getElem?_toArray, List.getElem?_append, if_pos hl];exact h
theorem size_setRow (w : aa9) (g : Nat) (cs : Array Value) : (w.setRow g cs).heap.size = w.heap.size := by simp_all
theorem size_setCell (w : aa9) (a : Addr) (u : Value) : (w.setCell a u).heap.size = w.heap.size := by simp_all
theorem rN {a : aa9} (h : Below B a w) (hB : a.heap.size ≤ B) (row : Option Nat) : a.grownBy w row := ⟨h.os, h.tape, h.output, h.size, fun i hi _ => h.block i (Om)⟩
theorem Cj {a : aa9} {row : Option Nat} (h : a.grownBy w row) : a.grownBy w.drew row := ⟨h.os, h.tape, h.output, h.size, h.block⟩
theorem vX {a : aa9} (h : a.grownBy w (some g)) {p : Addr} (hp : p.block = g ∨ a.heap.size ≤ p.block) (u : Value) : a.grownBy (w.setCell p u) (some g) :=
 ⟨h.os, h.tape, h.output, by rw [size_setCell]; exact h.size, fun i hi hne => (Below.heap_setCell w p u i (by
  grind)).trans (h.block i hi hne)⟩
theorem CB {a : aa9} {row : Option Nat} (h : a.grownBy w row) (hb : Below w.heap.size w w') : a.grownBy w' row :=
 ⟨hb.os.trans h.os, hb.tape.trans h.tape, hb.output.trans h.output, Nat.le_trans h.size hb.size, fun i hi hne => (hb.block i (Nat.lt_of_lt_of_le hi h.size)).trans (h.block i hi hne)⟩
theorem rJ {a : aa9} (h : Below B a w) (hg : w.grownBy w' (some g)) (hB : B ≤ g) (hw : B ≤ w.heap.size) : Below B a w' :=
 h.grown hg hw (fun k hk => by grind)
def lenOf : Value → Nat | .slice _ n _ => n | _ => 0
def sL (w : aa9) (A : Option Addr) (n : Nat) (xss : List (List UInt8)) : Prop :=
 xss.length = n ∧ ∃ vs : List Value, vs.length = n ∧ At w A vs ∧ ∀ i, i < n → ∃ B m c, vs[i]? = some (.slice B m c) ∧ Bs w B m (xss.getD i [])
theorem sL.get (h : sL w A n xss) (hk : k < n) :
  ∃ b off B m c xs, A = some ⟨b, off, none⟩ ∧ Hid (xs = xss.getD k []) ∧ w.cell? ⟨b, off + k, none⟩ = some (.slice B m c) ∧ Bs w B m xs := by
 obtain ⟨_, vs, hl, hat, hv⟩ := h;obtain ⟨b, off, hA, _, hc⟩ := hat.get (k := k) (Om);obtain ⟨B, m, c, h1, h2⟩ := hv k hk
 have : vs[k] = .slice B m c := by rw [List.getElem?_eq_getElem (Om)] at h1;injection h1
 exact ⟨b, off, B, m, c, _, hA, rfl, by rw [hc, this], h2⟩
theorem sL.below (h : sL w A n xss) (hb : Below w.heap.size w w') : sL w' A n xss := by obtain ⟨hl, vs, h1, h2, h3⟩ := h;refine ⟨hl, vs, h1, h2.below hb, fun i hi => ?_⟩;obtain ⟨B, m, c, h4, h5⟩ := h3 i hi;exact ⟨B, m, c, h4, h5.below hb⟩
theorem gv {α : Type} (xss : List (List α)) (k : Nat) (hk : k < xss.length) : (xss.take (k + 1)).flatten = (xss.take k).flatten ++ xss.getD k [] := by rw [List.take_succ_eq_append_getElem hk, List.flatten_append];simp [hk]
theorem iS {α : Type} (xss : List (List α)) (k : Nat) : (xss.take k).flatten.length ≤ xss.flatten.length := by
 have h : xss.flatten = (xss.take k).flatten ++ (xss.drop k).flatten := by rw [← List.flatten_append, List.take_append_drop]
 grind
theorem xR {c rest : Code} (l : Nat) (J : Act → aa9 → Prop) (μ : Act → aa9 → Nat) (hf : findLabel c l = some rest)
  (pass : ∀ a w, J a w → rest.wp P (Exit.jump l (fun a' w' => J a' w' ∧ μ a' w' < μ a w) Q) a w)
  (first : (∀ a w, J a w → rest.wp P (Exit.jump l J Q) a w) → c.wp P (Exit.jump l J Q) a w) : (Code.scope c).wp P Q a w := by
 refine wp_scope_jumps l J μ hf (first fun a w hJ => ?_) pass;intro b k cs;obtain ⟨e, a', w', hq, harr⟩ := pass a w hJ b k cs;refine ⟨e, a', w', ?_, harr⟩
 cases e with
 | goto l' => exact ⟨hq.1, hq.2.1⟩
 | normal => exact hq
 | exit id => exact hq
 | ret => exact hq
 | panic ch => exact hq
 | outgrown => exact hq
theorem Bs.grown (h : Bs w A n xs) (hg : w.grownBy w' (some g)) (hne : ∀ b off, A = some ⟨b, off, none⟩ → b ≠ g) : Bs w' A n xs := by
 refine ⟨h.1, ?_⟩
 rcases h.2 with h0 | ⟨b, off, hA, hc⟩
 ·exact .inl h0
 exact .inr ⟨b, off, hA, fun j u hu => hg.cell (hc j u hu) (by grind)⟩
theorem Bs.cut (h : Bs w A n xs) (hk : k ≤ n) (_hc : n ≤ cap) : Bs w (if cap = k then A else A.map (·.add k)) (n - k) (xs.drop k) := by
 refine ⟨by rw [List.length_drop, h.1], ?_⟩;by_cases hz : n = k
 ·exact .inl (by simp [List.drop_of_length_le (by rw [h.1]; omega : xs.length ≤ k)])
 rcases h.2 with h0 | ⟨b, off, rfl, hc⟩
 ·exact .inl (by simp_all)
 rw [if_neg (Om)];refine .inr ⟨b, off + k, by rw [Option.map_some, add_lit], fun j u hu => ?_⟩;have := hc (k + j) u (by rw [← hu, List.map_drop, List.getElem?_drop]);grind
theorem Bs.take (h : Bs w A n xs) (hk : k ≤ n) : Bs w A k (xs.take k) := by
 refine ⟨by rw [List.length_take, h.1]; omega, ?_⟩
 rcases h.2 with h0 | ⟨b, off, rfl, hc⟩
 ·exact .inl (by simp at h0; simp [h0])
 refine .inr ⟨b, off, rfl, fun j u hu => hc j u ?_⟩;rw [List.map_take, List.getElem?_take] at hu;split at hu
 ·exact hu
 cases hu
theorem zH {c rest : Code} (l : Nat) (J : Act → aa9 → Prop) (μ : Act → aa9 → Nat) (hf : findLabel c l = some (Code.skip.seq rest))
  (pass : ∀ a w, J a w → rest.wp P (Exit.jump l (fun a' w' => J a' w' ∧ μ a' w' < μ a w) Q) a w)
  (first : (∀ a w, J a w → rest.wp P (Exit.jump l J Q) a w) → c.wp P (Exit.jump l J Q) a w) : (Code.scope c).wp P Q a w := by
 refine xR l J μ hf (fun a w hJ => wp_seq (wp_skip (pass a w hJ))) (fun h => first fun a w hJ => ?_);intro b k cs;obtain ⟨e, a', w', hq, harr⟩ := pass a w hJ b k cs;refine ⟨e, a', w', ?_, harr⟩
 cases e with
 | goto l' => exact ⟨hq.1, hq.2.1⟩
 | normal => exact hq
 | exit id => exact hq
 | ret => exact hq
 | panic ch => exact hq
 | outgrown => exact hq
theorem Bs.RV (h : Bs w A n xs) (hk : n = k) (A' : Option Addr) : Bs w A' (n - k) (xs.drop k) :=
 ⟨by rw [List.length_drop, h.1], .inl (by simp [List.drop_of_length_le (by rw [h.1]; omega : xs.length ≤ k)])⟩
theorem Bs.xM {b : Nat} (h : Bs w (some ⟨b, off, none⟩) n xs) (k : Nat) : Bs w (some ⟨b, off + k, none⟩) (n - k) (xs.drop k) := by
 refine ⟨by rw [List.length_drop, h.1], ?_⟩
 rcases h.2 with h0 | ⟨b', off', hA, hc⟩
 ·exact .inl (by simp_all)
 injection hA with hA
 injection hA with h1 h2
 subst h1; subst h2;refine .inr ⟨b, off + k, rfl, fun j u hu => ?_⟩;have := hc (k + j) u (by rw [← hu, List.map_drop, List.getElem?_drop]);grind
theorem EL {c : Nat} {xs : List Value} (h : w.ownsRow base e 1 (.slice A n c) n xs) : n ≤ c := by
 rcases h.2 with ⟨hv, rfl⟩ | ⟨g, cap, cur, hv, _, _, hc, _⟩
 ·omega
 grind
theorem uO {kd k : IntKind} {cs : Array Value} (hu : P.underlying t = some (.array n e)) (he : P.underlying e = some (.int kd)) (hs : (P.info? e).map (·.size) = some 1)
    (hi : i < n) (hv : cs[i]? = some v) : (Instr.index t (.agg cs) (.int k (i : Int))).run P w = .ok v w := by
  have hagg : (isAgg e).run P w = .ok false w := by unfold isAgg;rw [Sem.run_bind, run_underlying he w];rfl
  cases hq : P.info? e with
  | none => simp [hq] at hs
  | some j =>
    have hj : j.size = 1 := by grind
    simp [Instr.index, run_underlying hu, asIntOf, sizeOf, typeInfo, hq, hj, part, hagg, hv, hi]
def dc (l : List UInt8) : Array Value := (l.map bv).toArray
def iX (n : Nat) : List UInt8 := List.replicate n 0
theorem aV (l : List UInt8) : (dc l).size = l.length := by simp [dc]
theorem lB (h : i < l.length) : (dc l)[i]? = some (.int .u8 ((l.getD i 0).toNat : Int)) := by simp [dc, bv, h]
theorem mY (l : List UInt8) : (dc l).all (·.oneCell') = true := by rw [Array.all_eq_true_iff_forall_mem];intro x hx;simp only [dc, List.mem_toArray] at hx;exact aJ x hx
theorem o0 (h : l.length ≤ i) (hm : i < l.length + m) : (dc (l ++ iX m))[i]? = some (.int .u8 0) := by rw [lB (by simp [iX]; omega)];simp [iX, List.getElem?_append, List.getElem?_replicate, show ¬ i < l.length by omega, show i - l.length < m by omega]
theorem ng (l : List UInt8) (i : Nat) (x : UInt8) : (dc l).setIfInBounds i (.int .u8 (x.toNat : Int)) = dc (l.set i x) := by simp [dc, bv, List.map_set]
theorem yX {x : UInt8} (h : i = l.length) (hm : m = m' + 1) : (dc (l ++ iX m)).setIfInBounds i (.int .u8 (x.toNat : Int)) = dc (l ++ [x] ++ iX m') := by subst h; subst hm;rw [ng];simp [iX, List.replicate_succ]
theorem aq.EP {x : UInt8} (h : aq w g t (dc (l ++ iX m))) (hi : i = l.length) (hm : m = m' + 1) (hv : v = .int .u8 (x.toNat : Int)) :
  aq (w.setCell ⟨g, i, none⟩ v) g t (dc (l ++ [x] ++ iX m')) := by
 subst hv;rw [← yX hi hm];exact h.set i _
end
section
open Go.RowKit
theorem bV : Cf Tryz.prog 23 5 1 := Cf.of Tryz.underlying23 (z := .int .u8 0) Kr rfl
def Own (w : aa9) (base : Nat) (A : Oa) (n c : Nat) (xs : Lb) : Prop := w.ownsRow base 5 1 (.slice A n c) n (xs.map bv)
variable {c : Nat} {A : Oa} {xs ys : Lb}
theorem Own.app (h : w.ownsRow base 5 1 (.slice A n c) n (xs.map bv ++ ys.map bv)) : Own w base A n c (xs ++ ys) := by unfold Own; rw [List.map_append]; exact h
theorem Own.len (h : Own w base A n c xs) : xs.length = n := by have := h.1; simpa using this
theorem Own.bs (h : Own w base A n c xs) : Bs w A n xs := ⟨h.len, M1 h⟩
theorem Own.congr {ys : Lb} (h : Own w base A n c xs) (hn : n = n') (hx : xs = ys) : Own w base A n' c ys := by subst hn; subst hx; exact h
theorem Own.empty (w : aa9) (base : Nat) : Own w base none 0 0 [] := World.ownsRow_nil _ _ _ _
theorem Own.lit (w : aa9) (hb : base ≤ w.heap.size) (x : UInt8) : Own (w.alloc (.cells #[.int .u8 (x.toNat : Int)] 5)) base (some ⟨w.heap.size, 0, none⟩) 1 1 [x] :=
 World.ownsRow_lit w #[.int .u8 (x.toNat : Int)] 1 hb (by unfold maxLen; omega) rfl
theorem Own.alloc (h : Own w base A n c xs) (o : Obj) : Own (w.alloc o) base A n c xs := World.ownsRow.alloc h o
theorem Own.below (h : Own w base A n c xs) {w' : aa9} (hb : Below w.heap.size w w') : Own w' base A n c xs :=
 World.ownsRow.kept (row := none) h ⟨hb.os, hb.tape, hb.output, hb.size, fun k hk _ => hb.block k hk⟩ (by cases A with | none => exact .inl rfl | some a => exact .inr (by simp [Value.ownBlock]))
theorem Own.lower (h : Own w base A n c xs) {b : Nat} (hb : b ≤ base) : Own w b A n c xs := by
 refine ⟨h.1, ?_⟩
 rcases h.2 with h | ⟨g, cap, cur, hv, hg, r⟩
 ·exact .inl h
 exact .inr ⟨g, cap, cur, hv, Om, r⟩
end
section
open Go.ChangeShapes Go.WideShapes Go.ChangeAt Go.RowKit
theorem own : ownKnob Tryz.prog.godebug = none := by kernel_rfl
theorem laidOut : laidOutB Tryz.prog = true := by kernel_rfl
theorem Pl {z : Int} (h : (Lit.int .u8 z).wf = true) : Value.int .u8 z = bv (UInt8.ofNat z.toNat) := by have hb : 0 ≤ z ∧ z ≤ 255 := bounds_u8 h;unfold bv;rw [UInt8.toNat_ofNat'];congr 1;omega
theorem lL {H : Type} {enc : TypeId × Value → H} {a : Oa} {len : Nat} {d : DataW H} {p : List MemPlace}
  (h : DataW.Trod enc Tryz.prog W base spare held 23 (.slice a len cap) d p) : (∃ xs, Bs W a len xs) ∧ len ≤ maxLen := by
 obtain ⟨fuel, hf⟩ := h
 rcases open_ints Tryz.underlying23 Tryz.underlying5 Kr hf with ⟨hcs, _⟩ | ⟨x, l, c, zs, hcs, _, hl, hm, hz, _, aa7, hwz⟩
 ·simp [Value.cells] at hcs;obtain ⟨rfl, rfl, rfl⟩ := hcs;exact ⟨⟨[], rfl, At.nil⟩, Om⟩
 simp [Value.cells] at hcs;obtain ⟨rfl, rfl, rfl⟩ := hcs;refine ⟨⟨(zs.take len).map fun z => UInt8.ofNat z.toNat, by grind, At.uv fun j u hu => ?_⟩, Om⟩;simp only [List.map_map, List.getElem?_map, Option.map_eq_some_iff, Function.comp_apply] at hu;obtain ⟨z, hz1, rfl⟩ := hu;rw [List.getElem?_take] at hz1;split at hz1
 ·obtain ⟨hlt, hz2⟩ := List.getElem?_eq_some_iff.1 hz1;have hw := hwz z (List.mem_of_getElem? hz1);rw [aa7 j hlt, ← Pl hw];simp [hlt, hz2]
 cases hz1
theorem BB {α β : Type} {f : α → Option β} : ∀ {l : List α} {ys : List β}, l.mapM f = some ys → ∀ a ∈ l, ∃ b, f a = some b
  | [], _, _, a, ha => by cases ha
  | x :: l, ys, h, a, ha => by
    rw [List.mapM_cons] at h
    cases hx : f x with
    | none => simp [hx] at h
    | some y =>
      cases hl : l.mapM f with
      | none => simp [hx, hl] at h
      | some zs =>
        rcases List.mem_cons.1 ha with rfl | ha
        · exact ⟨y, hx⟩
        exact BB hl a ha
variable {H : Type} {enc : TypeId × Value → H}
theorem trod_struct {fs : Array Field} {x : DataW H × List MemPlace} (hu : Tryz.prog.underlying t = some (.struct fs)) (h : DataW.trod enc Tryz.prog W base spare held fuel t cs = some x) :
    ∃ fuel', cs.length = Tryz.prog.cellsOf t ∧ ∀ (i : Nat) (f : Field), fs[i]? = some f → ∃ y, DataW.trod enc Tryz.prog W base spare held fuel' f.type ((cs.drop f.offset).take (Tryz.prog.cellsOf f.type)) = some y := by
  cases fuel with
  | zero => simp [DataW.trod] at h
  | succ fuel =>
    simp only [DataW.trod, hu] at h
    split at h
    · rename_i hl
      refine ⟨fuel, hl, fun i f hf => ?_⟩
      cases hm : (fs.toList.mapM fun f => DataW.trod enc Tryz.prog W base spare held fuel f.type ((cs.drop f.offset).take (Tryz.prog.cellsOf f.type))) with
      | none => simp [hm] at h
      | some ys => exact BB hm f (by grind)
    cases h
theorem ox {x : DataW H × List MemPlace} (h : DataW.trod enc Tryz.prog W base spare held fuel 23 cs = some x) : ∃ a n c xs, cs = [.slice a n c] ∧ Bs W a n xs ∧ n ≤ maxLen := by
 have h' := h
 rcases open_ints Tryz.underlying23 Tryz.underlying5 Kr h with ⟨hcs, _⟩ | ⟨x, l, c, zs, hcs, _⟩
 ·obtain ⟨⟨xs, hb⟩, hm⟩ := lL (a := none) (len := 0) (cap := 0) ⟨fuel, by simpa [Value.cells, hcs] using h'⟩;grind
 obtain ⟨⟨xs, hb⟩, hm⟩ := lL (a := some x) (len := l) (cap := c) ⟨fuel, by simpa [Value.cells, hcs] using h'⟩;grind
theorem NZ {x : DataW H × List MemPlace} (h : DataW.trod enc Tryz.prog W base spare held fuel 38 cs = some x) : ∃ n : Nat, cs = [.int .u64 (n : Int)] ∧ n < 18446744073709551616 := by
  cases fuel with
  | zero => simp [DataW.trod] at h
  | succ fuel =>
    simp only [DataW.trod, Tryz.underlying38] at h
    split at h <;> first | (rename_i hk; cases hk; done) | (rename_i hk _; cases hk; done) | skip
    all_goals first
      | (cases h; done)
      | (split at h
         · rename_i k hk2 k2 z hk1 hw
           injection hk1 with hk1
           injection hk1 with hk1
           subst hk1
           obtain ⟨rfl, hw⟩ := hw
           have hz : 0 ≤ z ∧ z ≤ 18446744073709551615 := by simpa [Lit.wf, IntKind.min, IntKind.max, IntKind.bits, IntKind.signed] using hw
           obtain ⟨N, rfl⟩ : ∃ N : Nat, z = N := Int.eq_ofNat_of_zero_le hz.1
           grind
         cases h)
theorem EH {x : DataW H × List MemPlace} (h : DataW.trod enc Tryz.prog W base spare held fuel 5 cs = some x) : ∃ n : Nat, cs = [.int .u8 (n : Int)] ∧ n < 256 := by
  cases fuel with
  | zero => simp [DataW.trod] at h
  | succ fuel =>
    simp only [DataW.trod, Tryz.underlying5] at h
    split at h <;> first | (rename_i hk; cases hk; done) | (rename_i hk _; cases hk; done) | skip
    all_goals first
      | (cases h; done)
      | (split at h
         · rename_i k hk2 k2 z hk1 hw
           injection hk1 with hk1
           injection hk1 with hk1
           subst hk1
           obtain ⟨rfl, hw⟩ := hw
           have hz : 0 ≤ z ∧ z ≤ 255 := by simpa [Lit.wf, IntKind.min, IntKind.max, IntKind.bits, IntKind.signed] using hw
           obtain ⟨N, rfl⟩ : ∃ N : Nat, z = N := Int.eq_ofNat_of_zero_le hz.1
           grind
         cases h)
theorem SZ (h : v.cells.toList = cs) (h1 : cs.length ≠ 1) : v = .agg cs.toArray := by
 cases v <;> first | (exfalso; apply h1; rw [← h]; rfl) | (simp only [Value.cells] at h; subst h; rfl)
theorem GI (hk : k = 1) (h : (cs.drop i).take k = [v]) : cs[i]? = some v := by
 subst hk;have : ((cs.drop i).take 1)[0]? = some v := by rw [h]; rfl
 rwa [List.getElem?_take_of_lt Om, List.getElem?_drop, Nat.add_zero] at this
end
section
open Go.RowKit
def look : List (Nat × Value) → Nat → Option Value
 | [], _ => none
 | (k, v) :: l, t => cond (Nat.beq k t) (some v) (look l t)
structure Nd where
 n : Nat
 ds : List Deferred
instance : Coe Nat Nd := ⟨fun n => ⟨n, []⟩⟩
structure Fr (N : Nd) (L : List (Nat × Value)) (a : Act) : Prop where
 size : a.tmps.size = N.n
 defers : a.defers = N.ds
 has : ∀ t v, look L t = some v → a.tmps[t]? = some v
def ev (L : List (Nat × Value)) : Operand → Option Value
 | .tmp t => look L t
 | .const v => some v
 | .global g => some (.pointer (cf g))
 | .func f => some (.func (.func f) #[] #[])
def oY (L : List (Nat × Value)) : List Operand → Option (List Value)
  | [] => some []
  | x :: xs => match ev L x, oY L xs with
    | some v, some vs => some (v :: vs)
    | _, _ => none
def bB (d : Option Tmp) (v : Value) (L : List (Nat × Value)) : List (Nat × Value) :=
 match d with
 | some t => (t, v) :: L
 | none => L
section
variable {N : Nd}
theorem Fr.ev (h : Fr N L a) {x : Operand} (hx : ev L x = some v) : a.eval x = v := by
  cases x with
  | tmp t =>
    have := h.has t v hx
    simp [Act.eval, this]
  | const u => simpa [Go.Proofs.YtgfafidlkldeaaaGreat.ev, Act.eval] using hx
  | global g => simpa [Go.Proofs.YtgfafidlkldeaaaGreat.ev, Act.eval] using hx
  | func f => simpa [Go.Proofs.YtgfafidlkldeaaaGreat.ev, Act.eval] using hx
theorem Fr.oY (h : Fr N L a) : ∀ {xs : List Operand} {vs : List Value}, oY L xs = some vs → xs.map a.eval = vs
  | [], vs, hx => by simpa [Go.Proofs.YtgfafidlkldeaaaGreat.oY] using hx.symm
  | x :: xs, vs, hx => by
    unfold Go.Proofs.YtgfafidlkldeaaaGreat.oY at hx;split at hx
    · rename_i v us h1 h2
      injection hx with hx
      subst hx;rw [List.map_cons, h.ev h1, h.oY h2]
    cases hx
theorem Fr.put (h : Fr N L a) {d : Nat} (hd : Nat.ble (d + 1) N.n = true) (v : Value) : Fr N ((d, v) :: L) (a.put (some d) v) := by
  have hd' : d < N.n := Nat.le_of_ble_eq_true hd;refine ⟨by simp [Act.put, h.size], h.defers, fun t u hu => ?_⟩;unfold look at hu
  cases e : Nat.beq d t with
  | true =>
    simp only [e, cond_true] at hu
    have : d = t := Nat.eq_of_beq_eq_true e
    subst this
    injection hu with hu
    subst hu
    simp [Act.put, h.size, hd']
  | false =>
    simp only [e, cond_false] at hu
    have : d ≠ t := fun h => by subst h; simp at e
    simp only [Act.put]
    rw [Array.getElem?_setIfInBounds_ne this]
    exact h.has t u hu
def gV (N : Nd) : Option Tmp → Bool
 | some d => Nat.ble (d + 1) N.n
 | none => true
theorem Fr.mf (h : Fr N L a) {d : Option Tmp} (hd : gV N d = true) (v : Value) : Fr N (bB d v L) (a.put d v) := by
 cases d with
 | some t => exact h.put hd v
 | none => exact h
theorem Fr.W9 (h : Fr N L a) (hw : ∀ t v, look L' t = some v → look L t = some v) : Fr N L' a := ⟨h.size, h.defers, fun t v hv => h.has t v (hw t v hv)⟩
def mC (L : List (Nat × Value)) : List (Nat × Value) → Prop
 | [] => True
 | (k, v) :: l => look L k = some v ∧ mC L l
theorem tZ : ∀ {L' : List (Nat × Value)}, mC L L' → ∀ t v, look L' t = some v → look L t = some v
  | [], _, t, v, hv => by cases hv
  | (k, u) :: l, h, t, v, hv => by
    unfold look at hv
    cases e : Nat.beq k t with
    | true =>
      simp only [e, cond_true] at hv
      injection hv with hv
      subst hv
      rw [← Nat.eq_of_beq_eq_true e]
      exact h.1
    | false =>
      simp only [e, cond_false] at hv
      exact tZ h.2 t v hv
theorem Fr.sub (h : Fr N L a) (hw : mC L L') : Fr N L' a := h.W9 (tZ hw)
end
abbrev Ext (w w' : aa9) : Prop := Below w.heap.size w w'
theorem Ext.refl (w : aa9) : Ext w w := Below.refl _ _
theorem Ext.tr {a b c : aa9} (h : Ext a b) (k : Ext b c) : Ext a c := h.trans (k.mono h.size)
theorem Ext.alloc (w : aa9) (o : Obj) : Ext w (w.alloc o) := (Below.refl _ _).alloc (Nat.le_refl _) _
theorem Ext.drew (w : aa9) : Ext w w.drew := (Below.refl _ _).drew
theorem Ext.drewN (w : aa9) (n : Nat) : Ext w (w.drewN n) := nA (Below.refl _ _) n
/-! The four judgements: a list of operations, a piece of code, what stands behind, a way out. -/
def WL (P : Program) (ops : Array Oper) (Q : Exit → Act → aa9 → Prop) (l : List Oper) (N : Nd) (L : List (Nat × Value)) (w : aa9) : Prop := ∀ a, Fr N L a → wpList P ops Q l a w
def WC (P : Program) (Q : Exit → Act → aa9 → Prop) (c : Code) (N : Nd) (L : List (Nat × Value)) (w : aa9) : Prop := ∀ a, Fr N L a → c.wp P Q a w
def WK (K : Act → aa9 → Prop) (N : Nd) (L : List (Nat × Value)) (w : aa9) : Prop := ∀ a, Fr N L a → K a w
def WQ (Q : Exit → Act → aa9 → Prop) (e : Exit) (N : Nd) (L : List (Nat × Value)) (w : aa9) : Prop := ∀ a, Fr N L a → Q e a w
section
variable {N : Nd}
def Y (P : Program) (L : List (Nat × Value)) (w : aa9) (op : Op) (ty : TypeId) (v : Value) : Prop :=
 ∀ (ρ : Operand → Value), (∀ x u, ev L x = some u → ρ x = u) → ∀ w', Ext w w' → ∀ dst pos after guard, (execOp ρ ⟨dst, op, ty, pos, after, guard⟩).run P w' = .ok (.value v) w'
def Ef (P : Program) (L : List (Nat × Value)) (w : aa9) (op : Op) (ty : TypeId) (Φ : Value → aa9 → Prop) : Prop :=
 ∀ a N, Fr N L a → ∀ dst pos after guard (K : Act → aa9 → Prop) (Q : Exit → Act → aa9 → Prop), (∀ v w', Φ v w' → K (a.put dst v) w') → Oper.wp P ⟨dst, op, ty, pos, after, guard⟩ a w K Q
theorem Ef.mono {Φ Ψ : Value → aa9 → Prop} (h : Ef P L w op ty Φ) (hi : ∀ v w', Φ v w' → Ψ v w') : Ef P L w op ty Ψ :=
 fun a N ha dst pos after guard K Q hK => h a N ha dst pos after guard K Q fun v w' hv => hK v w' (hi v w' hv)
theorem gD (h : WQ Q .normal N L w) : WL P ops Q [] N L w := h
theorem OT (h : Y P L w op ty v) (hd : Nat.ble (d + 1) N.n = true) (hr : WL P ops Q rest N ((d, v) :: L) w) :
  WL P ops Q (⟨some d, op, ty, pos, after, none⟩ :: rest) N L w := by
 intro a ha;refine wpList_plain rfl fun K hK => ?_;unfold Oper.wp;rw [h a.eval (fun _ _ hx => ha.ev hx) w (Ext.refl w)];exact hK _ _ (hr _ (ha.put hd v))
theorem af {Φ : Value → aa9 → Prop} (h : Ef P L w op ty Φ) (hd : gV N dst = true)
  (hr : ∀ v w', Φ v w' → WL P ops Q rest N (bB dst v L) w') : WL P ops Q (⟨dst, op, ty, pos, after, none⟩ :: rest) N L w := by
 intro a ha;refine wpList_plain rfl fun K hK => ?_;exact h a N ha _ _ _ _ K Q fun v w' hv => hK _ _ (hr v w' hv _ (ha.mf hd v))
theorem jm {t : Tmp} {b' : Bool} (ha : Fr N L a) (hj : (ops[j]?).bind (·.dst) = some t) (ht : look L t = some (.bool b)) :
  Region.wanted ⟨dst, op, ty, pos, after, some (j, b')⟩ (yielded ops a.tmps) = (b == b') := by
 have h1 := ha.has t _ ht;simp only [Region.wanted, yielded, hj, Option.bind_some, h1];grind
theorem GJ (t : Tmp) (hj : (ops[j]?).bind (·.dst) = some t) (ht : look L t = some (.bool b)) (h : Y P L w op ty v)
  (hd : Nat.ble (d + 1) N.n = true) (hr : WL P ops Q rest N ((d, v) :: L) w) : WL P ops Q (⟨some d, op, ty, pos, after, some (j, b)⟩ :: rest) N L w := by
 intro a ha;refine wpList_step fun K hK => ?_;rw [if_pos (by rw [jm ha hj ht]; simp)];unfold Oper.wp;rw [h a.eval (fun _ _ hx => ha.ev hx) w (Ext.refl w)];exact hK _ _ (hr _ (ha.put hd v))
theorem LJ {Φ : Value → aa9 → Prop} (t : Tmp) (hj : (ops[j]?).bind (·.dst) = some t) (ht : look L t = some (.bool b)) (h : Ef P L w op ty Φ)
  (hd : gV N dst = true) (hr : ∀ v w', Φ v w' → WL P ops Q rest N (bB dst v L) w') : WL P ops Q (⟨dst, op, ty, pos, after, some (j, b)⟩ :: rest) N L w := by
 intro a ha;refine wpList_step fun K hK => ?_;rw [if_pos (by rw [jm ha hj ht]; simp)];exact h a N ha _ _ _ _ K Q fun v w' hv => hK _ _ (hr v w' hv _ (ha.mf hd v))
theorem MH {b' : Bool} (t : Tmp) (hj : (ops[j]?).bind (·.dst) = some t) (ht : look L t = some (.bool b)) (hb : (b == b') = false)
  (hd : gV N dst = true) (hr : WL P ops Q rest N (bB dst undef L) w) : WL P ops Q (⟨dst, op, ty, pos, after, some (j, b')⟩ :: rest) N L w := by
 intro a ha;refine wpList_step fun K hK => ?_;rw [if_neg (by rw [jm ha hj ht, hb]; simp)];exact hK _ _ (hr _ (ha.mf hd undef))
/-! Code. -/
theorem dr {l : List Oper} (h : WL P l.toArray Q l N L w) : WC P Q (.region id l.toArray false) N L w := fun a ha => wp_region_lit (h a ha)
theorem dB (h : ∀ K : Act → aa9 → Prop, (∀ {N L w}, WC P Q y N L w → WK K N L w) → WC P (Exit.then K Q) x N L w) : WC P Q (.seq x y) N L w :=
 fun a ha => wp_seq (h (y.wp P Q) (fun h => h) a ha)
theorem bw (hc : ev L c = some (.bool b)) (ht : b = true → WC P Q x N L w) (hf : b = false → WC P Q y N L w) : WC P Q (.cond c x y) N L w :=
 fun a ha => wp_cond_split (ha.ev hc) (fun e => ht e a ha) (fun e => hf e a ha)
theorem bS (hc : ev L c = some (.bool b)) (hb : b = true) (ht : WC P Q x N L w) : WC P Q (.cond c x y) N L w :=
 fun a ha => wp_cond_true (hb ▸ ha.ev hc) (ht a ha)
theorem bm (hc : ev L c = some (.bool b)) (hb : b = false) (hf : WC P Q y N L w) : WC P Q (.cond c x y) N L w :=
 fun a ha => wp_cond_false (hb ▸ ha.ev hc) (hf a ha)
theorem al [Decidable p] (hc : ev L c = some (.bool (decide p))) (ht : p → WC P Q x N L w) (hf : ¬ p → WC P Q y N L w) : WC P Q (.cond c x y) N L w :=
 bw hc (fun e => ht (aa2 e)) (fun e => hf (of_decide_eq_false e))
theorem Xt [Decidable p] (hc : ev L c = some (.bool (decide p))) (hp : p) (ht : WC P Q x N L w) : WC P Q (.cond c x y) N L w := bS hc (decide_eq_true hp) ht
theorem QY [Decidable p] (hc : ev L c = some (.bool (decide p))) (hp : ¬ p) (hf : WC P Q y N L w) : WC P Q (.cond c x y) N L w := bm hc (decide_eq_false hp) hf
theorem sA (h : WQ Q .normal N L w) : WC P Q .skip N L w := fun a ha => wp_skip (h a ha)
theorem iL {l : Nat} (h : WQ Q .normal N L w) : WC P Q (.label l) N L w := fun a ha => wp_label (h a ha)
theorem oD (h : WQ Q .ret N L w) : WC P Q .ret N L w := fun a ha => wp_ret (h a ha)
theorem Ql (h : WQ Q (.exit id) N L w) : WC P Q (.exit id) N L w := fun a ha => wp_exit (h a ha)
theorem Pj {l : Nat} (h : WQ Q (.goto l) N L w) : WC P Q (.goto l) N L w := fun a ha => wp_goto (h a ha)
theorem JJ {c : Code} (h : WC P (Exit.inBlock id Q) c N L w) : WC P Q (.block id c) N L w := fun a ha => wp_block (h a ha)
theorem aE {c : Code} (J : Nat → List (Nat × Value) → aa9 → Prop) (n₀ : Nat) (L₀ : List (Nat × Value)) (h₀ : J n₀ L₀ w) (hS : mC L L₀)
  (round : ∀ (K : Act → aa9 → Prop) (n : Nat) (L : List (Nat × Value)) (w : aa9), J n L w → (∀ {L1 : List (Nat × Value)} {w' : aa9} (n' : Nat) (L' : List (Nat × Value)), J n' L' w' → n' < n → mC L1 L' → WK K N L1 w') → WC P (Exit.then K Q) c N L w) :
  WC P Q (.loop c) N L w := by
 intro a ha;refine wp_loop_ghost (fun n a w => ∃ L, Fr N L a ∧ J n L w) n₀ ⟨L₀, ha.sub hS, h₀⟩ ?_;rintro n a w ⟨L, ha, hJ⟩;exact round _ n L w hJ (fun n' L' hJ' hn hin a' ha' => ⟨n', hn, L', ha'.sub hin, hJ'⟩) a ha
/-! Ways out. -/
variable {K : Act → aa9 → Prop}
theorem ae (h : WK K N L w) : WQ (Exit.then K Q) .normal N L w := h
theorem xN (h : WQ Q (.exit i) N L w) : WQ (Exit.then K Q) (.exit i) N L w := h
theorem yp (h : WQ Q (.goto i) N L w) : WQ (Exit.then K Q) (.goto i) N L w := h
theorem mv (h : WQ Q .ret N L w) : WQ (Exit.then K Q) .ret N L w := h
theorem Ak (h : WQ Q .normal N L w) : WQ (Exit.inBlock i Q) .normal N L w := h
theorem CE (h : WQ Q .ret N L w) : WQ (Exit.inBlock i Q) .ret N L w := h
theorem DY (h : WQ Q .normal N L w) : WQ (Exit.inBlock i Q) (.exit i) N L w := fun a ha => by
 show if i = i then _ else _
 rw [if_pos rfl]; exact h a ha
theorem bQ (h : WQ Q .ret N L w) : WQ (Exit.jump i K Q) .ret N L w := h
theorem bW (h : WK K N L w) : WQ (Exit.jump i K Q) (.goto i) N L w := fun a ha => ⟨rfl, h a ha⟩
/-! Begin and end. -/
def gF : Nat → List Value → List (Nat × Value)
 | _, [] => []
 | i, v :: vs => (i, v) :: gF (i + 1) vs
theorem tL : ∀ (vs : List Value) (i t : Nat) (v : Value), look (gF i vs) t = some v → i ≤ t ∧ vs[t - i]? = some v
  | [], i, t, v, h => by cases h
  | u :: vs, i, t, v, h => by
    unfold gF look at h
    cases e : Nat.beq i t with
    | true =>
      simp only [e, cond_true] at h
      have := Nat.eq_of_beq_eq_true e
      subst this
      injection h with h
      subst h
      exact ⟨Nat.le_refl _, by simp⟩
    | false =>
      simp only [e, cond_false] at h
      have hne : i ≠ t := fun h => by subst h; simp at e
      obtain ⟨h1, h2⟩ := tL vs (i + 1) t v h
      refine ⟨Om, ?_⟩
      have : t - i = (t - (i + 1)) + 1 := Om
      rw [this, List.getElem?_cons_succ]
      exact h2
theorem y5 (hsz : Nat.ble args.size n = true) : Fr n (gF 0 args.toList) { tmps := args ++ Array.replicate (n - args.size) undef, defers := [] } := by have hsz' : args.size ≤ n := Nat.le_of_ble_eq_true hsz;refine ⟨by simp; omega, rfl, fun t v hv => ?_⟩;obtain ⟨_, h⟩ := tL _ _ _ _ hv;grind
section
variable {c : Code} {R : Ending → aa9 → Prop}
theorem gH (N : Nat) (hf : P.funcs[f]? = some fn) (hb : fn.body = some c) (hN : fn.ntmps = N) (hsz : Nat.ble args.size N = true)
  (h : ∀ Q : Exit → Act → aa9 → Prop, (∀ {e : Exit} {a : Act} {w : aa9}, bodyPost P fn R e a w → Q e a w) → WC P Q c N (gF 0 args.toList) w) : Calls P f args w R := by
 subst hN;exact calls_of_wp hf hb (h _ (fun h => h) _ (y5 hsz))
theorem eX (N : Nat) (hf : P.funcs[f]? = some fn) (h : ∀ Q : Exit → Act → aa9 → Prop, (∀ {e : Exit} {N : Nat} {L : List (Nat × Value)} {w : aa9}, e = .ret ∨ e = .normal → R (.returned (.tuple #[])) w → WQ Q e N L w) → WC P Q c N (gF 0 args.toList) w) (hb : fn.body = some c := by exact rfl) (hN : fn.ntmps = N := by exact rfl) (hr : fn.results = #[] := by exact rfl) (hsz : Nat.ble args.size N = true := by exact rfl) : Calls P f args w R :=
 gH N hf hb hN hsz fun Q hQ => h Q fun he hR a ha => hQ (by
  rcases he with rfl | rfl
  ·exact bodyPost_ret (results_none hr _ _ _) ha.defers hR
  exact bodyPost_end (results_none hr _ _ _) ha.defers hR)
theorem cI {t : Nat} (h : a.tmps[t]? = some v) : a.tmps.getD t undef = v := by simp [h]
theorem ai (N : Nat) {t : Tmp} (hf : P.funcs[f]? = some fn) (h : ∀ Q : Exit → Act → aa9 → Prop, (∀ {N : Nat} {L : List (Nat × Value)} {w : aa9} {v : Value}, look L t = some v → R (.returned v) w → WQ Q .ret N L w) → WC P Q c N (gF 0 args.toList) w) (hb : fn.body = some c := by exact rfl) (hN : fn.ntmps = N := by exact rfl) (hr : fn.results = #[.tmp t] := by exact rfl) (hsz : Nat.ble args.size N = true := by exact rfl) : Calls P f args w R :=
 gH N hf hb hN hsz fun Q hQ => h Q fun hv hR a ha => hQ (bodyPost_ret (results_tmp hr _ _ _) ha.defers (by rw [cI (ha.has _ _ hv)]; exact hR))
theorem aZ (N : Nat) {t : Tmp} (hf : P.funcs[f]? = some fn) (h : ∀ Q : Exit → Act → aa9 → Prop, (∀ {N : Nat} {L : List (Nat × Value)} {w : aa9} {v x : Value}, look L t = some v → look L u = some x → R (.returned (.tuple #[v, x])) w → WQ Q .ret N L w) → WC P Q c N (gF 0 args.toList) w) (hb : fn.body = some c := by exact rfl) (hN : fn.ntmps = N := by exact rfl) (hr : fn.results = #[.tmp t, .tmp u] := by exact rfl) (hsz : Nat.ble args.size N = true := by exact rfl) : Calls P f args w R :=
 gH N hf hb hN hsz fun Q hQ => h Q fun hv hu hR a ha => hQ (bodyPost_ret (results_tmp2 hr _ _ _) ha.defers (by rw [cI (ha.has _ _ hv), cI (ha.has _ _ hu)]; exact hR))
theorem ve {fn : Func} {t x : Tmp} (h : fn.results = #[.tmp t, .tmp u, .tmp x]) (tmps : Array Value) (P : Program) (w : aa9) :
  (results fn tmps).run P w = .ok (.tuple #[tmps.getD t undef, tmps.getD u undef, tmps.getD x undef]) w := by simp [results, h]
theorem ny (N : Nat) {t x : Tmp} (hf : P.funcs[f]? = some fn) (h : ∀ Q : Exit → Act → aa9 → Prop, (∀ {N : Nat} {L : List (Nat × Value)} {w : aa9} {v y z : Value}, look L t = some v → look L u = some y → look L x = some z → R (.returned (.tuple #[v, y, z])) w → WQ Q .ret N L w) → WC P Q c N (gF 0 args.toList) w) (hb : fn.body = some c := by exact rfl) (hN : fn.ntmps = N := by exact rfl) (hr : fn.results = #[.tmp t, .tmp u, .tmp x] := by exact rfl) (hsz : Nat.ble args.size N = true := by exact rfl) : Calls P f args w R :=
 gH N hf hb hN hsz fun Q hQ => h Q fun hv hu hx hR a ha => hQ (bodyPost_ret (ve hr _ _ _) ha.defers (by rw [cI (ha.has _ _ hv), cI (ha.has _ _ hu), cI (ha.has _ _ hx)]; exact hR))
end
/-! Calls of Go functions. -/
theorem pD {xs : List Operand} {ats : Array TypeId} {R : Ending → aa9 → Prop} {Φ : Value → aa9 → Prop} {c : Code} (hf : P.funcs[f]? = some fn) (hb : fn.body = some c) (hn : (fn.name == "runtime.NumGoroutine") = false)
  (hx : oY L xs = some vs) (h : Calls P f vs.toArray w R) (hR : ∀ e w', R e w' → ∃ v, e = .returned v ∧ Φ v w') : Ef P L w (.call { callee := .value (.func f), args := xs.toArray, argTypes := ats }) ty Φ := by
 intro a N ha dst pos after guard K Q hK;unfold Oper.wp;rw [execOp_call_go]
 have e : #[] ++ xs.toArray.map a.eval ++ #[] = vs.toArray := by have := ha.oY hx;simp [this]
 rw [e]
 have aa8 : (callFunc f vs.toArray).run P w = .ok (.enter f vs.toArray) w := by
  have hn' : ¬ fn.name = "runtime.NumGoroutine" := by simpa using hn
  simp [callFunc, hf, hb, hn']
 rw [aa8];simp only [Oper.upon];refine h.mono fun e w' hr => ?_;grind
end
def turns (ops : Array Oper) (i : Nat) : Bool :=
 match ((ops[i]?).map (·.op) : Option Op) with
 | some (.store _ _ _) => true
 | some (.call { callee := .builtin .copy, .. }) => true
 | some (.call { callee := .builtin .append, .. }) => true
 | some (.call _) => i + 1 == ops.size && (List.range i).all fun j => ops.any fun o => o.after.any fun e => e.on == j && Region.binds .any e
 | _ => false
variable {md : Region.Mode} {N : Nd}
def OV (P : Program) (md : Region.Mode) (ops : Array Oper) (Q : Exit → Act → aa9 → Prop) : Nat → Array Bool → Act → aa9 → Prop
 | 0, aa3, a, w => Region.ready md ops aa3 = [] ∧ Q .normal a w
 | n + 1, aa3, a, w => (Region.ready md ops aa3 = [] → Q .normal a w) ∧
   ∀ i ∈ Region.ready md ops aa3, wpOp P ops Q i (fun a' w' => (turns ops i = true ∨ Ext w w') ∧ OV P md ops Q n (aa3.setIfInBounds i true) a' w') a w
theorem yd : ∀ (n : Nat) (aa3 : Array Bool) (a : Act) (w : aa9), OV P md ops Q n aa3 a w → wpAny P md ops Q n aa3 a w
 | 0, _, _, _, h => h
 | n + 1, _, _, _, h => ⟨h.1, fun i hi => wpOp_mono (fun a' w' h' => yd n _ a' w' h'.2) (h.2 i hi)⟩
def rl (P : Program) (ops : Array Oper) (w : aa9) (o : Oper) (v : Value) (a : Act) : Prop := YieldsIf P ops (fun w' => Ext w w') o v a
theorem rl.later {w : aa9} (h : rl P ops w o v a) (e : Ext w w') : rl P ops w' o v a :=
 h.imp (fun ⟨h1, h2⟩ => ⟨h1, fun w2 e2 => h2 w2 (e.tr e2)⟩) id
theorem IS (D : Nat → Bool) (hi : ops[i]? = some oi) (hsel : ∀ (j : Nat) (o : Oper) cs b, ops[j]? = some o → o.op ≠ .select cs b)
    (hQ : ∀ c a w, Q (.panic c) (a.put oi.dst v) w → Q (.panic c) a w) :
    ∀ (n : Nat) (aa3 : Array Bool) (a : Act) (w : aa9),
      (∀ j oj, ops[j]? = some oj → j ≠ i → aa3.getD j true = false → D j = true → ∃ e ∈ oj.after, Region.binds md e = true ∧ (e.on = i ∨ D e.on = true ∧ aa3.getD e.on true = false)) →
      (∀ j oj, ops[j]? = some oj → j ≠ i → aa3.getD j true = false → D j = false → oi.apart ops oj = true ∧ turns ops j = false) →
      i ∈ Region.ready md ops aa3 → rl P ops w oi v a →
      OV P md ops Q n (aa3.setIfInBounds i true) (a.put oi.dst v) w → OV P md ops Q (n + 1) aa3 a w := by
  intro n
  induction n with
  | zero =>
    intro aa3 a w _ _ hr hy H
    refine ⟨fun h => (by grind), fun j hj => ?_⟩
    by_cases hji : j = i
    · subst hji; exact hy.wpOp hi (Ext.refl w) ⟨.inr (Ext.refl w), H⟩
    have := ready_mono hj hji
    rw [H.1] at this
    cases this
  | succ n ih =>
    intro aa3 a w hdep hfree hr hy H
    refine ⟨fun h => (by grind), fun j hj => ?_⟩
    by_cases hji : j = i
    · subst hji; exact hy.wpOp hi (Ext.refl w) ⟨.inr (Ext.refl w), H⟩
    have h1 := H.2 j (ready_mono hj hji)
    obtain ⟨hjun, oj, hoj, hall⟩ := mem_ready.1 hj
    have hDj : D j = false := by
      cases hd : D j with
      | false => rfl
      | true =>
        exfalso
        obtain ⟨e, he, hb, hor⟩ := hdep j oj hoj hji hjun hd
        have h1 := hall e he hb
        rcases hor with heq | ⟨_, hun⟩
        · have h0 := (mem_ready.1 hr).1
          grind
        grind
    obtain ⟨hap, htu⟩ := hfree j oj hoj hji hjun hDj
    have h2 := wpOp_putIf hoj hap (fun cs b => hsel i oi cs b hi) (fun cs b => hsel j oj cs b hoj) hQ hy h1
    have back : ∀ k, (aa3.setIfInBounds j true).getD k true = false → aa3.getD k true = false := fun k hun => by
      by_cases hjk : j = k
      · grind
      simp_all
    have hdep' : ∀ k ok, ops[k]? = some ok → k ≠ i → (aa3.setIfInBounds j true).getD k true = false → D k = true → ∃ e ∈ ok.after, Region.binds md e = true ∧ (e.on = i ∨ D e.on = true ∧ (aa3.setIfInBounds j true).getD e.on true = false) := fun k ok hk hki hun hd => by
      obtain ⟨e, he, hb, hor⟩ := hdep k ok hk hki (back k hun) hd;refine ⟨e, he, hb, hor.imp id fun ⟨h3, h4⟩ => ⟨h3, ?_⟩⟩;have hne : j ≠ e.on := by grind
      simp_all
    have hfree' : ∀ k ok, ops[k]? = some ok → k ≠ i → (aa3.setIfInBounds j true).getD k true = false → D k = false → oi.apart ops ok = true ∧ turns ops k = false := fun k ok hk hki hun hd =>
      hfree k ok hk hki (back k hun) hd
    refine wpOp_mono (fun a' w' h3 => ?_) h2
    obtain ⟨hy', hx, hrest⟩ := h3
    rcases hx with hx | hx
    · grind
    refine ⟨.inr hx, ih (aa3.setIfInBounds j true) a' w' hdep' hfree' (ready_mono hr (Ne.symm hji)) (rl.later hy' hx) ?_⟩
    rw [Array.setIfInBounds_comm _ _ hji]
    exact hrest
theorem DN (D : Nat → Bool) (hi : ops[i]? = some oi) (hsel : ∀ (j : Nat) (o : Oper) cs b, ops[j]? = some o → o.op ≠ .select cs b)
    (hQ : ∀ c a w, Q (.panic c) (a.put oi.dst v) w → Q (.panic c) a w) :
    ∀ (n : Nat) (aa3 : Array Bool) (a : Act) (w : aa9),
      (∀ j oj, ops[j]? = some oj → j ≠ i → aa3.getD j true = false → D j = true → ∃ e ∈ oj.after, Region.binds md e = true ∧ (e.on = i ∨ D e.on = true ∧ aa3.getD e.on true = false)) →
      (∀ j oj, ops[j]? = some oj → j ≠ i → aa3.getD j true = false → D j = false → oi.apart ops oj = true) →
      i ∈ Region.ready md ops aa3 → YieldsIf P ops (fun _ => True) oi v a →
      OV P md ops Q n (aa3.setIfInBounds i true) (a.put oi.dst v) w → OV P md ops Q (n + 1) aa3 a w := by
  intro n
  induction n with
  | zero =>
    intro aa3 a w _ _ hr hy H
    refine ⟨fun h => (by grind), fun j hj => ?_⟩
    by_cases hji : j = i
    · subst hji; exact hy.wpOp hi trivial ⟨.inr (Ext.refl w), H⟩
    have := ready_mono hj hji
    rw [H.1] at this
    cases this
  | succ n ih =>
    intro aa3 a w hdep hfree hr hy H
    refine ⟨fun h => (by grind), fun j hj => ?_⟩
    by_cases hji : j = i
    · subst hji; exact hy.wpOp hi trivial ⟨.inr (Ext.refl w), H⟩
    have h1 := H.2 j (ready_mono hj hji)
    obtain ⟨hjun, oj, hoj, hall⟩ := mem_ready.1 hj
    have hDj : D j = false := by
      cases hd : D j with
      | false => rfl
      | true =>
        exfalso
        obtain ⟨e, he, hb, hor⟩ := hdep j oj hoj hji hjun hd
        have h1 := hall e he hb
        rcases hor with heq | ⟨_, hun⟩
        · have h0 := (mem_ready.1 hr).1
          grind
        grind
    have hap := hfree j oj hoj hji hjun hDj
    have h2 := wpOp_putIf hoj hap (fun cs b => hsel i oi cs b hi) (fun cs b => hsel j oj cs b hoj) hQ hy h1
    have back : ∀ k, (aa3.setIfInBounds j true).getD k true = false → aa3.getD k true = false := fun k hun => by
      by_cases hjk : j = k
      · grind
      simp_all
    have hdep' : ∀ k ok, ops[k]? = some ok → k ≠ i → (aa3.setIfInBounds j true).getD k true = false → D k = true → ∃ e ∈ ok.after, Region.binds md e = true ∧ (e.on = i ∨ D e.on = true ∧ (aa3.setIfInBounds j true).getD e.on true = false) := fun k ok hk hki hun hd => by
      obtain ⟨e, he, hb, hor⟩ := hdep k ok hk hki (back k hun) hd;refine ⟨e, he, hb, hor.imp id fun ⟨h3, h4⟩ => ⟨h3, ?_⟩⟩;have hne : j ≠ e.on := by grind
      simp_all
    have hfree' : ∀ k ok, ops[k]? = some ok → k ≠ i → (aa3.setIfInBounds j true).getD k true = false → D k = false → oi.apart ops ok = true := fun k ok hk hki hun hd =>
      hfree k ok hk hki (back k hun) hd
    refine wpOp_mono (fun a' w' h3 => ?_) h2
    obtain ⟨hy', hx, hrest⟩ := h3
    refine ⟨hx, ih (aa3.setIfInBounds j true) a' w' hdep' hfree' (ready_mono hr (Ne.symm hji)) hy' ?_⟩
    rw [Array.setIfInBounds_comm _ _ hji]
    exact hrest
def WM (P : Program) (ops : Array Oper) (Q : Exit → Act → aa9 → Prop) (n : Nat) (aa3 : Array Bool) (N : Nd) (L : List (Nat × Value)) (w : aa9) : Prop := ∀ a, Fr N L a → OV P .any ops Q n aa3 a w
def fD (Q : Exit → Act → aa9 → Prop) : Exit → Act → aa9 → Prop
 | .panic _, _, _ => False
 | e, a, w => Q e a w
theorem TG (h : WQ Q .normal N L w) : WQ (fD Q) .normal N L w := h
theorem aD {l : List Oper} (hm : P.follows .mixedOrders = true) (n : Nat) (hn : l.length = n) (h : ∀ w', Ext w w' → w'.heap = w.heap → WM P l.toArray (fD Q) n (Array.replicate n false) N L w') : WC P Q (.region id l.toArray true) N L w := by
 intro a ha;subst hn
 have h1 : (Code.region id l.toArray true).wp P (fD Q) a w := by refine wp_region_any hm (yd _ _ _ _ ?_);rw [List.size_toArray];exact h _ (Ext.drew w) rfl a ha
 refine wp_mono h1 fun e a w hq => ?_;cases e <;> first | exact hq | exact hq.elim
theorem pE (hr : Region.ready .any ops aa3 = []) (h : WQ Q .normal N L w) : WM P ops Q n aa3 N L w := by
 intro a ha
 cases n with
 | zero => exact ⟨hr, h a ha⟩
 | succ n => exact ⟨fun _ => h a ha, by rw [hr]; simp⟩
def fU (md : Region.Mode) (ops : Array Oper) (aa3 : Array Bool) (i : Nat) : List Bool :=
 (List.range ops.size).foldl (fun D j => D ++ [match ops[j]? with
  | some o => !aa3.getD j true && o.after.any (fun e => Region.binds md e && (e.on == i || (D.getD e.on false && !aa3.getD e.on true)))
  | none => false]) []
def freeBy (md : Region.Mode) (ops : Array Oper) (aa3 : Array Bool) (i : Nat) (D : List Bool) : Bool :=
 Region.noSelect ops && (match ops[i]? with
  | none => false
  | some oi => (List.range ops.size).all fun j => j == i || (aa3.getD j true || (match ops[j]? with
    | none => true
    | some oj => cond (D.getD j false) (oj.after.any fun e => Region.binds md e && (e.on == i || (D.getD e.on false && !aa3.getD e.on true))) (oi.apart ops oj && !turns ops j)))) && (Region.ready md ops aa3).contains i
def iT (md : Region.Mode) (ops : Array Oper) (aa3 : Array Bool) (i : Nat) : Bool := freeBy md ops aa3 i (fU md ops aa3 i)
theorem xZ (hi : ops[i]? = some oi) (hf : iT .any ops aa3 i = true)
  (hy : ∀ a, Fr N L a → rl P ops w oi v a) (hd : gV N oi.dst = true) (h : WM P ops (fD Q) n (aa3.setIfInBounds i true) N (bB oi.dst v L) w) : WM P ops (fD Q) (n + 1) aa3 N L w := by
 intro a ha;unfold iT at hf;generalize fU .any ops aa3 i = D at hf;simp only [freeBy, hi, Bool.and_eq_true, List.all_eq_true, List.mem_range, Bool.or_eq_true, beq_iff_eq] at hf;obtain ⟨⟨h1, h2⟩, h4⟩ := hf
 have key : ∀ j oj, ops[j]? = some oj → j ≠ i → aa3.getD j true = false → cond (D.getD j false) (oj.after.any fun e => Region.binds .any e && (e.on == i || (D.getD e.on false && !aa3.getD e.on true))) (oi.apart ops oj && !turns ops j) = true := fun j oj hj hne hun => by grind
 refine IS (fun j => D.getD j false) hi (Region.noSelect_spec h1) (fun c a w h => h) n aa3 a w (fun j oj hj hne hun hd => ?_) (fun j oj hj hne hun hd => ?_) (by simpa using h4) (hy a ha) (h _ (ha.mf hd v))
 ·grind
 grind
def sI (md : Region.Mode) (ops : Array Oper) (aa3 : Array Bool) (i : Nat) (D : List Bool) : Bool :=
 Region.noSelect ops && (match ops[i]? with
  | none => false
  | some oi => (List.range ops.size).all fun j => j == i || (aa3.getD j true || (match ops[j]? with
    | none => true
    | some oj => cond (D.getD j false) (oj.after.any fun e => Region.binds md e && (e.on == i || (D.getD e.on false && !aa3.getD e.on true))) (oi.apart ops oj)))) && (Region.ready md ops aa3).contains i
def nR (md : Region.Mode) (ops : Array Oper) (aa3 : Array Bool) (i : Nat) : Bool := sI md ops aa3 i (fU md ops aa3 i)
theorem UG (i : Nat) (hi : ops[i]? = some ⟨dst, op, ty, pos, after, none⟩) (hf : nR .any ops aa3 i = true) (hy : ∀ w0, Y P L w0 op ty v) (hd : gV N dst = true)
  (hr : WM P ops (fD Q) n (aa3.setIfInBounds i true) N (bB dst v L) w) : WM P ops (fD Q) (n + 1) aa3 N L w := by
 intro a ha;unfold nR at hf;generalize fU .any ops aa3 i = D at hf;simp only [sI, hi, Bool.and_eq_true, List.all_eq_true, List.mem_range, Bool.or_eq_true, beq_iff_eq] at hf;obtain ⟨⟨h1, h2⟩, h4⟩ := hf
 have key : ∀ j oj, ops[j]? = some oj → j ≠ i → aa3.getD j true = false → cond (D.getD j false) (oj.after.any fun e => Region.binds .any e && (e.on == i || (D.getD e.on false && !aa3.getD e.on true))) (Oper.apart ops ⟨dst, op, ty, pos, after, none⟩ oj) = true := fun j oj hj hne hun => by grind
 refine DN (fun j => D.getD j false) hi (Region.noSelect_spec h1) (fun c a w h => h) n aa3 a w (fun j oj hj hne hun hd => ?_) (fun j oj hj hne hun hd => ?_) (by simpa using h4) (.inl ⟨rfl, fun w' _ => hy w' a.eval (fun _ _ hx => ha.ev hx) w' (Ext.refl w') _ _ _ _⟩) (hr _ (ha.mf hd v))
 ·grind
 grind
theorem QH (i : Nat) (hi : ops[i]? = some ⟨dst, op, ty, pos, after, none⟩) (hf : iT .any ops aa3 i = true) (h : Y P L w op ty v) (hd : gV N dst = true)
  (hr : WM P ops (fD Q) n (aa3.setIfInBounds i true) N (bB dst v L) w) : WM P ops (fD Q) (n + 1) aa3 N L w :=
 xZ hi hf (fun a ha => .inl ⟨rfl, fun w' e => h a.eval (fun _ _ hx => ha.ev hx) w' e _ _ _ _⟩) hd hr
theorem kC (i : Nat) (hi : ops[i]? = some ⟨dst, op, ty, pos, after, some (j, b)⟩) (hf : iT .any ops aa3 i = true)
  (t : Tmp) (hj : (ops[j]?).bind (·.dst) = some t) (ht : look L t = some (.bool b)) (h : Y P L w op ty v) (hd : gV N dst = true)
  (hr : WM P ops (fD Q) n (aa3.setIfInBounds i true) N (bB dst v L) w) : WM P ops (fD Q) (n + 1) aa3 N L w :=
 xZ hi hf (fun a ha => .inl ⟨by rw [jm ha hj ht]; simp, fun w' e => h a.eval (fun _ _ hx => ha.ev hx) w' e _ _ _ _⟩) hd hr
theorem Ki (i : Nat) {b' : Bool} (hi : ops[i]? = some ⟨dst, op, ty, pos, after, some (j, b')⟩) (hf : iT .any ops aa3 i = true)
  (t : Tmp) (hj : (ops[j]?).bind (·.dst) = some t) (ht : look L t = some (.bool b)) (hb : (b == b') = false) (hd : gV N dst = true)
  (hr : WM P ops (fD Q) n (aa3.setIfInBounds i true) N (bB dst undef L) w) : WM P ops (fD Q) (n + 1) aa3 N L w :=
 xZ hi hf (fun a ha => .inr ⟨by rw [jm ha hj ht, hb], rfl⟩) hd hr
theorem Kv (rs : List Nat) (hr : Region.ready .any ops aa3 = rs) (hne : rs.isEmpty = false)
  (h : ∀ i ∈ rs, ∀ a, Fr N L a → wpOp P ops Q i (fun a' w' => (turns ops i = true ∨ Ext w w') ∧ OV P .any ops Q n (aa3.setIfInBounds i true) a' w') a w) : WM P ops Q (n + 1) aa3 N L w := by
 intro a ha;refine ⟨fun h0 => ?_, fun i hi => h i (hr ▸ hi) a ha⟩;grind
def cu (P : Program) (ops : Array Oper) (Q : Exit → Act → aa9 → Prop) (n : Nat) (aa3 : Array Bool) (i : Nat) (N : Nd) (L : List (Nat × Value)) (w : aa9) : Prop :=
 ∀ a, Fr N L a → wpOp P ops Q i (fun a' w' => (turns ops i = true ∨ Ext w w') ∧ OV P .any ops Q n (aa3.setIfInBounds i true) a' w') a w
theorem aR (i : Nat) (hr : Region.ready .any ops aa3 = [i]) (h : cu P ops Q n aa3 i N L w) : WM P ops Q (n + 1) aa3 N L w :=
 Kv [i] hr rfl (fun k hk => by simp only [List.mem_singleton] at hk; subst hk; exact h)
theorem mT (i j : Nat) (hr : Region.ready .any ops aa3 = [i, j]) (h : cu P ops Q n aa3 i N L w) (h' : cu P ops Q n aa3 j N L w) : WM P ops Q (n + 1) aa3 N L w :=
 Kv [i, j] hr rfl (fun k hk => by
  simp only [List.mem_cons, List.not_mem_nil, or_false] at hk;rcases hk with hk | hk <;> subst hk
  ·exact h
  exact h')
theorem bE {Φ : Value → aa9 → Prop} (hi : ops[i]? = some ⟨dst, op, ty, pos, after, none⟩) (h : Ef P L w op ty Φ) (hd : gV N dst = true)
  (hr : ∀ v w', Φ v w' → (turns ops i = true ∨ Ext w w') ∧ WM P ops Q n (aa3.setIfInBounds i true) N (bB dst v L) w') : cu P ops Q n aa3 i N L w := by
 intro a ha;unfold wpOp;simp only [hi];rw [if_pos (by simp [Region.wanted])];exact .inl (h a N ha _ _ _ _ _ _ fun v w' hv => ⟨(hr v w' hv).1, (hr v w' hv).2 _ (ha.mf hd v)⟩)
theorem Tp {Φ : Value → aa9 → Prop} (hi : ops[i]? = some ⟨dst, op, ty, pos, after, some (j, b)⟩)
  (t : Tmp) (hj : (ops[j]?).bind (·.dst) = some t) (ht : look L t = some (.bool b)) (h : Ef P L w op ty Φ) (hd : gV N dst = true)
  (hr : ∀ v w', Φ v w' → (turns ops i = true ∨ Ext w w') ∧ WM P ops Q n (aa3.setIfInBounds i true) N (bB dst v L) w') : cu P ops Q n aa3 i N L w := by
 intro a ha;unfold wpOp;simp only [hi];rw [if_pos (by rw [jm ha hj ht]; simp)];exact .inl (h a N ha _ _ _ _ _ _ fun v w' hv => ⟨(hr v w' hv).1, (hr v w' hv).2 _ (ha.mf hd v)⟩)
end
/-! Steps that ask nothing, taken as Fq as they go. -/
theorem VE {N : Nd} (h : WC P (Exit.then (y.wp P Q) Q) x N L w) : WC P Q (.seq x y) N L w := fun a ha => wp_seq (h a ha)
theorem UR {N : Nd} (h : WC P R y N L w) : WQ (Exit.then (y.wp P R) Q) .normal N L w := h
structure Wv (q : Prop) : Prop where
 o : q
theorem aS {a b : Prop} (x : z) (ha : a) (hb : b) (fa : z → a → a' := by intro x h; exact h.ext x) (fb : z → b → b' := by intro x h; exact h.ext x) : a' ∧ b' := ⟨fa x ha, fb x hb⟩
theorem jT {a b : Prop} (x : z) (ha : a) (hb : b) (fa : z → a → a' := by intro x h; exact h.bD x) (fb : z → b → b' := by intro x h; exact h.bD x) : a' ∧ b' := ⟨fa x ha, fb x hb⟩
theorem bh {a b c : Prop} (x : z) (ha : a) (hb : b) (hc : c) (fa : z → a → a' := by intro x h; exact h.ext x) (fb : z → b → b' := by intro x h; exact h.ext x) (fc : z → c → c' := by intro x h; exact h.ext x) : a' ∧ b' ∧ c' := ⟨fa x ha, fb x hb, fc x hc⟩
theorem DC {a b c : Prop} (x : z) (ha : a) (hb : b) (hc : c) (fa : z → a → a' := by intro x h; exact h.bD x) (fb : z → b → b' := by intro x h; exact h.bD x) (fc : z → c → c' := by intro x h; exact h.bD x) : a' ∧ b' ∧ c' := ⟨fa x ha, fb x hb, fc x hc⟩
theorem bG {a b c d : Prop} (x : z) (ha : a) (hb : b) (hc : c) (hd : d) (fa : z → a → a' := by intro x h; exact h.ext x) (fb : z → b → b' := by intro x h; exact h.ext x) (fc : z → c → c' := by intro x h; exact h.ext x) (fd : z → d → d' := by intro x h; exact h.ext x) : a' ∧ b' ∧ c' ∧ d' := ⟨fa x ha, fb x hb, fc x hc, fd x hd⟩
theorem j6 {a b c d : Prop} (x : z) (ha : a) (hb : b) (hc : c) (hd : d) (fa : z → a → a' := by intro x h; exact h.bD x) (fb : z → b → b' := by intro x h; exact h.bD x) (fc : z → c → c' := by intro x h; exact h.bD x) (fd : z → d → d' := by intro x h; exact h.bD x) : a' ∧ b' ∧ c' ∧ d' := ⟨fa x ha, fb x hb, fc x hc, fd x hd⟩
theorem fR {a b c d f : Prop} (x : z) (ha : a) (hb : b) (hc : c) (hd : d) (hf : f) (fa : z → a → a' := by intro x h; exact h.ext x) (fb : z → b → b' := by intro x h; exact h.ext x) (fc : z → c → c' := by intro x h; exact h.ext x) (fd : z → d → d' := by intro x h; exact h.ext x) (ff : z → f → f' := by intro x h; exact h.ext x) : a' ∧ b' ∧ c' ∧ d' ∧ f' := ⟨fa x ha, fb x hb, fc x hc, fd x hd, ff x hf⟩
theorem vf {a b c d f : Prop} (x : z) (ha : a) (hb : b) (hc : c) (hd : d) (hf : f) (fa : z → a → a' := by intro x h; exact h.bD x) (fb : z → b → b' := by intro x h; exact h.bD x) (fc : z → c → c' := by intro x h; exact h.bD x) (fd : z → d → d' := by intro x h; exact h.bD x) (ff : z → f → f' := by intro x h; exact h.bD x) : a' ∧ b' ∧ c' ∧ d' ∧ f' := ⟨fa x ha, fb x hb, fc x hc, fd x hd, ff x hf⟩
theorem iz {a b c d f g : Prop} (x : z) (ha : a) (hb : b) (hc : c) (hd : d) (hf : f) (hg : g) (fa : z → a → a' := by intro x h; exact h.ext x) (fb : z → b → b' := by intro x h; exact h.ext x) (fc : z → c → c' := by intro x h; exact h.ext x) (fd : z → d → d' := by intro x h; exact h.ext x) (ff : z → f → f' := by intro x h; exact h.ext x) (fg : z → g → g' := by intro x h; exact h.ext x) : a' ∧ b' ∧ c' ∧ d' ∧ f' ∧ g' := ⟨fa x ha, fb x hb, fc x hc, fd x hd, ff x hf, fg x hg⟩
theorem mg {a b c d f g : Prop} (x : z) (ha : a) (hb : b) (hc : c) (hd : d) (hf : f) (hg : g) (fa : z → a → a' := by intro x h; exact h.bD x) (fb : z → b → b' := by intro x h; exact h.bD x) (fc : z → c → c' := by intro x h; exact h.bD x) (fd : z → d → d' := by intro x h; exact h.bD x) (ff : z → f → f' := by intro x h; exact h.bD x) (fg : z → g → g' := by intro x h; exact h.bD x) : a' ∧ b' ∧ c' ∧ d' ∧ f' ∧ g' := ⟨fa x ha, fb x hb, fc x hc, fd x hd, ff x hf, fg x hg⟩
theorem iW {a b c d f g : Prop} (x : z) (ha : a) (hb : b) (hc : c) (hd : d) (hf : f) (hg : g) (hh : h) (fa : z → a → a' := by intro x h; exact h.ext x) (fb : z → b → b' := by intro x h; exact h.ext x) (fc : z → c → c' := by intro x h; exact h.ext x) (fd : z → d → d' := by intro x h; exact h.ext x) (ff : z → f → f' := by intro x h; exact h.ext x) (fg : z → g → g' := by intro x h; exact h.ext x) (fh : z → h → h' := by intro x h; exact h.ext x) : a' ∧ b' ∧ c' ∧ d' ∧ f' ∧ g' ∧ h' := ⟨fa x ha, fb x hb, fc x hc, fd x hd, ff x hf, fg x hg, fh x hh⟩
theorem Jy {a b c d f g : Prop} (x : z) (ha : a) (hb : b) (hc : c) (hd : d) (hf : f) (hg : g) (hh : h) (fa : z → a → a' := by intro x h; exact h.bD x) (fb : z → b → b' := by intro x h; exact h.bD x) (fc : z → c → c' := by intro x h; exact h.bD x) (fd : z → d → d' := by intro x h; exact h.bD x) (ff : z → f → f' := by intro x h; exact h.bD x) (fg : z → g → g' := by intro x h; exact h.bD x) (fh : z → h → h' := by intro x h; exact h.bD x) : a' ∧ b' ∧ c' ∧ d' ∧ f' ∧ g' ∧ h' := ⟨fa x ha, fb x hb, fc x hc, fd x hd, ff x hf, fg x hg, fh x hh⟩
theorem GC {a b c d f g i : Prop} (x : z) (ha : a) (hb : b) (hc : c) (hd : d) (hf : f) (hg : g) (hh : h) (hi : i) (fa : z → a → a' := by intro x h; exact h.ext x) (fb : z → b → b' := by intro x h; exact h.ext x) (fc : z → c → c' := by intro x h; exact h.ext x) (fd : z → d → d' := by intro x h; exact h.ext x) (ff : z → f → f' := by intro x h; exact h.ext x) (fg : z → g → g' := by intro x h; exact h.ext x) (fh : z → h → h' := by intro x h; exact h.ext x) (fi : z → i → i' := by intro x h; exact h.ext x) : a' ∧ b' ∧ c' ∧ d' ∧ f' ∧ g' ∧ h' ∧ i' := ⟨fa x ha, fb x hb, fc x hc, fd x hd, ff x hf, fg x hg, fh x hh, fi x hi⟩
theorem zO {a b c d f g i : Prop} (x : z) (ha : a) (hb : b) (hc : c) (hd : d) (hf : f) (hg : g) (hh : h) (hi : i) (fa : z → a → a' := by intro x h; exact h.bD x) (fb : z → b → b' := by intro x h; exact h.bD x) (fc : z → c → c' := by intro x h; exact h.bD x) (fd : z → d → d' := by intro x h; exact h.bD x) (ff : z → f → f' := by intro x h; exact h.bD x) (fg : z → g → g' := by intro x h; exact h.bD x) (fh : z → h → h' := by intro x h; exact h.bD x) (fi : z → i → i' := by intro x h; exact h.bD x) : a' ∧ b' ∧ c' ∧ d' ∧ f' ∧ g' ∧ h' ∧ i' := ⟨fa x ha, fb x hb, fc x hc, fd x hd, ff x hf, fg x hg, fh x hh, fi x hi⟩
theorem uX {a b c d f g i j : Prop} (x : z) (ha : a) (hb : b) (hc : c) (hd : d) (hf : f) (hg : g) (hh : h) (hi : i) (hj : j) (fa : z → a → a' := by intro x h; exact h.ext x) (fb : z → b → b' := by intro x h; exact h.ext x) (fc : z → c → c' := by intro x h; exact h.ext x) (fd : z → d → d' := by intro x h; exact h.ext x) (ff : z → f → f' := by intro x h; exact h.ext x) (fg : z → g → g' := by intro x h; exact h.ext x) (fh : z → h → h' := by intro x h; exact h.ext x) (fi : z → i → i' := by intro x h; exact h.ext x) (fj : z → j → j' := by intro x h; exact h.ext x) : a' ∧ b' ∧ c' ∧ d' ∧ f' ∧ g' ∧ h' ∧ i' ∧ j' := ⟨fa x ha, fb x hb, fc x hc, fd x hd, ff x hf, fg x hg, fh x hh, fi x hi, fj x hj⟩
theorem mA {a b c d f g i j : Prop} (x : z) (ha : a) (hb : b) (hc : c) (hd : d) (hf : f) (hg : g) (hh : h) (hi : i) (hj : j) (fa : z → a → a' := by intro x h; exact h.bD x) (fb : z → b → b' := by intro x h; exact h.bD x) (fc : z → c → c' := by intro x h; exact h.bD x) (fd : z → d → d' := by intro x h; exact h.bD x) (ff : z → f → f' := by intro x h; exact h.bD x) (fg : z → g → g' := by intro x h; exact h.bD x) (fh : z → h → h' := by intro x h; exact h.bD x) (fi : z → i → i' := by intro x h; exact h.bD x) (fj : z → j → j' := by intro x h; exact h.bD x) : a' ∧ b' ∧ c' ∧ d' ∧ f' ∧ g' ∧ h' ∧ i' ∧ j' := ⟨fa x ha, fb x hb, fc x hc, fd x hd, ff x hf, fg x hg, fh x hh, fi x hi, fj x hj⟩
section
variable {N : Nd}
theorem ak (h : Y P L w op ty v) (hr : WL P ops Q rest N ((d, v) :: L) w) (hd : Nat.ble (d + 1) N.n = true := by exact rfl) : WL P ops Q (⟨some d, op, ty, pos, after, none⟩ :: rest) N L w := OT h hd hr
theorem qG (t : Tmp) (h : Y P L w op ty v) (hr : WL P ops Q rest N ((d, v) :: L) w) (hj : (ops[j]?).bind (·.dst) = some t := by exact rfl) (ht : look L t = some (.bool b) := by exact rfl) (hd : Nat.ble (d + 1) N.n = true := by exact rfl) : WL P ops Q (⟨some d, op, ty, pos, after, some (j, b)⟩ :: rest) N L w := GJ t hj ht h hd hr
theorem dF (i : Nat) (hi : ops[i]? = some ⟨dst, op, ty, pos, after, none⟩) (hy : ∀ w0, Y P L w0 op ty v) (hr : WM P ops (fD Q) n (aa3.setIfInBounds i true) N (bB dst v L) w) (hf : nR .any ops aa3 i = true := by kernel_rfl) (hd : gV N dst = true := by exact rfl) : WM P ops (fD Q) (n + 1) aa3 N L w := UG i hi hf hy hd hr
end
section
variable {N : Nd}
theorem my (i : Nat) (hi : ops[i]? = some ⟨dst, op, ty, pos, after, none⟩) (h : Y P L w op ty v) (hr : WM P ops (fD Q) n (aa3.setIfInBounds i true) N (bB dst v L) w)
  (hf : iT .any ops aa3 i = true := by kernel_rfl) (hd : gV N dst = true := by exact rfl) : WM P ops (fD Q) (n + 1) aa3 N L w := QH i hi hf h hd hr
end
abbrev Ct := Calls Tryz.prog
abbrev ck (w : aa9) (v : Value) (e : Ending) (w' : aa9) : Prop := e = .returned v ∧ Ext w w'
end Go.Proofs.YtgfafidlkldeaaaGreat
