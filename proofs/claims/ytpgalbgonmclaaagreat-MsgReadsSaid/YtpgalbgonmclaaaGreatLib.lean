/- Small words for memory: slices that read as lists, blocks known whole, and what a call leaves. No conditions: plain lemmas of the model. More small words for memory and jumps. No conditions: plain lemmas of the model. -/
import Derived.WalkKit
import Derived.WalkSpells
import Derived.WalkLawsBesides
import Derived.Maps.AppendAt
import Derived.Deep.AppendLies
import Derived.Deep.Draws
import Derived.Laws.OwnMore
import Derived.Laws.Rows
import Derived.RegionTactic
import Derived.OwnWalk
import Derived.Deep.QuietTactic
import Derived.BigQuiet
import Derived.BigRegion
import Derived.Lib.Hide
import Derived.Handy
import Derived.PlainAid
import Derived.StillTailTactics
import Derived.ScopeJumps
import Derived.WalkMore
import Derived.Deep.RegionHeld3
namespace Go.Proofs.YtpgalbgonmclaaaGreat
section
open Go.RowKit

theorem cell_lt {w : World} {a : Addr} {v : Value} (h : w.cell? a = some v) : a.block < w.heap.size := by
  rcases Nat.lt_or_ge a.block w.heap.size with hlt | hge
  · exact hlt
  · unfold World.cell? at h; rw [Array.getElem?_eq_none hge] at h; cases h

/-- Values at an address, one behind the other. -/
def At (w : World) (A : Option Addr) (xs : List Value) : Prop :=
  xs = [] ∨ ∃ b off, A = some ⟨b, off, none⟩ ∧ ∀ j u, xs[j]? = some u → w.cell? ⟨b, off + j, none⟩ = some u

theorem add_lit (b off j : Nat) : (⟨b, off, none⟩ : Addr).add j = ⟨b, off + j, none⟩ := by
  unfold Addr.add; split <;> simp_all

section
variable {w w' : World} {A : Option Addr} {xs : List Value}
theorem At.nil : At w A [] := .inl rfl
theorem At.of_add {ad : Addr} (h : ∀ j u, xs[j]? = some u → w.cell? (ad.add j) = some u) : At w (some ad) xs := by
  rcases xs with _ | ⟨x, xs⟩
  · exact .inl rfl
  · obtain ⟨b, off, sp⟩ := ad
    have h0 := h 0 x rfl
    simp only [Addr.add, if_true] at h0
    have hs : sp = none := by
      cases sp with
      | none => rfl
      | some s => unfold World.cell? at h0; split at h0 <;> simp at h0
    subst hs
    exact .inr ⟨b, off, rfl, fun j u hu => by rw [← add_lit]; exact h j u hu⟩
theorem At.adds {ad : Addr} (h : At w (some ad) xs) : ∀ j u, xs[j]? = some u → w.cell? (ad.add j) = some u := by
  rcases h with rfl | ⟨b, off, hA, hc⟩
  · simp
  · injection hA with hA
    subst hA
    intro j u hu
    rw [add_lit]; exact hc j u hu
theorem At.get (h : At w A xs) {k : Nat} (hk : k < xs.length) : ∃ b off, A = some ⟨b, off, none⟩ ∧ b < w.heap.size ∧ w.cell? ⟨b, off + k, none⟩ = some xs[k] := by
  rcases h with rfl | ⟨b, off, hA, hc⟩
  · simp at hk
  · have h1 := hc k xs[k] (List.getElem?_eq_getElem hk)
    exact ⟨b, off, hA, cell_lt h1, h1⟩
theorem At.keep (h : At w A xs) (hk : ∀ p : Addr, p.block < w.heap.size → w'.cell? p = w.cell? p) : At w' A xs := by
  rcases h with rfl | ⟨b, off, hA, hc⟩
  · exact .inl rfl
  · exact .inr ⟨b, off, hA, fun j u hu => (hk _ (cell_lt (hc j u hu))).trans (hc j u hu)⟩
theorem At.below (h : At w A xs) (hb : Below w.heap.size w w') : At w' A xs := h.keep fun _ hp => hb.cell hp
end

/-- A byte as a value. -/
def bv (x : UInt8) : Value := .int .u8 (x.toNat : Int)

/-- The bytes at an address. -/
def Bs (w : World) (A : Option Addr) (n : Nat) (xs : List UInt8) : Prop := xs.length = n ∧ At w A (xs.map bv)

section
variable {w w' : World} {A : Option Addr} {n : Nat} {xs : List UInt8}
theorem Bs.get (h : Bs w A n xs) {k : Nat} (hk : k < n) : ∃ b off, A = some ⟨b, off, none⟩ ∧ b < w.heap.size ∧ w.cell? ⟨b, off + k, none⟩ = some (.int .u8 ((xs.getD k 0).toNat : Int)) := by
  have hl : k < xs.length := by rw [h.1]; exact hk
  obtain ⟨b, off, e, hb, hc⟩ := h.2.get (k := k) (by simpa using hl)
  exact ⟨b, off, e, hb, by simpa [bv, hl] using hc⟩
theorem Bs.byte (h : Bs w A n xs) {k : Nat} (hk : k < n) : ∃ b off x, A = some ⟨b, off, none⟩ ∧ Hid (x = xs.getD k 0) ∧ w.cell? ⟨b, off + k, none⟩ = some (.int .u8 (x.toNat : Int)) := by
  obtain ⟨b, off, e, _, hc⟩ := h.get hk
  exact ⟨b, off, _, e, rfl, hc⟩
theorem Bs.one (w : World) (t : TypeId) (x : UInt8) : Bs (w.alloc (.cells #[.int .u8 (x.toNat : Int)] t)) (some ⟨w.heap.size, 0, none⟩) 1 [x] :=
  ⟨rfl, At.of_add (cell_one_new _ _ _)⟩
theorem bv_one (u : Value) (h : u ∈ xs.map bv) : u.oneCell' = true := by
  obtain ⟨x, _, rfl⟩ := List.mem_map.1 h
  rfl
theorem Bs.below (h : Bs w A n xs) (hb : Below w.heap.size w w') : Bs w' A n xs := ⟨h.1, h.2.below hb⟩
end

/-- An element type of one cell: what the tables say of it. -/
structure Elt (P : Program) (t e : TypeId) (bytes : Nat) : Prop where
  ht : P.underlying t = some (.slice e)
  row : ∃ (i : TypeInfo) (z : Value), P.info? e = some i ∧ i.zero = some z ∧ i.size = 1 ∧ i.bytes = bytes ∧ z.cells.size = 1

theorem Elt.of {P : Program} {t e : TypeId} {z : Value} {bytes : Nat} (ht : P.underlying t = some (.slice e)) (h : (P.info? e).map (fun i => (i.zero, i.size, i.bytes)) = some (some z, 1, bytes)) (hz : z.cells.size = 1) : Elt P t e bytes := by
  obtain ⟨i, h1, h2, h3, h4⟩ := info_parts h
  exact ⟨ht, i, z, h1, h2, h3, h4, hz⟩

section
variable {P : Program} {w w0 : World} {α : Type} {f : α → Value}

theorem run_append_nil (base : Nat) (t ty e : TypeId) (bytes : Nat) (hE : Elt P t e bytes)
    (v : Value) (n : Nat) (xs : List Value) (hown : w.ownsRow base e 1 v n xs) (c : Nat) : (Builtin.append_ #[t, t] ty #[v, .slice none 0 c]).run P w = .ok v w := by
  obtain ⟨ht, i, z, hi, _⟩ := hE
  rcases hown.2 with ⟨rfl, rfl⟩ | ⟨g, cap, cur, rfl, _, _, hnc, _⟩
  · simp [Builtin.append_, run_underlying ht, sizeOf, typeInfo, hi, Builtin.lenOf, Builtin.firstCells]
  · simp [Builtin.append_, run_underlying ht, sizeOf, typeInfo, hi, Builtin.lenOf, Builtin.firstCells, hnc, storeCells]

theorem run_append (base : Nat) (t ty e : TypeId) (bytes : Nat) (hE : Elt P t e bytes)
    (v : Value) (n : Nat) (xs : List Value) (hown : w.ownsRow base e 1 v n xs)
    (A : Option Addr) (m c : Nat) (ys : List Value) (hl : ys.length = m) (hr : At w A ys) (h1 : ∀ u ∈ ys, u.oneCell' = true)
    (hlen : (n + m) * bytes ≤ 140737488355328) (h63 : n + m ≤ 140737488355328) (hB : Below base w0 w) (hbase : base ≤ w.heap.size) :
    ∃ v' w', (Builtin.append_ #[t, t] ty #[v, .slice A m c]).run P w = .ok v' w' ∧ w'.ownsRow base e 1 v' (n + m) (xs ++ ys) ∧ Below base w0 w' ∧ w.grownBy w' v.ownBlock ∧
      (v'.ownBlock = v.ownBlock ∨ v'.ownBlock = some w.heap.size) := by
  have hr' := hr
  rcases hr with rfl | ⟨b, off, rfl, _⟩
  · simp only [List.length_nil] at hl
    subst hl
    rcases A with _ | ad
    · exact ⟨v, w, run_append_nil base t ty e bytes hE v n xs hown c, by simpa using hown, hB, World.grownBy.refl w _, .inl rfl⟩
    · obtain ⟨ht, i, z, hi, hz, hs, hb, hzs⟩ := hE
      obtain ⟨v', w', hrun, h2, h3, _, h5⟩ := run_append_own_at (P := P) w base t ty e i z 1 bytes ht hi hz hs hb hzs (by omega) v n xs hown ad 0 c [] rfl (by simp) (by simp) (by unfold maxLen; omega) hlen hbase
      exact ⟨v', w', hrun, h2, hB.grown h3 hbase fun k hk => (hown.lt k hk).1, h3, h5⟩
  · obtain ⟨ht, i, z, hi, hz, hs, hb, hzs⟩ := hE
    obtain ⟨v', w', hrun, h2, h3, _, h5⟩ := run_append_own_at (P := P) w base t ty e i z 1 bytes ht hi hz hs hb hzs (by omega) v n xs hown ⟨b, off, none⟩ m c ys (by omega) hr'.adds h1 (by unfold maxLen; omega) hlen hbase
    exact ⟨v', w', hrun, h2, hB.grown h3 hbase fun k hk => (hown.lt k hk).1, h3, h5⟩

theorem own_shape {base n : Nat} {e : TypeId} {v : Value} {xs : List Value} (h : w.ownsRow base e 1 v n xs) : ∃ A c, v = .slice A n c := by
  rcases h.2 with ⟨rfl, rfl⟩ | ⟨g, cap, cur, rfl, _⟩
  · exact ⟨none, 0, rfl⟩
  · exact ⟨_, _, rfl⟩
theorem own_at {base n c : Nat} {e : TypeId} {A : Option Addr} {xs : List Value} (h : w.ownsRow base e 1 (.slice A n c) n xs) : At w A xs := by
  rcases h.2 with ⟨hv, rfl⟩ | ⟨g, cap, cur, hv, _⟩
  · have := h.1
    exact .inl (List.eq_nil_of_length_eq_zero (by omega))
  · injection hv with hA
    subst hA
    exact At.of_add (h.cells rfl)

/-- 'out = append(out, xs...)', out the call's own. -/
theorem app_own {ops : Array Oper} {rest : List Oper} {o : Oper} {a : Act} {Q : Exit → Act → World → Prop} (hgd : o.guard = none) (s x : Operand) (t : TypeId)
    (ho : o.op = .call { callee := .builtin .append, args := #[s, x], argTypes := #[t, t] })
    (e : TypeId) (bytes : Nat) (hE : Elt P t e bytes) (base : Nat)
    (v : Value) (n : Nat) (xs : List Value) (hs : a.eval s = v) (hown : w.ownsRow base e 1 v n xs)
    (A : Option Addr) (m c : Nat) (ys : List Value) (hx : a.eval x = .slice A m c) (hl : ys.length = m) (hr : At w A ys) (h1 : ∀ u ∈ ys, u.oneCell' = true)
    (hlen : (n + m) * bytes ≤ 140737488355328) (h63 : n + m ≤ 140737488355328) (hB : Below base w0 w) (hbase : base ≤ w.heap.size)
    (h : ∀ A' c' w', w'.ownsRow base e 1 (.slice A' (n + m) c') (n + m) (xs ++ ys) → Below base w0 w' → w.grownBy w' v.ownBlock → ((Value.slice A' (n + m) c').ownBlock = v.ownBlock ∨ (Value.slice A' (n + m) c').ownBlock = some w.heap.size) →
      wpList P ops Q rest (a.put o.dst (.slice A' (n + m) c')) w') :
    wpList P ops Q (o :: rest) a w := by
  obtain ⟨v', w', hrun, h2, h3, h4, h5⟩ := run_append (P := P) (w0 := w0) base t o.type e bytes hE v n xs hown A m c ys hl hr h1 hlen h63 hB hbase
  refine wpList_plain hgd fun _ hK => ?_
  unfold Oper.wp execOp
  simp only [ho, resolve, invoke, builtin, Sem.run_bind, Sem.run_pure, Result.andThen_ok, List.map_toArray, List.map_cons, List.map_nil, hs, hx, hrun]
  obtain ⟨A', c', rfl⟩ := own_shape h2
  exact hK _ _ (h A' c' w' h2 h3 h4 h5)
end

/-- Block g is just the cells cs. -/
def Blk (w : World) (g : Nat) (t : TypeId) (cs : Array Value) : Prop := w.heap[g]? = some (.cells cs t (0, 0))

section
variable {w w' : World} {g : Nat} {t : TypeId} {cs : Array Value}
theorem Blk.lt (h : Blk w g t cs) : g < w.heap.size := by
  rcases Nat.lt_or_ge g w.heap.size with hlt | hge
  · exact hlt
  · unfold Blk at h; rw [Array.getElem?_eq_none hge] at h; cases h
theorem Blk.cell (h : Blk w g t cs) (i : Nat) : w.cell? ⟨g, i, none⟩ = cs[i]? := cell_of_row w g i cs t (0, 0) h
theorem Blk.frozen (h : Blk w g t cs) (i : Nat) : w.frozen? ⟨g, i, none⟩ = false := frozen_of_row w g i cs t h
theorem Blk.new (w : World) (t : TypeId) (cs : Array Value) : Blk (w.alloc (.cells cs t)) w.heap.size t cs := heap_alloc_new w _
theorem Blk.drewN (h : Blk w g t cs) (n : Nat) : Blk (w.drewN n) g t cs := h
theorem Blk.alloc (h : Blk w g t cs) (o : Obj) : Blk (w.alloc o) g t cs := (Below.heap_alloc w o g h.lt).trans h
theorem Blk.set (h : Blk w g t cs) (i : Nat) (u : Value) : Blk (w.setCell ⟨g, i, none⟩ u) g t (cs.setIfInBounds i u) := by
  unfold Blk at h ⊢
  simp [World.setCell, Array.getElem?_modify, h]
theorem Blk.far (h : Blk w g t cs) {p : Addr} (hp : g ≠ p.block) (u : Value) : Blk (w.setCell p u) g t cs := (Below.heap_setCell w p u g hp).trans h
theorem Blk.below {B : Nat} (h : Blk w g t cs) (hb : Below B w w') (hg : g < B) : Blk w' g t cs := (hb.block g hg).trans h
theorem Blk.kept (h : Blk w g t cs) (hb : Below w.heap.size w w') : Blk w' g t cs := (hb.block g h.lt).trans h
theorem Blk.grown {row : Option Nat} (h : Blk w g t cs) (hb : w.grownBy w' row) (hg : some g ≠ row) : Blk w' g t cs := (hb.block g h.lt hg).trans h
theorem Blk.row (h : Blk w g t cs) (cs' : Array Value) : Blk (w.setRow g cs') g t cs' := setRow_heap w g cs cs' t (0, 0) h
theorem bel_drewN {B : Nat} {a w : World} (h : Below B a w) (n : Nat) : Below B a (w.drewN n) := ⟨h.os, h.tape, h.output, h.size, h.block⟩
end

/-- A number of some kind as a value; many of them. -/
def iv (k : IntKind) (x : Nat) : Value := .int k (x : Int)
def nums (k : IntKind) (l : List Nat) : Array Value := (l.map (iv k)).toArray
theorem nums_set (k : IntKind) (l : List Nat) (i x : Nat) : (nums k l).setIfInBounds i (.int k (x : Int)) = nums k (l.set i x) := by
  simp [nums, iv, List.map_set]
/-- So many zeros. -/
def zrs (n : Nat) : List Nat := List.replicate n 0
theorem fill_set (k : IntKind) (l : List Nat) (m m' i x : Nat) (h : i = l.length) (hm : m = m' + 1) : (nums k (l ++ zrs m)).setIfInBounds i (.int k (x : Int)) = nums k (l ++ [x] ++ zrs m') := by
  subst h; subst hm
  rw [nums_set]
  simp [zrs, List.replicate_succ]

theorem Blk.fill {w : World} {g m m' i x : Nat} {t : TypeId} {k : IntKind} {l : List Nat} {v : Value} (h : Blk w g t (nums k (l ++ zrs m))) (hi : i = l.length) (hm : m = m' + 1) (hv : v = .int k (x : Int)) :
    Blk (w.setCell ⟨g, i, none⟩ v) g t (nums k (l ++ [x] ++ zrs m')) := by
  subst hv
  rw [← fill_set k l m m' i x hi hm]
  exact h.set i _
theorem int_val {k : IntKind} {a b : Int} (h : a = b) : Value.int k a = Value.int k b := by rw [h]
theorem i64_ok {a : Int} (h1 : -9223372036854775808 ≤ a) (h2 : a ≤ 9223372036854775807) : IntKind.i64.wrap a = a := IntWalk.i64_in _ ⟨h1, h2⟩

/-- A cut of a block reads as its cells. -/
theorem Blk.at {w : World} {g : Nat} {t : TypeId} {cs : Array Value} (h : Blk w g t cs) (o : Nat) (xs : List Value) (hx : ∀ j u, xs[j]? = some u → cs[o + j]? = some u) : At w (some ⟨g, o, none⟩) xs :=
  .inr ⟨g, o, rfl, fun j u hu => by rw [h.cell]; exact hx j u hu⟩

theorem size_setRow (w : World) (g : Nat) (cs : Array Value) : (w.setRow g cs).heap.size = w.heap.size := by simp [World.setRow]
theorem size_setCell (w : World) (a : Addr) (u : Value) : (w.setCell a u).heap.size = w.heap.size := by simp [World.setCell]

theorem grown_below {a w : World} {B : Nat} (h : Below B a w) (hB : a.heap.size ≤ B) (row : Option Nat) : a.grownBy w row := ⟨h.os, h.tape, h.output, h.size, fun i hi _ => h.block i (by omega)⟩
theorem grown_set {a w : World} {g : Nat} (h : a.grownBy w (some g)) {p : Addr} (hp : p.block = g ∨ a.heap.size ≤ p.block) (u : Value) : a.grownBy (w.setCell p u) (some g) :=
  ⟨h.os, h.tape, h.output, by rw [size_setCell]; exact h.size, fun i hi hne => (Below.heap_setCell w p u i (by
    rintro rfl
    rcases hp with hp | hp
    · exact hne (by rw [hp])
    · omega)).trans (h.block i hi hne)⟩
/-- A slice's length, for a loop's measure. -/
def lenOf : Value → Nat | .slice _ n _ => n | _ => 0

/-- A list of byte slices: each is a slice of its own. -/
def Bss (w : World) (A : Option Addr) (n : Nat) (xss : List (List UInt8)) : Prop :=
  xss.length = n ∧ ∃ vs : List Value, vs.length = n ∧ At w A vs ∧ ∀ i, i < n → ∃ B m c, vs[i]? = some (.slice B m c) ∧ Bs w B m (xss.getD i [])
theorem Bss.get {w : World} {A : Option Addr} {n : Nat} {xss : List (List UInt8)} (h : Bss w A n xss) {k : Nat} (hk : k < n) :
    ∃ b off B m c xs, A = some ⟨b, off, none⟩ ∧ Hid (xs = xss.getD k []) ∧ w.cell? ⟨b, off + k, none⟩ = some (.slice B m c) ∧ Bs w B m xs := by
  obtain ⟨_, vs, hl, hat, hv⟩ := h
  obtain ⟨b, off, hA, _, hc⟩ := hat.get (k := k) (by omega)
  obtain ⟨B, m, c, h1, h2⟩ := hv k hk
  have : vs[k] = .slice B m c := by
    rw [List.getElem?_eq_getElem (by omega)] at h1
    injection h1
  exact ⟨b, off, B, m, c, _, hA, rfl, by rw [hc, this], h2⟩
theorem Bss.below {w w' : World} {A : Option Addr} {n : Nat} {xss : List (List UInt8)} (h : Bss w A n xss) (hb : Below w.heap.size w w') : Bss w' A n xss := by
  obtain ⟨hl, vs, h1, h2, h3⟩ := h
  refine ⟨hl, vs, h1, h2.below hb, fun i hi => ?_⟩
  obtain ⟨B, m, c, h4, h5⟩ := h3 i hi
  exact ⟨B, m, c, h4, h5.below hb⟩
theorem Bs.grown {w w' : World} {A : Option Addr} {n g : Nat} {xs : List UInt8} (h : Bs w A n xs) (hg : w.grownBy w' (some g)) (hne : ∀ b off, A = some ⟨b, off, none⟩ → b ≠ g) : Bs w' A n xs := by
  refine ⟨h.1, ?_⟩
  rcases h.2 with h0 | ⟨b, off, hA, hc⟩
  · exact .inl h0
  · exact .inr ⟨b, off, hA, fun j u hu => hg.cell (hc j u hu) (by simpa using hne b off hA)⟩
/-- 's[k:]' as the model has it: at k = cap the address stays. -/
theorem Bs.cut {w : World} {A : Option Addr} {n cap : Nat} {xs : List UInt8} (h : Bs w A n xs) {k : Nat} (hk : k ≤ n) (_hc : n ≤ cap) : Bs w (if cap = k then A else A.map (·.add k)) (n - k) (xs.drop k) := by
  refine ⟨by rw [List.length_drop, h.1], ?_⟩
  by_cases hz : n = k
  · exact .inl (by simp [List.drop_of_length_le (by rw [h.1]; omega : xs.length ≤ k)])
  · rcases h.2 with h0 | ⟨b, off, rfl, hc⟩
    · exact .inl (by simp at h0; simp [h0])
    · rw [if_neg (by omega)]
      refine .inr ⟨b, off + k, by rw [Option.map_some, add_lit], fun j u hu => ?_⟩
      have := hc (k + j) u (by rw [← hu, List.map_drop, List.getElem?_drop])
      rw [← Nat.add_assoc] at this
      exact this
theorem Bs.take {w : World} {A : Option Addr} {n : Nat} {xs : List UInt8} (h : Bs w A n xs) {k : Nat} (hk : k ≤ n) : Bs w A k (xs.take k) := by
  refine ⟨by rw [List.length_take, h.1]; omega, ?_⟩
  rcases h.2 with h0 | ⟨b, off, rfl, hc⟩
  · exact .inl (by simp at h0; simp [h0])
  · refine .inr ⟨b, off, rfl, fun j u hu => hc j u ?_⟩
    rw [List.map_take, List.getElem?_take] at hu
    split at hu
    · exact hu
    · cases hu
end
section
open Go.RowKit

theorem own_cap {w : World} {base n c : Nat} {e : TypeId} {A : Option Addr} {xs : List Value} (h : w.ownsRow base e 1 (.slice A n c) n xs) : n ≤ c := by
  rcases h.2 with ⟨hv, rfl⟩ | ⟨g, cap, cur, hv, _, _, hc, _⟩
  · omega
  · injection hv with _ _ hv; omega

/-- Bytes in a block that is filled from its head. -/
def bys (l : List UInt8) : Array Value := (l.map bv).toArray
def zbs (n : Nat) : List UInt8 := List.replicate n 0
end
end Go.Proofs.YtpgalbgonmclaaaGreat
