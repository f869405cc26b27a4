/- What stores, copies and appends do. No conditions: plain lemmas of the model. A scope with one label, its first pass by the relation; strings; more on rows. No conditions: plain lemmas of the model. -/
import Derived.Test.YtjllhimhiekchaaVc3
import Derived.Lib.SlBytesConst
import Derived.Lib.ConvBytes
namespace Go.Proofs.Ytjllhimhiekchaa
section
open Go.RowKit

/-- Of what was there only block g may have turned. -/
def Chg (w : World) (g : Nat) (w' : World) : Prop := w.grownBy w' (some g)
section
variable {w w' : World} {g : Nat}
theorem Ext.chg {w0 : World} (h : Ext w0 w) (k : Chg w g w') (hg : w0.heap.size ≤ g) : Ext w0 w' :=
  ⟨k.os.trans h.os, k.tape.trans h.tape, k.output.trans h.output, Nat.le_trans h.size k.size, fun i hi => (k.block i (Nat.lt_of_lt_of_le hi h.size) (by intro e; injection e with e; omega)).trans (h.block i hi)⟩
theorem _root_.Go.RowKit.Below.chg {w0 : World} (h : Ext w0 w) (k : Chg w g w') (hg : w0.heap.size ≤ g) : Ext w0 w' := Ext.chg h k hg
theorem Blk.chg {b : Nat} {t : TypeId} {cs : Array Value} (h : Blk w b t cs) (k : Chg w g w') (hne : b ≠ g) : Blk w' b t cs := h.grown k (by intro e; injection e with e; exact hne e)
theorem Bs.chg {A : Option Addr} {n : Nat} {xs : List UInt8} (h : Bs w A n xs) (k : Chg w g w') (hne : ∀ b off, A = some ⟨b, off, none⟩ → b ≠ g) : Bs w' A n xs := h.grown k hne
theorem Chg.ofExt (h : Ext w w') (g : Nat) : Chg w g w' := grown_below h (Nat.le_refl _) _
theorem Chg.tr {w'' : World} (h : Chg w g w') (k : Chg w' g w'') : Chg w g w'' :=
  ⟨k.os.trans h.os, k.tape.trans h.tape, k.output.trans h.output, Nat.le_trans h.size k.size, fun i hi hne => (k.block i (Nat.lt_of_lt_of_le hi h.size) hne).trans (h.block i hi hne)⟩
theorem Chg.refl (w : World) (g : Nat) : Chg w g w := Chg.ofExt (Ext.refl w) g
theorem chg_setCell (w : World) (g i : Nat) (v : Value) : Chg w g (w.setCell ⟨g, i, none⟩ v) := grown_set (World.grownBy.refl w _) (.inl rfl) v
theorem chg_setRow (w : World) (g : Nat) (cs : Array Value) : Chg w g (w.setRow g cs) :=
  ⟨rfl, rfl, rfl, by rw [size_setRow]; exact Nat.le_refl _, fun i _ hne => setRow_other w g i cs (by intro e; exact hne (by rw [e]))⟩
theorem Bs.wk {w0 : World} {A : Option Addr} {n : Nat} {xs : List UInt8} (h : Bs w0 A n xs) (E : Ext w0 w) : Bs w A n xs := h.below E
theorem Blk.get {b : Nat} {t : TypeId} {cs : Array Value} (h : Blk w b t cs) {i : Nat} {v : Value} (hv : cs[i]? = some v) : w.cell? ⟨b, i, none⟩ = some v := by rw [h.cell]; exact hv
/-- The cells of a row, read. -/
theorem Row.get {base : Nat} {e : TypeId} {A : Option Addr} {n c : Nat} {xs : List Value} (h : Row w base e A n c xs) {i : Nat} (hi : i < n) : ∃ g v, A = some ⟨g, 0, none⟩ ∧ xs[i]? = some v ∧ w.cell? ⟨g, 0 + i, none⟩ = some v ∧ base ≤ g ∧ g < w.heap.size ∧ w.frozen? ⟨g, 0 + i, none⟩ = false := by
  have hl := h.len
  obtain ⟨g, cap, hv, h1, h2⟩ := World.ownsRow.form h (by omega)
  injection hv with hv _ _
  subst hv
  have hx : xs[i]? = some xs[i] := List.getElem?_eq_getElem (by omega)
  refine ⟨g, xs[i], rfl, hx, ?_, h1, h2, World.ownsRow.frozenAt h (0 + i)⟩
  obtain ⟨b, off, hA, _, hc⟩ := (Row.at h).get (k := i) (by omega)
  injection hA with hA
  injection hA with hb ho _
  subst hb; subst ho
  exact hc
theorem Row.lt {base : Nat} {e : TypeId} {n c : Nat} {xs : List Value} {off : Nat} (h : Row w base e (some ⟨g, off, none⟩) n c xs) : base ≤ g ∧ g < w.heap.size := World.ownsRow.lt h g rfl
theorem Row.chg {base k : Nat} {e : TypeId} {A : Option Addr} {n c : Nat} {xs : List Value} (h : Row w base e A n c xs) (cg : Chg w k w') (hne : ∀ b off, A = some ⟨b, off, none⟩ → b ≠ k) : Row w' base e A n c xs := by
  refine World.ownsRow.kept (row := some k) h cg ?_
  rcases h.2 with ⟨hv, _⟩ | ⟨g, cap, cur, hv, _⟩
  · injection hv with hA _ _; subst hA; exact .inl rfl
  · injection hv with hA _ _
    subst hA
    exact .inr (by intro e; injection e with e; exact hne g 0 rfl e)
theorem Row.cap {base : Nat} {e : TypeId} {A : Option Addr} {n c : Nat} {xs : List Value} (h : Row w base e A n c xs) : n ≤ c := own_cap h
end

section
variable {P : Program} {L : List (Nat × Value)} {w : World} {ty t e : TypeId} {x y : Operand}
theorem run_store1 {ad : Addr} {v old : Value} (h1 : v.oneCell' = true) (hs : (P.info? t).map (·.size) = some 1) (hc : w.cell? ad = some old) (hf : w.frozen? ad = false) : (Instr.storeAt t (.pointer (some ad)) v).run P w = .ok () (w.setCell ad v) := by
  have h0 : ad.add 0 = ad := by simp [Addr.add]
  have hst := run_store P w ad v .plain h1
  rw [hc] at hst
  simp only [hf] at hst
  simp [Instr.storeAt, Instr.sureAddr, storeVar, size_of_info hs, one_cells h1, storeCells, h0, hst]
theorem ef_store1 {ad : Addr} {v old : Value} (hx : ev L x = some (.pointer (some ad))) (hy : ev L y = some v) (h1 : v.oneCell' = true) (hs : (P.info? t).map (·.size) = some 1) (hc : w.cell? ad = some old) (hf : w.frozen? ad = false) :
    Ef P L w (.store t x y) ty fun u w' => u = undef ∧ w' = w.setCell ad v := Ef.runU fun ρ hρ => ⟨_, rfl, fun _ _ _ _ => by simp [execOp, hρ _ _ hx, hρ _ _ hy, run_store1 h1 hs hc hf]⟩
/-- A store into a block that is known whole. -/
theorem ef_storeB {g i : Nat} {cs : Array Value} {v : Value} (hx : ev L x = some (.pointer (some ⟨g, i, none⟩))) (hy : ev L y = some v) (h1 : v.oneCell' = true) (hs : (P.info? t).map (·.size) = some 1) (hg : Blk w g e cs) (hi : i < cs.size) :
    Ef P L w (.store t x y) ty fun u w' => u = undef ∧ Blk w' g e (cs.setIfInBounds i v) ∧ Chg w g w' :=
  (ef_store1 hx hy h1 hs (hg.get (Array.getElem?_eq_getElem hi)) (hg.frozen i)).mono fun _ w' ⟨hu, hw⟩ => ⟨hu, by subst hw; exact hg.set i v, by subst hw; exact chg_setCell w g i v⟩
/-- A store into a row that the call owns. -/
theorem ef_storeR {g i base n c : Nat} {xs : List Value} {v : Value} (hx : ev L x = some (.pointer (some ⟨g, 0 + i, none⟩))) (hy : ev L y = some v) (h1 : v.oneCell' = true) (hs : (P.info? t).map (·.size) = some 1) (hg : Row w base e (some ⟨g, 0, none⟩) n c xs) (hi : i < n) :
    Ef P L w (.store t x y) ty fun u w' => u = undef ∧ Row w' base e (some ⟨g, 0, none⟩) n c (xs.set i v) ∧ Chg w g w' := by
  obtain ⟨g', v', hA, _, hc, _, _, hf⟩ := hg.get hi
  injection hA with hA
  injection hA with hA _ _
  subst hA
  refine (ef_store1 hx hy h1 hs hc hf).mono fun _ w' ⟨hu, hw⟩ => ?_
  subst hw
  rw [Nat.zero_add]
  obtain ⟨r1, r2⟩ := World.ownsRow.stored hg i v
  exact ⟨hu, r1, r2⟩
/-- A whole array or struct put into a block of its size. -/
theorem ef_storeW {g : Nat} {old cells : Array Value} (hx : ev L x = some (.pointer (some ⟨g, 0, none⟩))) (hy : ev L y = some (.agg cells)) (hs : (P.info? t).map (·.size) = some cells.size) (hg : Blk w g e old) (ho : old.size = cells.size) (h1 : cells.all (·.oneCell') = true) :
    Ef P L w (.store t x y) ty fun u w' => u = undef ∧ Blk w' g e cells ∧ Chg w g w' := by
  have hr := run_storeVar_row (P := P) w g e t old cells hg hs ho h1
  exact (Ef.runU (Φ := fun w' => w' = w.setRow g cells) fun ρ hρ => ⟨_, rfl, fun _ _ _ _ => by simp [execOp, hρ _ _ hx, hρ _ _ hy, Instr.storeAt, Instr.sureAddr, hr]⟩).mono fun _ w' ⟨hu, hw⟩ => ⟨hu, by subst hw; exact hg.row _, by subst hw; exact chg_setRow w g cells⟩
/-- 'copy(d, s)', d a cut of a block that is known whole. -/
theorem ef_copy {g o dLen dCap m c : Nat} {A : Option Addr} {cur : Array Value} {cs : List Value} {tb dT sT : TypeId} (hx : ev L x = some (.slice (some ⟨g, o, none⟩) dLen dCap)) (hy : ev L y = some (.slice A m c)) (hu : P.underlying dT = some (.slice e)) (hs : (P.info? e).map (·.size) = some 1)
    (hg : Blk w g tb cur) (hr : At w A cs) (hn : cs.length = Nat.min m dLen) (hfit : o + cs.length ≤ cur.size) (h1 : ∀ v ∈ cs, v.oneCell' = true) :
    Ef P L w (.call { callee := .builtin .copy, args := #[x, y], argTypes := #[dT, sT] }) ty fun u w' => u = .int .i64 (cs.length : Int) ∧ Blk w' g tb (cur.toList.take o ++ cs ++ cur.toList.drop (o + cs.length)).toArray ∧ Chg w g w' := by
  have hrun := run_copy_any (P := P) w dT sT ty e g o dLen dCap A m c cur tb cs hu hs hg hr hn hfit h1
  refine (Ef.run (Φ := fun u w' => u = .int .i64 (cs.length : Int) ∧ w' = w.setRow g (cur.toList.take o ++ cs ++ cur.toList.drop (o + cs.length)).toArray) fun ρ hρ => ⟨_, _, ⟨rfl, rfl⟩, fun _ _ _ _ => by simp [execOp, resolve, invoke, builtin, hρ _ _ hx, hρ _ _ hy, hrun]⟩).mono fun _ w' ⟨hu, hw⟩ => ⟨hu, by subst hw; exact hg.row _, by subst hw; exact chg_setRow w g _⟩
/-- 'append(s, x...)', s a row that the call owns. -/
def Apd (w : World) (base : Nat) (e : TypeId) (A : Option Addr) (n c : Nat) (xs : List Value) (v : Value) (w' : World) : Prop :=
  ∃ A' c', v = .slice A' n c' ∧ Row w' base e A' n c' xs ∧ Below base w w' ∧ w.grownBy w' (Value.slice A n c).ownBlock ∧ ((Value.slice A' n c').ownBlock = (Value.slice A n c).ownBlock ∨ (Value.slice A' n c').ownBlock = some w.heap.size)
theorem ef_app {A B : Option Addr} {n m c c2 base bytes : Nat} {xs ys : List Value} (hx : ev L x = some (.slice A n c)) (hy : ev L y = some (.slice B m c2)) (hE : Elt P t e bytes) (hown : Row w base e A n c xs) (hr : At w B ys) (hl : ys.length = m) (h1 : ∀ u ∈ ys, u.oneCell' = true)
    (hlen : (n + m) * bytes ≤ 140737488355328) (h63 : n + m ≤ 140737488355328) (hbase : base ≤ w.heap.size) : Ef P L w (.call { callee := .builtin .append, args := #[x, y], argTypes := #[t, t] }) ty (Apd w base e A (n + m) c (xs ++ ys)) := Ef.run fun ρ hρ => by
  obtain ⟨v', w', hrun, h2, h3, h4, h5⟩ := run_append (P := P) (w0 := w) base t ty e bytes hE (.slice A n c) n xs hown B m c2 ys hl hr h1 hlen h63 (Below.refl _ _) hbase
  obtain ⟨A', c', rfl⟩ := own_shape h2
  refine ⟨_, w', ⟨A', c', rfl, h2, h3, ?_, ?_⟩, fun _ _ _ _ => by simp [execOp, resolve, invoke, builtin, hρ _ _ hx, hρ _ _ hy, hrun]⟩
  · have : (Value.slice A n c).ownBlock = (Value.slice A (n + m) c).ownBlock := by cases A <;> rfl
    rw [← this]; exact h4
  · have : (Value.slice A n c).ownBlock = (Value.slice A (n + m) c).ownBlock := by cases A <;> rfl
    rw [← this]; exact h5
end
/-- Slices of bytes in a new row. -/
theorem bss_one {w : World} {g : Nat} {t : TypeId} {A : Option Addr} {n c : Nat} {xs : List UInt8} (B : Blk w g t ([.slice A n c] : List Value).toArray) (h : Bs w A n xs) : Bss w (some ⟨g, 0, none⟩) 1 [xs] :=
  ⟨rfl, [.slice A n c], rfl, B.at 0 _ (fun j u hu => by rw [Nat.zero_add]; simpa using hu), fun i hi => by
    match i, hi with
    | 0, _ => exact ⟨A, n, c, rfl, h⟩⟩
theorem bss_two {w : World} {g : Nat} {t : TypeId} {A A' : Option Addr} {n c n' c' : Nat} {xs xs' : List UInt8} (B : Blk w g t ([.slice A n c, .slice A' n' c'] : List Value).toArray) (h : Bs w A n xs) (h' : Bs w A' n' xs') : Bss w (some ⟨g, 0, none⟩) 2 [xs, xs'] :=
  ⟨rfl, [.slice A n c, .slice A' n' c'], rfl, B.at 0 _ (fun j u hu => by rw [Nat.zero_add]; simpa using hu), fun i hi => by
    match i, hi with
    | 0, _ => exact ⟨A, n, c, rfl, h⟩
    | 1, _ => exact ⟨A', n', c', rfl, h'⟩⟩
theorem bss_three {w : World} {g : Nat} {t : TypeId} {A A' A2 : Option Addr} {n c n' c' n2 c2 : Nat} {xs xs' xs2 : List UInt8} (B : Blk w g t ([.slice A n c, .slice A' n' c', .slice A2 n2 c2] : List Value).toArray) (h : Bs w A n xs) (h' : Bs w A' n' xs') (h2 : Bs w A2 n2 xs2) : Bss w (some ⟨g, 0, none⟩) 3 [xs, xs', xs2] :=
  ⟨rfl, [.slice A n c, .slice A' n' c', .slice A2 n2 c2], rfl, B.at 0 _ (fun j u hu => by rw [Nat.zero_add]; simpa using hu), fun i hi => by
    match i, hi with
    | 0, _ => exact ⟨A, n, c, rfl, h⟩
    | 1, _ => exact ⟨A', n', c', rfl, h'⟩
    | 2, _ => exact ⟨A2, n2, c2, rfl, h2⟩⟩
theorem bs_blk' {w : World} {g n : Nat} {t : TypeId} {xs : List UInt8} (h : Blk w g t (bys xs)) (hn : xs.length = n) : Bs w (some ⟨g, 0, none⟩) n xs :=
  ⟨hn, h.at 0 _ (fun j u hu => by rw [Nat.zero_add]; simpa [bys] using hu)⟩
theorem Bs.nil (w : World) (A : Option Addr) : Bs w A 0 [] := ⟨rfl, .inl rfl⟩
theorem Blk.congr {w : World} {g : Nat} {t : TypeId} {cs cs' : Array Value} (h : Blk w g t cs) (e : cs = cs') : Blk w g t cs' := e ▸ h
section
variable {P : Program} {L : List (Nat × Value)} {w : World} {ty t e : TypeId} {x y : Operand}
end
/-- Two rows that lie apart. -/
def Dj (A B : Option Addr) : Prop := ∀ b o b' o', A = some ⟨b, o, none⟩ → B = some ⟨b', o', none⟩ → b ≠ b'
theorem Dj.symm {A B : Option Addr} (h : Dj A B) : Dj B A := fun b o b' o' h1 h2 e => h b' o' b o h2 h1 e.symm
/-- What an append to one row leaves of another. -/
theorem Row.app {w w' : World} {base2 : Nat} {e2 : TypeId} {A A' B : Option Addr} {n c n' c' m d : Nat} {ys : List Value} (h : Row w base2 e2 B m d ys) (hd : Dj A B) (hg : w.grownBy w' (Value.slice A n c).ownBlock)
    (hl : (Value.slice A' n' c').ownBlock = (Value.slice A n c).ownBlock ∨ (Value.slice A' n' c').ownBlock = some w.heap.size) (hA : ∀ b o s, A = some ⟨b, o, s⟩ → s = none) : Row w' base2 e2 B m d ys ∧ Dj A' B := by
  constructor
  · refine World.ownsRow.kept (row := (Value.slice A n c).ownBlock) h hg ?_
    rcases h.2 with ⟨hv, _⟩ | ⟨g, cap, cur, hv, _⟩
    · injection hv with hB _ _; subst hB; exact .inl rfl
    · injection hv with hB _ _
      subst hB
      cases A with
      | none => exact .inr (by simp [Value.ownBlock])
      | some a =>
        obtain ⟨b, o, s⟩ := a
        have := hA b o s rfl
        subst this
        exact .inr (by simp only [Value.ownBlock]; intro e; injection e with e; exact hd b o g 0 rfl rfl e.symm)
  · intro b o b' o' h1 h2 hbb
    subst h1; subst h2; subst hbb
    have hlt : b < w.heap.size := (Row.lt h).2
    rcases hl with hl | hl
    · cases A with
      | none => simp [Value.ownBlock] at hl
      | some a =>
        obtain ⟨b2, o2, s⟩ := a
        have := hA b2 o2 s rfl
        subst this
        simp only [Value.ownBlock, Option.some.injEq] at hl
        exact hd b2 o2 b o' rfl rfl hl.symm
    · simp only [Value.ownBlock, Option.some.injEq] at hl
      omega
theorem Row.none_s {w : World} {base : Nat} {e : TypeId} {A : Option Addr} {n c : Nat} {xs : List Value} (h : Row w base e A n c xs) (b o : Nat) (s) (hA : A = some ⟨b, o, s⟩) : s = none := by
  rcases h.2 with ⟨hv, _⟩ | ⟨g, cap, cur, hv, _⟩
  · injection hv with hB _ _; subst hB; cases hA
  · injection hv with hB _ _; subst hB; injection hA with hA; injection hA with _ _ hs; exact hs.symm
theorem Row.bs {w : World} {base : Nat} {e : TypeId} {A : Option Addr} {n c : Nat} {xs : List UInt8} (h : Row w base e A n c (xs.map bv)) : Bs w A n xs := ⟨by have := h.len; simpa using this, Row.at h⟩
theorem Row.cat {w : World} {base : Nat} {e : TypeId} {A : Option Addr} {n c : Nat} {xs ys : List UInt8} (h : Row w base e A n c (xs.map bv ++ ys.map bv)) : Row w base e A n c ((xs ++ ys).map bv) := by rw [List.map_append]; exact h
theorem At.blk {w : World} {g : Nat} {t : TypeId} {vs : List Value} (B : Blk w g t vs.toArray) : At w (some ⟨g, 0, none⟩) vs := B.at 0 _ (fun j u hu => by rw [Nat.zero_add]; simpa using hu)
theorem Row.congr {w : World} {base : Nat} {e : TypeId} {A : Option Addr} {n c n' : Nat} {xs ys : List Value} (h : Row w base e A n c xs) (hn : n = n') (hx : xs = ys) : Row w base e A n' c ys := by subst hn; subst hx; exact h
theorem Row.byte {w : World} {base : Nat} {e : TypeId} {A : Option Addr} {n c : Nat} {xs : List UInt8} (h : Row w base e A n c (xs.map bv)) {i : Nat} (hi : i < n) : ∃ g, A = some ⟨g, 0, none⟩ ∧ w.cell? ⟨g, 0 + i, none⟩ = some (.int .u8 ((xs.getD i 0).toNat : Int)) ∧ base ≤ g ∧ g < w.heap.size := by
  obtain ⟨g, v, hA, hx, hc, h1, h2, _⟩ := h.get hi
  refine ⟨g, hA, ?_, h1, h2⟩
  have hl : i < xs.length := by have := h.len; simp at this; omega
  rw [hc, ← hx]
  simp [hl, bv]
theorem ret_bool {p q : Prop} [Decidable p] [Decidable q] (h : p ↔ q) : Ending.returned (.bool (decide p)) = .returned (.bool (decide q)) := by
  rw [decide_eq_decide.2 h]
theorem ret_bool_of {b : Bool} {q : Prop} [Decidable q] (h : b = true ↔ q) : Ending.returned (.bool b) = .returned (.bool (decide q)) := by
  cases b <;> simp_all
end
section
open Go.RowKit
section
variable {P : Program} {Q : Exit → Act → World → Prop} {N : Nd} {L : List (Nat × Value)} {w : World}
/-- A scope with jumps back to one label: what stands behind the label is walked once. -/
theorem wc_scope2 {c rest : Code} (l : Nat) (J : Nat → List (Nat × Value) → World → Prop) (hf : findLabel c l = some (Code.skip.seq rest))
    (pass : ∀ (G : Act → World → Prop) (n : Nat) (L : List (Nat × Value)) (w : World), J n L w → (∀ {L1 : List (Nat × Value)} {w' : World} (n' : Nat) (L' : List (Nat × Value)), J n' L' w' → n' < n → allIn L1 L' → WK G N L1 w') → WC P (Exit.jump l G Q) rest N L w)
    (first : ∀ (G : Act → World → Prop), (∀ {L1 : List (Nat × Value)} {w' : World} (n' : Nat) (L' : List (Nat × Value)), J n' L' w' → allIn L1 L' → WC P (Exit.jump l G Q) rest N L1 w') → WC P (Exit.jump l G Q) c N L w) :
    WC P Q (.scope c) N L w := by
  intro a ha
  refine wp_scope_jumps l (fun a w => ∃ n L, Fr N L a ∧ J n L w) (fun a w => leastOf fun n => ∃ L, Fr N L a ∧ J n L w) hf ?_ ?_
  · exact first _ (fun n' L' hJ hin a' ha' => pass (fun a' w' => ∃ n1 L1, Fr N L1 a' ∧ J n1 L1 w') n' L' _ hJ (fun n1 L1 hJ1 _ hin1 a1 ha1 => ⟨n1, L1, ha1.sub hin1, hJ1⟩) a' (ha'.sub hin)) a ha
  · rintro a w ⟨n0, L0, h0⟩
    obtain ⟨⟨L, ha, hJ⟩, hmin⟩ := leastOf_spec (p := fun n => ∃ L, Fr N L a ∧ J n L w) ⟨n0, L0, h0⟩
    refine wp_seq (wp_skip ?_)
    refine wp_mono (pass (fun a' w' => ∃ n', n' < leastOf (fun n => ∃ L, Fr N L a ∧ J n L w) ∧ ∃ L', Fr N L' a' ∧ J n' L' w') _ L w hJ (fun n' L' hJ' hn hin a' ha' => ⟨n', hn, L', ha'.sub hin, hJ'⟩) a ha) ?_
    intro e a' w' hq
    cases e with
    | goto l' =>
      obtain ⟨e1, n', hlt, L', ha', hJ'⟩ := hq
      have hs := leastOf_spec (p := fun n => ∃ L, Fr N L a' ∧ J n L w') ⟨n', L', ha', hJ'⟩
      exact ⟨e1, ⟨n', L', ha', hJ'⟩, Nat.lt_of_le_of_lt (hs.2 n' ⟨L', ha', hJ'⟩) hlt⟩
    | normal => exact hq
    | exit id => exact hq
    | ret => exact hq
    | panic ch => exact hq
    | outgrown => exact hq
end
section
variable {P : Program} {L : List (Nat × Value)} {w : World} {ty t t' e : TypeId} {x y : Operand}
end
/-- What an append to one row leaves of bytes elsewhere. -/
theorem Bs.app {w w' : World} {A B : Option Addr} {n c m : Nat} {ys : List UInt8} (h : Bs w B m ys) (hd : Dj A B) (hg : w.grownBy w' (Value.slice A n c).ownBlock) (hA : ∀ b o s, A = some ⟨b, o, s⟩ → s = none) : Bs w' B m ys := by
  cases A with
  | none =>
    refine ⟨h.1, ?_⟩
    rcases h.2 with h0 | ⟨b, off, hB, hc⟩
    · exact .inl h0
    · exact .inr ⟨b, off, hB, fun j u hu => by
        have h1 := hc j u hu
        rw [World.cell?_of_block (w := w) (hg.block b (cell_lt h1) (by simp [Value.ownBlock]))]
        exact h1⟩
  | some a =>
    obtain ⟨b, o, s⟩ := a
    have := hA b o s rfl
    subst this
    exact h.grown hg (fun b' off hB e => hd b o b' off rfl hB e.symm)
end
end Go.Proofs.Ytjllhimhiekchaa
