/- slices.Clone, Grow (of nil) and Concat, of bytes: what each hands back, in new memory. Lengths up to 2^46. -/
import Derived.Test.YtgfafidlkldeaaaGreatVc3
import Derived.Lib.SlBytesConst
import Derived.Lib.ConvBytes
import Derived.Laws.BitsAllLaws
import Derived.Test.YtgfafidlkldeaaaGreatLib
import Derived.Test.YtgfafidlkldeaaaGreatRow
import Derived.Lib.SliceRun
import Derived.Lib.AppendZeros
set_option linter.unusedVariables false
set_option linter.unusedSimpArgs false
namespace Go.Proofs.YtgfafidlkldeaaaGreat
section
section
open Go.RowKit
def j7 (w : World) (g : Nat) (w' : World) : Prop := w.grownBy w' (some g)
section
variable {w w' : World} {g : Nat}
theorem Ext.aw {w0 : World} (h : Ext w0 w) (k : j7 w g w') (hg : w0.heap.size ≤ g) : Ext w0 w' :=
 ⟨k.os.trans h.os, k.tape.trans h.tape, k.output.trans h.output, Nat.le_trans h.size k.size, fun i hi => (k.block i (Nat.lt_of_lt_of_le hi h.size) (by intro e; injection e with e; omega)).trans (h.block i hi)⟩
theorem _root_.Go.RowKit.Below.aw {w0 : World} (h : Ext w0 w) (k : j7 w g w') (hg : w0.heap.size ≤ g) : Ext w0 w' := Ext.aw h k hg
theorem ao.aw {b : Nat} {t : TypeId} {cs : Array Value} (h : ao w b t cs) (k : j7 w g w') (hne : b ≠ g) : ao w' b t cs := h.grown k (by intro e; injection e with e; exact hne e)
theorem Bs.aw {A : Oa} {n : Nat} {xs : Lb} (h : Bs w A n xs) (k : j7 w g w') (hne : ∀ b off, A = some ⟨b, off, none⟩ → b ≠ g) : Bs w' A n xs := h.grown k hne
theorem j7.Ax (h : Ext w w') (g : Nat) : j7 w g w' := ny h (Nat.le_refl _) _
theorem j7.tr {w'' : World} (h : j7 w g w') (k : j7 w' g w'') : j7 w g w'' :=
 ⟨k.os.trans h.os, k.tape.trans h.tape, k.output.trans h.output, Nat.le_trans h.size k.size, fun i hi hne => (k.block i (Nat.lt_of_lt_of_le hi h.size) hne).trans (h.block i hi hne)⟩
theorem uT (w : World) (g i : Nat) (v : Value) : j7 w g (w.setCell ⟨g, i, none⟩ v) := qw (World.grownBy.refl w _) (.inl rfl) v
theorem kZ (w : World) (g : Nat) (cs : Array Value) : j7 w g (w.setRow g cs) :=
 ⟨rfl, rfl, rfl, by rw [size_setRow]; exact Nat.le_refl _, fun i _ hne => setRow_other w g i cs (by intro e; exact hne (by rw [e]))⟩
theorem Bs.wk {w0 : World} {A : Oa} {n : Nat} {xs : Lb} (h : Bs w0 A n xs) (E : Ext w0 w) : Bs w A n xs := h.below E
theorem ao.get {b : Nat} {t : TypeId} {cs : Array Value} (h : ao w b t cs) {i : Nat} {v : Value} (hv : cs[i]? = some v) : w.cell? ⟨b, i, none⟩ = some v := by rw [h.cell]; exact hv
theorem Row.get {base : Nat} {e : TypeId} {A : Oa} {n c : Nat} {xs : List Value} (h : Row w base e A n c xs) {i : Nat} (hi : i < n) : ∃ g v, A = some ⟨g, 0, none⟩ ∧ xs[i]? = some v ∧ w.cell? ⟨g, 0 + i, none⟩ = some v ∧ base ≤ g ∧ g < w.heap.size ∧ w.frozen? ⟨g, 0 + i, none⟩ = false := by
 have hl := h.len
 obtain ⟨g, cap, hv, h1, h2⟩ := World.ownsRow.form h Om
 injection hv with hv _ _
 subst hv
 have hx : xs[i]? = some xs[i] := List.getElem?_eq_getElem Om
 refine ⟨g, xs[i], rfl, hx, ?_, h1, h2, World.ownsRow.frozenAt h (0 + i)⟩
 obtain ⟨b, off, hA, _, hc⟩ := (Row.at h).get (k := i) Om
 injection hA with hA
 injection hA with hb ho _
 subst hb; subst ho
 exact hc
theorem Row.lt {base : Nat} {e : TypeId} {n c : Nat} {xs : List Value} {off : Nat} (h : Row w base e (some ⟨g, off, none⟩) n c xs) : base ≤ g ∧ g < w.heap.size := World.ownsRow.lt h g rfl
theorem Row.aw {base k : Nat} {e : TypeId} {A : Oa} {n c : Nat} {xs : List Value} (h : Row w base e A n c xs) (cg : j7 w k w') (hne : ∀ b off, A = some ⟨b, off, none⟩ → b ≠ k) : Row w' base e A n c xs := by
 refine World.ownsRow.kept (row := some k) h cg ?_
 rcases h.2 with ⟨hv, _⟩ | ⟨g, cap, cur, hv, _⟩
 ·injection hv with hA _ _; subst hA; exact .inl rfl
 ·injection hv with hA _ _
  subst hA
  exact .inr (by intro e; injection e with e; exact hne g 0 rfl e)
theorem Row.cap {base : Nat} {e : TypeId} {A : Oa} {n c : Nat} {xs : List Value} (h : Row w base e A n c xs) : n ≤ c := xy h
end
section
variable {P : Program} {L : List (Nat × Value)} {w : World} {ty t e : TypeId} {x y : Operand}
theorem xg {ad : Addr} {v old : Value} (h1 : v.oneCell' = true) (hs : (P.info? t).map (·.size) = some 1) (hc : w.cell? ad = some old) (hf : w.frozen? ad = false) : (Instr.storeAt t (.pointer (some ad)) v).run P w = .ok () (w.setCell ad v) := by
 have h0 : ad.add 0 = ad := by simp [Addr.add]
 have hst := run_store P w ad v .plain h1
 rw [hc] at hst
 simp only [hf] at hst
 simp [Instr.storeAt, Instr.sureAddr, storeVar, bo hs, jX h1, storeCells, h0, hst]
theorem qv {ad : Addr} {v old : Value} (hx : ev L x = some (.pointer (some ad))) (hy : ev L y = some v) (h1 : v.oneCell' = true) (hs : (P.info? t).map (·.size) = some 1) (hc : w.cell? ad = some old) (hf : w.frozen? ad = false) :
  Ef P L w (.store t x y) ty fun u w' => u = undef ∧ w' = w.setCell ad v := Ef.JA fun ρ hρ => ⟨_, rfl, fun _ _ _ _ => by simp [execOp, hρ _ _ hx, hρ _ _ hy, xg h1 hs hc hf]⟩
theorem az {g i : Nat} {cs : Array Value} {v : Value} (hx : ev L x = some (.pointer (some ⟨g, i, none⟩))) (hy : ev L y = some v) (h1 : v.oneCell' = true) (hs : (P.info? t).map (·.size) = some 1) (hg : ao w g e cs) (hi : i < cs.size) :
  Ef P L w (.store t x y) ty fun u w' => u = undef ∧ ao w' g e (cs.setIfInBounds i v) ∧ j7 w g w' :=
 (qv hx hy h1 hs (hg.get (Array.getElem?_eq_getElem hi)) (hg.frozen i)).mono fun _ w' ⟨hu, hw⟩ => ⟨hu, by subst hw; exact hg.set i v, by subst hw; exact uT w g i v⟩
theorem jR {g i base n c : Nat} {xs : List Value} {v : Value} (hx : ev L x = some (.pointer (some ⟨g, 0 + i, none⟩))) (hy : ev L y = some v) (h1 : v.oneCell' = true) (hs : (P.info? t).map (·.size) = some 1) (hg : Row w base e (some ⟨g, 0, none⟩) n c xs) (hi : i < n) :
  Ef P L w (.store t x y) ty fun u w' => u = undef ∧ Row w' base e (some ⟨g, 0, none⟩) n c (xs.set i v) ∧ j7 w g w' := by
 obtain ⟨g', v', hA, _, hc, _, _, hf⟩ := hg.get hi
 injection hA with hA
 injection hA with hA _ _
 subst hA
 refine (qv hx hy h1 hs hc hf).mono fun _ w' ⟨hu, hw⟩ => ?_
 subst hw
 rw [Nat.zero_add]
 obtain ⟨r1, r2⟩ := World.ownsRow.stored hg i v
 exact ⟨hu, r1, r2⟩
theorem ag {g : Nat} {old cells : Array Value} (hx : ev L x = some (.pointer (some ⟨g, 0, none⟩))) (hy : ev L y = some (.agg cells)) (hs : (P.info? t).map (·.size) = some cells.size) (hg : ao w g e old) (ho : old.size = cells.size) (h1 : cells.all (·.oneCell') = true) :
  Ef P L w (.store t x y) ty fun u w' => u = undef ∧ ao w' g e cells ∧ j7 w g w' := by
 have hr := run_storeVar_row (P := P) w g e t old cells hg hs ho h1
 exact (Ef.JA (Φ := fun w' => w' = w.setRow g cells) fun ρ hρ => ⟨_, rfl, fun _ _ _ _ => by simp [execOp, hρ _ _ hx, hρ _ _ hy, Instr.storeAt, Instr.sureAddr, hr]⟩).mono fun _ w' ⟨hu, hw⟩ => ⟨hu, by subst hw; exact hg.row _, by subst hw; exact kZ w g cells⟩
theorem fz {g o dLen dCap m c : Nat} {A : Oa} {cur : Array Value} {cs : List Value} {tb dT sT : TypeId} (hx : ev L x = some (.slice (some ⟨g, o, none⟩) dLen dCap)) (hy : ev L y = some (.slice A m c)) (hu : P.underlying dT = some (.slice e)) (hs : (P.info? e).map (·.size) = some 1)
  (hg : ao w g tb cur) (hr : At w A cs) (hn : cs.length = Nat.min m dLen) (hfit : o + cs.length ≤ cur.size) (h1 : ∀ v ∈ cs, v.oneCell' = true) :
  Ef P L w (.call { callee := .builtin .copy, args := #[x, y], argTypes := #[dT, sT] }) ty fun u w' => u = .int .i64 (cs.length : Int) ∧ ao w' g tb (cur.toList.take o ++ cs ++ cur.toList.drop (o + cs.length)).toArray ∧ j7 w g w' := by
 have hrun := lN (P := P) w dT sT ty e g o dLen dCap A m c cur tb cs hu hs hg hr hn hfit h1
 refine (Ef.run (Φ := fun u w' => u = .int .i64 (cs.length : Int) ∧ w' = w.setRow g (cur.toList.take o ++ cs ++ cur.toList.drop (o + cs.length)).toArray) fun ρ hρ => ⟨_, _, ⟨rfl, rfl⟩, fun _ _ _ _ => by simp [execOp, resolve, invoke, builtin, hρ _ _ hx, hρ _ _ hy, hrun]⟩).mono fun _ w' ⟨hu, hw⟩ => ⟨hu, by subst hw; exact hg.row _, by subst hw; exact kZ w g _⟩
def ND (w : World) (base : Nat) (e : TypeId) (A : Oa) (n c : Nat) (xs : List Value) (v : Value) (w' : World) : Prop :=
 ∃ A' c', v = .slice A' n c' ∧ Row w' base e A' n c' xs ∧ Below base w w' ∧ w.grownBy w' (Value.slice A n c).ownBlock ∧ ((Value.slice A' n c').ownBlock = (Value.slice A n c).ownBlock ∨ (Value.slice A' n c').ownBlock = some w.heap.size)
theorem aQ {A B : Oa} {n m c c2 base bytes : Nat} {xs ys : List Value} (hx : ev L x = some (.slice A n c)) (hy : ev L y = some (.slice B m c2)) (hE : vm P t e bytes) (hown : Row w base e A n c xs) (hr : At w B ys) (hl : ys.length = m) (h1 : ∀ u ∈ ys, u.oneCell' = true)
  (hlen : (n + m) * bytes ≤ 140737488355328) (h63 : n + m ≤ 140737488355328) (hbase : base ≤ w.heap.size) : Ef P L w (.call { callee := .builtin .append, args := #[x, y], argTypes := #[t, t] }) ty (ND w base e A (n + m) c (xs ++ ys)) := Ef.run fun ρ hρ => by
 obtain ⟨v', w', hrun, h2, h3, h4, h5⟩ := oT (P := P) (w0 := w) base t ty e bytes hE (.slice A n c) n xs hown B m c2 ys hl hr h1 hlen h63 (Below.refl _ _) hbase
 obtain ⟨A', c', rfl⟩ := mN h2
 refine ⟨_, w', ⟨A', c', rfl, h2, h3, ?_, ?_⟩, fun _ _ _ _ => by simp [execOp, resolve, invoke, builtin, hρ _ _ hx, hρ _ _ hy, hrun]⟩
 ·have : (Value.slice A n c).ownBlock = (Value.slice A (n + m) c).ownBlock := by cases A <;> rfl
  rw [← this]; exact h4
 ·have : (Value.slice A n c).ownBlock = (Value.slice A (n + m) c).ownBlock := by cases A <;> rfl
  rw [← this]; exact h5
end
theorem lH {w : World} {g : Nat} {t : TypeId} {A : Oa} {n c : Nat} {xs : Lb} (B : ao w g t ([.slice A n c] : List Value).toArray) (h : Bs w A n xs) : sN w (some ⟨g, 0, none⟩) 1 [xs] :=
 ⟨rfl, [.slice A n c], rfl, B.at 0 _ (fun j u hu => by rw [Nat.zero_add]; simpa using hu), fun i hi => by
  match i, hi with
  | 0, _ => exact ⟨A, n, c, rfl, h⟩⟩
theorem lP {w : World} {g : Nat} {t : TypeId} {A A' : Oa} {n c n' c' : Nat} {xs xs' : Lb} (B : ao w g t ([.slice A n c, .slice A' n' c'] : List Value).toArray) (h : Bs w A n xs) (h' : Bs w A' n' xs') : sN w (some ⟨g, 0, none⟩) 2 [xs, xs'] :=
 ⟨rfl, [.slice A n c, .slice A' n' c'], rfl, B.at 0 _ (fun j u hu => by rw [Nat.zero_add]; simpa using hu), fun i hi => by
  match i, hi with
  | 0, _ => exact ⟨A, n, c, rfl, h⟩
  | 1, _ => exact ⟨A', n', c', rfl, h'⟩⟩
theorem jL {w : World} {g : Nat} {t : TypeId} {A A' A2 : Oa} {n c n' c' n2 c2 : Nat} {xs xs' xs2 : Lb} (B : ao w g t ([.slice A n c, .slice A' n' c', .slice A2 n2 c2] : List Value).toArray) (h : Bs w A n xs) (h' : Bs w A' n' xs') (h2 : Bs w A2 n2 xs2) : sN w (some ⟨g, 0, none⟩) 3 [xs, xs', xs2] :=
 ⟨rfl, [.slice A n c, .slice A' n' c', .slice A2 n2 c2], rfl, B.at 0 _ (fun j u hu => by rw [Nat.zero_add]; simpa using hu), fun i hi => by
  match i, hi with
  | 0, _ => exact ⟨A, n, c, rfl, h⟩
  | 1, _ => exact ⟨A', n', c', rfl, h'⟩
  | 2, _ => exact ⟨A2, n2, c2, rfl, h2⟩⟩
theorem aZ {w : World} {g n : Nat} {t : TypeId} {xs : Lb} (h : ao w g t (cJ xs)) (hn : xs.length = n) : Bs w (some ⟨g, 0, none⟩) n xs :=
 ⟨hn, h.at 0 _ (fun j u hu => by rw [Nat.zero_add]; simpa [cJ] using hu)⟩
theorem Bs.nil (w : World) (A : Oa) : Bs w A 0 [] := ⟨rfl, .inl rfl⟩
theorem ao.congr {w : World} {g : Nat} {t : TypeId} {cs cs' : Array Value} (h : ao w g t cs) (e : cs = cs') : ao w g t cs' := e ▸ h
section
variable {P : Program} {L : List (Nat × Value)} {w : World} {ty t e : TypeId} {x y : Operand}
theorem iY {A B : Oa} {m c c2 base bytes : Nat} {ys : List Value} (hx : ev L x = some (.slice A 0 c)) (hy : ev L y = some (.slice B m c2)) (hE : vm P t e bytes) (hown : Row w base e A 0 c []) (hr : At w B ys) (hl : ys.length = m) (h1 : ∀ u ∈ ys, u.oneCell' = true)
  (hlen : m * bytes ≤ 140737488355328) (h63 : m ≤ 140737488355328) (hbase : base ≤ w.heap.size) : Ef P L w (.call { callee := .builtin .append, args := #[x, y], argTypes := #[t, t] }) ty (ND w base e A m c ys) := by
 have h := aQ (P := P) (ty := ty) hx hy hE hown hr hl h1 (by rw [Nat.zero_add]; exact hlen) Om hbase
 rw [Nat.zero_add, List.nil_append] at h
 exact h
end
def Dj (A B : Oa) : Prop := ∀ b o b' o', A = some ⟨b, o, none⟩ → B = some ⟨b', o', none⟩ → b ≠ b'
theorem Dj.CE (B : Oa) : Dj none B := fun _ _ _ _ h => by cases h
theorem Dj.symm {A B : Oa} (h : Dj A B) : Dj B A := fun b o b' o' h1 h2 e => h b' o' b o h2 h1 e.symm
theorem Row.app {w w' : World} {base2 : Nat} {e2 : TypeId} {A A' B : Oa} {n c n' c' m d : Nat} {ys : List Value} (h : Row w base2 e2 B m d ys) (hd : Dj A B) (hg : w.grownBy w' (Value.slice A n c).ownBlock)
    (hl : (Value.slice A' n' c').ownBlock = (Value.slice A n c).ownBlock ∨ (Value.slice A' n' c').ownBlock = some w.heap.size) (hA : ∀ b o s, A = some ⟨b, o, s⟩ → s = none) : Row w' base2 e2 B m d ys ∧ Dj A' B := by
  constructor
  · refine World.ownsRow.kept (row := (Value.slice A n c).ownBlock) h hg ?_
    rcases h.2 with ⟨hv, _⟩ | ⟨g, cap, cur, hv, _⟩
    · injection hv with hB _ _; subst hB; exact .inl rfl
    · injection hv with hB _ _
      subst hB
      cases A with
      | none => exact .inr (by simp [Value.ownBlock])
      | some a =>
        obtain ⟨b, o, s⟩ := a
        have := hA b o s rfl
        subst this
        exact .inr (by simp only [Value.ownBlock]; intro e; injection e with e; exact hd b o g 0 rfl rfl e.symm)
  · intro b o b' o' h1 h2 hbb
    subst h1; subst h2; subst hbb
    have hlt : b < w.heap.size := (Row.lt h).2
    rcases hl with hl | hl
    · cases A with
      | none => simp [Value.ownBlock] at hl
      | some a =>
        obtain ⟨b2, o2, s⟩ := a
        have := hA b2 o2 s rfl
        subst this
        simp only [Value.ownBlock, Option.some.injEq] at hl
        exact hd b2 o2 b o' rfl rfl hl.symm
    · simp only [Value.ownBlock, Option.some.injEq] at hl
      omega
theorem Row.eM {w : World} {base : Nat} {e : TypeId} {A : Oa} {n c : Nat} {xs : List Value} (h : Row w base e A n c xs) (b o : Nat) (s) (hA : A = some ⟨b, o, s⟩) : s = none := by
 rcases h.2 with ⟨hv, _⟩ | ⟨g, cap, cur, hv, _⟩
 ·injection hv with hB _ _; subst hB; cases hA
 ·injection hv with hB _ _; subst hB; injection hA with hA; injection hA with _ _ hs; exact hs.symm
theorem Row.bs {w : World} {base : Nat} {e : TypeId} {A : Oa} {n c : Nat} {xs : Lb} (h : Row w base e A n c (xs.map bv)) : Bs w A n xs := ⟨by have := h.len; simpa using this, Row.at h⟩
theorem Row.bn {w : World} {base : Nat} {e : TypeId} {A : Oa} {n c : Nat} {xs : Lb} (h : Row w base e A n c (xs.map bv)) : Bn base w A n xs := ⟨Row.bs h, fun b o e => by subst e; exact (Row.lt h).1⟩
theorem Bs.IW {w : World} {g o n : Nat} {xs : Lb} (h : Bs w (some ⟨g, o, none⟩) n xs) (hn : 0 < n) : g < w.heap.size := by
 obtain ⟨b', o', e', hb', _⟩ := h.get hn
 injection e' with e'
 injection e' with e1 _ _
 omega
theorem Row.cat {w : World} {base : Nat} {e : TypeId} {A : Oa} {n c : Nat} {xs ys : Lb} (h : Row w base e A n c (xs.map bv ++ ys.map bv)) : Row w base e A n c ((xs ++ ys).map bv) := by rw [List.map_append]; exact h
theorem At.fT {w : World} {g : Nat} {t : TypeId} {vs : List Value} (B : ao w g t vs.toArray) : At w (some ⟨g, 0, none⟩) vs := B.at 0 _ (fun j u hu => by rw [Nat.zero_add]; simpa using hu)
theorem Row.congr {w : World} {base : Nat} {e : TypeId} {A : Oa} {n c n' : Nat} {xs ys : List Value} (h : Row w base e A n c xs) (hn : n = n') (hx : xs = ys) : Row w base e A n' c ys := by subst hn; subst hx; exact h
theorem dJ {p q : Prop} [Decidable p] [Decidable q] (h : p ↔ q) : Ending.returned (.bool (decide p)) = .returned (.bool (decide q)) := by
 rw [decide_eq_decide.2 h]
theorem tM {b : Bool} {q : Prop} [Decidable q] (h : b = true ↔ q) : Ending.returned (.bool b) = .returned (.bool (decide q)) := by
 cases b <;> simp_all
end
section
open Go.RowKit
section
variable {P : Program} {Q : Exit → Act → World → Prop} {N : Nd} {L : List (Nat × Value)} {w : World}
theorem eY {c rest : Code} (l : Nat) (J : Nat → List (Nat × Value) → World → Prop) (hf : findLabel c l = some (Code.skip.seq rest))
    (pass : ∀ (G : Act → World → Prop) (n : Nat) (L : List (Nat × Value)) (w : World), J n L w → (∀ {L1 : List (Nat × Value)} {w' : World} (n' : Nat) (L' : List (Nat × Value)), J n' L' w' → n' < n → jB L1 L' → WK G N L1 w') → WC P (Exit.jump l G Q) rest N L w)
    (first : ∀ (G : Act → World → Prop), (∀ {L1 : List (Nat × Value)} {w' : World} (n' : Nat) (L' : List (Nat × Value)), J n' L' w' → jB L1 L' → WC P (Exit.jump l G Q) rest N L1 w') → WC P (Exit.jump l G Q) c N L w) :
    WC P Q (.scope c) N L w := by
  intro a ha
  refine wp_scope_jumps l (fun a w => ∃ n L, Fr N L a ∧ J n L w) (fun a w => leastOf fun n => ∃ L, Fr N L a ∧ J n L w) hf ?_ ?_
  · exact first _ (fun n' L' hJ hin a' ha' => pass (fun a' w' => ∃ n1 L1, Fr N L1 a' ∧ J n1 L1 w') n' L' _ hJ (fun n1 L1 hJ1 _ hin1 a1 ha1 => ⟨n1, L1, ha1.sub hin1, hJ1⟩) a' (ha'.sub hin)) a ha
  · rintro a w ⟨n0, L0, h0⟩
    obtain ⟨⟨L, ha, hJ⟩, hmin⟩ := leastOf_spec (p := fun n => ∃ L, Fr N L a ∧ J n L w) ⟨n0, L0, h0⟩
    refine wp_seq (wp_skip ?_)
    refine wp_mono (pass (fun a' w' => ∃ n', n' < leastOf (fun n => ∃ L, Fr N L a ∧ J n L w) ∧ ∃ L', Fr N L' a' ∧ J n' L' w') _ L w hJ (fun n' L' hJ' hn hin a' ha' => ⟨n', hn, L', ha'.sub hin, hJ'⟩) a ha) ?_
    intro e a' w' hq
    cases e with
    | goto l' =>
      obtain ⟨e1, n', hlt, L', ha', hJ'⟩ := hq
      have hs := leastOf_spec (p := fun n => ∃ L, Fr N L a' ∧ J n L w') ⟨n', L', ha', hJ'⟩
      exact ⟨e1, ⟨n', L', ha', hJ'⟩, Nat.lt_of_le_of_lt (hs.2 n' ⟨L', ha', hJ'⟩) hlt⟩
    | normal => exact hq
    | exit id => exact hq
    | ret => exact hq
    | panic ch => exact hq
    | outgrown => exact hq
end
section
variable {P : Program} {L : List (Nat × Value)} {w : World} {ty t t' e : TypeId} {x y : Operand}
theorem oD {s u : ByteArray} (hx : ev L x = some (.string s)) (hy : ev L y = some (.string u)) (hl : ((s.size : Int) + u.size ≤ 9223372036854775807)) : Y P L w (.binOp .add t x y t') ty (.string (s ++ u)) := fun ρ hρ w' _ _ _ _ _ => by
 simp [execOp, hρ _ _ hx, hρ _ _ hy, eqGuard, binOp, Op.stringOp, hl]
theorem pO {s : ByteArray} {d : TypeDesc} (hx : ev L x = some (.string s)) (hs : P.underlying t = some d) (hu : P.underlying t' = some (.slice e)) (he : P.underlying e = some (.int .u8)) :
  Ef P L w (.convert t t' x) ty fun v w' => ∃ g c, v = .slice (some ⟨g, 0, none⟩) s.size c ∧ Bs w' (some ⟨g, 0, none⟩) s.size s.data.toList ∧ w.heap.size ≤ g ∧ Ext w w' := Ef.run fun ρ hρ => by
 refine ⟨_, Lib.bytesWorld w e s, ⟨w.heap.size, grownCap w s.size 0 e, rfl, ⟨rfl, .inr ⟨w.heap.size, 0, rfl, fun j u hu' => ?_⟩⟩, Nat.le_refl _, ?_⟩, fun _ _ _ _ => by simp [execOp, hρ _ _ hx, Lib.run_convert_string_bytes (P := P) w t t' e s hs hu he]⟩
 ·rw [List.getElem?_map] at hu'
  have hj : j < s.size := by
   rcases Nat.lt_or_ge j s.size with h | h
   ·exact h
   ·rw [List.getElem?_eq_none (by simpa using h)] at hu'; cases hu'
  rw [Nat.zero_add, Lib.bytesWorld_cell w e s j hj, ← hu']
  have hj' : j < s.data.toList.length := by simpa using hj
  rw [List.getElem?_eq_getElem hj', List.getD_eq_getElem?_getD, List.getElem?_eq_getElem hj']
  rfl
 ·exact ⟨rfl, rfl, rfl, by rw [Lib.bytesWorld_size]; omega, fun k hk => Lib.bytesWorld_at_old w e s k hk⟩
end
theorem Bs.app {w w' : World} {A B : Oa} {n c m : Nat} {ys : Lb} (h : Bs w B m ys) (hd : Dj A B) (hg : w.grownBy w' (Value.slice A n c).ownBlock) (hA : ∀ b o s, A = some ⟨b, o, s⟩ → s = none) : Bs w' B m ys := by
  cases A with
  | none =>
    refine ⟨h.1, ?_⟩
    rcases h.2 with h0 | ⟨b, off, hB, hc⟩
    · exact .inl h0
    · exact .inr ⟨b, off, hB, fun j u hu => by
        have h1 := hc j u hu
        rw [World.cell?_of_block (w := w) (hg.block b (dQ h1) (by simp [Value.ownBlock]))]
        exact h1⟩
  | some a =>
    obtain ⟨b, o, s⟩ := a
    have := hA b o s rfl
    subst this
    exact h.grown hg (fun b' off hB e => hd b o b' off rfl hB e.symm)
end
end
section
namespace Sha
def cv (x n : Nat) : Nat := x / 2 ^ n + x % 2 ^ n * 2 ^ (32 - n)
def s0 (x : Nat) : Nat := (cv x 7 ^^^ cv x 18) ^^^ (x / 8)
def s1 (x : Nat) : Nat := (cv x 17 ^^^ cv x 19) ^^^ (x / 1024)
def S0 (x : Nat) : Nat := (cv x 2 ^^^ cv x 13) ^^^ cv x 22
def S1 (x : Nat) : Nat := (cv x 6 ^^^ cv x 11) ^^^ cv x 25
def ch (e f g : Nat) : Nat := (e &&& f) ^^^ ((4294967295 - e) &&& g)
def zP (a b c : Nat) : Nat := ((a &&& b) ^^^ (a &&& c)) ^^^ (b &&& c)
def Lf (l : List UInt8) (t : Nat) : Nat := (l.getD (4 * t) 0).toNat * 16777216 + (l.getD (4 * t + 1) 0).toNat * 65536 + (l.getD (4 * t + 2) 0).toNat * 256 + (l.getD (4 * t + 3) 0).toNat
def gU (l : List UInt8) : Nat → List Nat
 | 0 => []
 | k + 1 => gU l k ++ [Lf l k]
def gF (p : List Nat) (k : Nat) : Nat := (s1 (p.getD (k + 14) 0) + p.getD (k + 9) 0 + s0 (p.getD (k + 1) 0) + p.getD k 0) % 4294967296
def ext (m : List Nat) : Nat → List Nat
 | 0 => m
 | k + 1 => ext m k ++ [gF (ext m k) k]
def words (l : List UInt8) : List Nat := ext (gU l 16) 48
structure S8 where
 (a b c d e f g h : Nat)
def S8.list (s : S8) : List Nat := [s.a, s.b, s.c, s.d, s.e, s.f, s.g, s.h]
def S8.ok (s : S8) : Prop := s.a < 4294967296 ∧ s.b < 4294967296 ∧ s.c < 4294967296 ∧ s.d < 4294967296 ∧ s.e < 4294967296 ∧ s.f < 4294967296 ∧ s.g < 4294967296 ∧ s.h < 4294967296
def K : List Nat := [
 0x428a2f98, 0x71374491, 0xb5c0fbcf, 0xe9b5dba5, 0x3956c25b, 0x59f111f1, 0x923f82a4, 0xab1c5ed5,
 0xd807aa98, 0x12835b01, 0x243185be, 0x550c7dc3, 0x72be5d74, 0x80deb1fe, 0x9bdc06a7, 0xc19bf174,
 0xe49b69c1, 0xefbe4786, 0x0fc19dc6, 0x240ca1cc, 0x2de92c6f, 0x4a7484aa, 0x5cb0a9dc, 0x76f988da,
 0x983e5152, 0xa831c66d, 0xb00327c8, 0xbf597fc7, 0xc6e00bf3, 0xd5a79147, 0x06ca6351, 0x14292967,
 0x27b70a85, 0x2e1b2138, 0x4d2c6dfc, 0x53380d13, 0x650a7354, 0x766a0abb, 0x81c2c92e, 0x92722c85,
 0xa2bfe8a1, 0xa81a664b, 0xc24b8b70, 0xc76c51a3, 0xd192e819, 0xd6990624, 0xf40e3585, 0x106aa070,
 0x19a4c116, 0x1e376c08, 0x2748774c, 0x34b0bcb5, 0x391c0cb3, 0x4ed8aa4a, 0x5b9cca4f, 0x682e6ff3,
 0x748f82ee, 0x78a5636f, 0x84c87814, 0x8cc70208, 0x90befffa, 0xa4506ceb, 0xbef9a3f7, 0xc67178f2]
def H0 : List Nat := [0x6a09e667, 0xbb67ae85, 0x3c6ef372, 0xa54ff53a, 0x510e527f, 0x9b05688c, 0x1f83d9ab, 0x5be0cd19]
def IV : S8 := ⟨0x6a09e667, 0xbb67ae85, 0x3c6ef372, 0xa54ff53a, 0x510e527f, 0x9b05688c, 0x1f83d9ab, 0x5be0cd19⟩
def T1 (s : S8) (k w : Nat) : Nat := s.h + S1 s.e + ch s.e s.f s.g + k + w
def T2 (s : S8) : Nat := S0 s.a + zP s.a s.b s.c
def vp (s : S8) (k w : Nat) : S8 :=
 ⟨(T1 s k w + T2 s) % 4294967296, s.a, s.b, s.c, (s.d + T1 s k w) % 4294967296, s.e, s.f, s.g⟩
def rounds (w : List Nat) (s : S8) : Nat → S8
 | 0 => s
 | t + 1 => vp (rounds w s t) (K.getD t 0) (w.getD t 0)
def S8.add (s x : S8) : S8 := ⟨(s.a + x.a) % 4294967296, (s.b + x.b) % 4294967296, (s.c + x.c) % 4294967296, (s.d + x.d) % 4294967296,
 (s.e + x.e) % 4294967296, (s.f + x.f) % 4294967296, (s.g + x.g) % 4294967296, (s.h + x.h) % 4294967296⟩
def step (s : S8) (b : List UInt8) : S8 := s.add (rounds (words b) s 64)
def iR (n : Nat) : List UInt8 := [UInt8.ofNat (n / 72057594037927936), UInt8.ofNat (n / 281474976710656), UInt8.ofNat (n / 1099511627776), UInt8.ofNat (n / 4294967296),
 UInt8.ofNat (n / 16777216), UInt8.ofNat (n / 65536), UInt8.ofNat (n / 256), UInt8.ofNat n]
def bS (n : Nat) : Nat := (119 - n % 64) % 64
def pad (n : Nat) : List UInt8 := 128 :: (List.replicate (bS n) 0 ++ iR (n * 8))
def blocks (s : S8) (l : List UInt8) : Nat → S8
 | 0 => s
 | k + 1 => step (blocks s l k) ((l.drop (64 * k)).take 64)
def pZ (x : Nat) : List UInt8 := [UInt8.ofNat (x / 16777216), UInt8.ofNat (x / 65536), UInt8.ofNat (x / 256), UInt8.ofNat x]
def S8.bytes (s : S8) : List UInt8 := s.list.flatMap pZ
def sum (b : List UInt8) : List UInt8 := (blocks IV (b ++ pad b.length) ((b ++ pad b.length).length / 64)).bytes
theorem ba {x n : Nat} (hx : x < 4294967296) (hn : n ≤ 32) : cv x n < 4294967296 := by
 unfold cv
 have h1 : x / 2 ^ n < 2 ^ (32 - n) := by
  rw [Nat.div_lt_iff_lt_mul (Nat.two_pow_pos n), ← Nat.pow_add, Nat.sub_add_cancel hn]; exact hx
 have h2 : x % 2 ^ n < 2 ^ n := Nat.mod_lt _ (Nat.two_pow_pos n)
 have h3 : x % 2 ^ n * 2 ^ (32 - n) + 2 ^ (32 - n) ≤ 4294967296 := by
  have : (x % 2 ^ n + 1) * 2 ^ (32 - n) ≤ 2 ^ n * 2 ^ (32 - n) := Nat.mul_le_mul_right _ h2
  rw [← Nat.pow_add, Nat.add_sub_cancel' hn, Nat.add_mul] at this
  omega
 omega
theorem fP {x y : Nat} (hx : x < 4294967296) (hy : y < 4294967296) : x ^^^ y < 4294967296 := Nat.xor_lt_two_pow (n := 32) hx hy
theorem dW {x y : Nat} (hx : x < 4294967296) : x &&& y < 4294967296 := Nat.lt_of_le_of_lt Nat.and_le_left hx
theorem Ln {x : Nat} (hx : x < 4294967296) : S0 x < 4294967296 := fP (fP (ba hx (by omega)) (ba hx (by omega))) (ba hx (by omega))
theorem Mi {x : Nat} (hx : x < 4294967296) : S1 x < 4294967296 := fP (fP (ba hx (by omega)) (ba hx (by omega))) (ba hx (by omega))
theorem L9 {e f g : Nat} (he : e < 4294967296) : ch e f g < 4294967296 := fP (dW he) (dW (by omega))
theorem Kf {a b c : Nat} (ha : a < 4294967296) (hb : b < 4294967296) : zP a b c < 4294967296 := fP (fP (dW ha) (dW ha)) (dW hb)
theorem rN {x n : Nat} (hx : x < 4294967296) (hn : n ≤ 32) : (x * 2 ^ (32 - n) % 4294967296) ||| (x / 2 ^ n) = cv x n := by
 have hp : (4294967296 : Nat) = 2 ^ n * 2 ^ (32 - n) := by rw [← Nat.pow_add, Nat.add_sub_cancel' hn]
 have h1 : x * 2 ^ (32 - n) % 4294967296 = x % 2 ^ n * 2 ^ (32 - n) := by rw [hp, Nat.mul_mod_mul_right]
 have h2 : x / 2 ^ n < 2 ^ (32 - n) := by
  rw [Nat.div_lt_iff_lt_mul (Nat.two_pow_pos n), ← Nat.pow_add, Nat.sub_add_cancel hn]; exact hx
 rw [h1, nat_join (32 - n) _ _ (by simp) h2]
 unfold cv
 omega
theorem IF (l : List UInt8) (t : Nat) : Lf l t < 4294967296 := by
 unfold Lf
 have h : ∀ x : UInt8, x.toNat < 256 := fun x => x.toNat_lt
 have h0 := h (l.getD (4 * t) 0); have h1 := h (l.getD (4 * t + 1) 0); have h2 := h (l.getD (4 * t + 2) 0); have h3 := h (l.getD (4 * t + 3) 0)
 omega
theorem dM (l : List UInt8) (k : Nat) : (gU l k).length = k := by induction k with
 | zero => rfl
 | succ k ih => simp [gU, ih]
theorem eu (m : List Nat) (k : Nat) : (ext m k).length = m.length + k := by induction k with
 | zero => rfl
 | succ k ih => simp [ext, ih]; omega
theorem cn (l : List UInt8) : (words l).length = 64 := by simp [words, eu, dM]
theorem pR (l : List UInt8) (k : Nat) : ∀ x ∈ gU l k, x < 4294967296 := by induction k with
  | zero => simp [gU]
  | succ k ih =>
    intro x hx
    simp only [gU, List.mem_append, List.mem_singleton] at hx
    rcases hx with hx | rfl
    · exact ih x hx
    · exact IF l k
theorem oU (m : List Nat) (hm : ∀ x ∈ m, x < 4294967296) (k : Nat) : ∀ x ∈ ext m k, x < 4294967296 := by induction k with
  | zero => exact hm
  | succ k ih =>
    intro x hx
    simp only [ext, List.mem_append, List.mem_singleton] at hx
    rcases hx with hx | rfl
    · exact ih x hx
    · unfold gF; omega
theorem CP (l : List UInt8) : ∀ x ∈ words l, x < 4294967296 := oU _ (pR l 16) 48
theorem fB {m : List Nat} (hm : ∀ x ∈ m, x < 4294967296) (k : Nat) : m.getD k 0 < 4294967296 := by
 rw [List.getD_eq_getElem?_getD]
 rcases h : m[k]? with _ | x
 ·simp
 ·simpa [h] using hm x (List.mem_of_getElem? h)
theorem MH : ∀ x ∈ K, x < 4294967296 := by decide +kernel
theorem wE {s : S8} (h : s.ok) (k w : Nat) : (vp s k w).ok := by
 obtain ⟨h1, h2, h3, h4, h5, h6, h7, h8⟩ := h
 exact ⟨Nat.mod_lt _ (by omega), h1, h2, h3, Nat.mod_lt _ (by omega), h5, h6, h7⟩
theorem fZ (w : List Nat) {s : S8} (h : s.ok) (t : Nat) : (rounds w s t).ok := by induction t with
 | zero => exact h
 | succ t ih => exact wE ih _ _
theorem vr (s x : S8) : (s.add x).ok := ⟨Nat.mod_lt _ (by omega), Nat.mod_lt _ (by omega), Nat.mod_lt _ (by omega), Nat.mod_lt _ (by omega), Nat.mod_lt _ (by omega), Nat.mod_lt _ (by omega), Nat.mod_lt _ (by omega), Nat.mod_lt _ (by omega)⟩
theorem rR (s : S8) (b : List UInt8) : (step s b).ok := vr _ _
theorem rE : IV.ok := by unfold S8.ok IV; decide
theorem jK {s : S8} (h : s.ok) (l : List UInt8) (k : Nat) : (blocks s l k).ok := by cases k with
 | zero => exact h
 | succ k => exact rR _ _
theorem cG (n : Nat) : (pad n).length = 9 + bS n := by simp [pad, iR]; omega
theorem iP (n : Nat) : (n + (pad n).length) % 64 = 0 := by rw [cG]; unfold bS; omega
theorem jb (s : S8) : s.bytes.length = 32 := rfl
theorem bM (b : List UInt8) : (sum b).length = 32 := rfl
def eB (l m : List Nat) (k : Nat) : List Nat := (List.zipWith (fun x y => (x + y) % 4294967296) l m).take k ++ l.drop k
theorem jJ (l m : List Nat) : eB l m 0 = l := by simp [eB]
theorem jA {l m : List Nat} (h : l.length = m.length) {k : Nat} (hk : k ≤ l.length) : (eB l m k).length = l.length := by
 simp [eB, ← h]; omega
theorem lQ {l m : List Nat} (h : l.length = m.length) {k : Nat} (hk : k < l.length) : (eB l m k).getD k 0 = l.getD k 0 := by
 have e : ((List.zipWith (fun x y => (x + y) % 4294967296) l m).take k).length = k := by simp [← h]; omega
 simp only [eB, List.getD_eq_getElem?_getD]
 rw [List.getElem?_append_right (by omega), e, Nat.sub_self, List.getElem?_drop, Nat.add_zero]
theorem mo {l m : List Nat} (h : l.length = m.length) {k : Nat} (hk : k < l.length) : (eB l m k).set k ((l.getD k 0 + m.getD k 0) % 4294967296) = eB l m (k + 1) := by
 have e : ((List.zipWith (fun x y => (x + y) % 4294967296) l m).take k).length = k := by simp [← h]; omega
 have hz : k < (List.zipWith (fun x y => (x + y) % 4294967296) l m).length := by simp [← h]; omega
 simp only [eB]
 rw [List.set_append_right _ _ (by omega), e, Nat.sub_self, List.take_succ_eq_append_getElem hz, List.drop_eq_getElem_cons hk]
 have h1 : l.getD k 0 = l[k] := by simp [hk]
 have h2 : m.getD k 0 = m[k]'(by omega) := by simp [show k < m.length by omega]
 rw [h1, h2]
 simp
 rw [List.drop_eq_getElem_cons hk]
 rfl
theorem po (s x : S8) : (s.add x).list = eB s.list x.list 8 := rfl
end Sha
end
section
section
namespace Mac
def Fc (key : Lb) : List UInt8 := let k := if 64 < key.length then Sha.sum key else key; k ++ fV (64 - k.length)
def held (key : Lb) (c : UInt8) : List UInt8 := (Fc key).map (· ^^^ c)
def tag (key text : Lb) : List UInt8 := Sha.sum (held key 92 ++ Sha.sum (held key 54 ++ text))
theorem kS (key : Lb) : (Fc key).length = 64 := by
 unfold Fc
 by_cases h : 64 < key.length
 ·simp [h, fV, Sha.bM]
 ·simp [h, fV]; omega
theorem fD (key : Lb) (c : UInt8) : (held key c).length = 64 := by simp [held, kS]
theorem dN (key text : Lb) : (tag key text).length = 32 := Sha.bM _
end Mac
end
section
namespace Wire
def be : Nat → Nat → List UInt8
 | 0, _ => []
 | k + 1, n => be k (n / 256) ++ [UInt8.ofNat n]
theorem gd : ∀ (k n : Nat), (be k n).length = k
 | 0, _ => rfl
 | k + 1, n => by simp [be, gd k]
theorem uq : ∀ (k n : Nat), be (k + 1) n = [UInt8.ofNat (n / 256 ^ k)] ++ be k n
  | 0, n => by simp [be]
  | k + 1, n => by
    rw [be, uq k (n / 256)]
    rw [be]
    simp [Nat.div_div_eq_div_mul, Nat.pow_succ, Nat.mul_comm]
def len (n : Nat) : List UInt8 :=
 if n < 64 then [UInt8.ofNat n]
 else if n < 16384 then [UInt8.ofNat (64 + n / 256), UInt8.ofNat (n % 256)]
 else [UInt8.ofNat (128 + n / 16777216), UInt8.ofNat (n / 65536 % 256), UInt8.ofNat (n / 256 % 256), UInt8.ofNat (n % 256)]
def iE (n : Nat) : Nat := if n < 64 then 1 else if n < 16384 then 2 else 4
theorem wQ (n : Nat) : (len n).length = iE n := by unfold len iE; split <;> (try split) <;> rfl
theorem bu (n : Nat) : 1 ≤ iE n ∧ iE n ≤ 4 := by unfold iE; split <;> (try split) <;> omega
theorem ofNat_eq {a b : Nat} (h : a % 256 = b % 256) : UInt8.ofNat a = UInt8.ofNat b := UInt8.toNat_inj.1 (by simp [UInt8.toNat_ofNat', h])
theorem JV (n : Nat) (h : n < 1073741824) : be (iE n) (iE n / 2 * 2 ^ (8 * iE n - 2) + n) = len n := by
 unfold len iE
 by_cases h1 : n < 64
 ·simp [h1, be]
 ·by_cases h2 : n < 16384
  ·simp only [h1, h2, if_true, if_false, be, List.nil_append, List.cons_append]
   congr 1
   ·exact ofNat_eq Om
   ·congr 1
    exact ofNat_eq Om
  ·simp only [h1, h2, if_false, be, List.nil_append, List.cons_append]
   congr 1
   ·exact ofNat_eq Om
   ·congr 1
    ·exact ofNat_eq Om
    ·congr 1
     ·exact ofNat_eq Om
     ·congr 1
      exact ofNat_eq Om
def vec (v : Lb) : List UInt8 := len v.length ++ v
theorem gA (v : Lb) : (vec v).length = iE v.length + v.length := by simp [vec, wQ]
end Wire
namespace Kdf
def T (secret info : Lb) : Nat → List UInt8
 | 0 => []
 | k + 1 => Mac.tag secret (T secret info k ++ info ++ [UInt8.ofNat (k + 1)])
def vl (secret info : Lb) : Nat → List UInt8
 | 0 => []
 | k + 1 => vl secret info k ++ T secret info (k + 1)
theorem uz (s i : Lb) (k : Nat) : (T s i (k + 1)).length = 32 := Mac.dN _ _
theorem LX (s i : Lb) (k : Nat) : (T s i k).length ≤ 32 := by cases k <;> simp [T, Mac.dN]
theorem kU (s i : Lb) : ∀ k, (vl s i k).length = 32 * k
 | 0 => rfl
 | k + 1 => by rw [vl, List.length_append, kU s i k, uz]; omega
theorem CZ (s i : Lb) (n : Nat) : ∀ k j, n ≤ 32 * k → k ≤ j → (vl s i j).take n = (vl s i k).take n := by
  intro k j _ _
  induction j with
  | zero => (obtain rfl : k = 0 := Om); rfl
  | succ j ih =>
    by_cases h : k = j + 1
    · rw [h]
    · rw [vl, List.take_append_of_le_length (by rw [kU]; omega), ih Om]
def expand (s i : Lb) (n : Nat) : List UInt8 := (vl s i ((n + 31) / 32)).take n
theorem j9 (s i : Lb) (n : Nat) : (expand s i n).length = n := by rw [expand, List.length_take, kU]; omega
theorem qW (s i : Lb) (n k : Nat) (h : n ≤ 32 * k) : (vl s i k).take n = expand s i n := CZ s i n _ k Om Om
def AZ : List UInt8 := [77, 76, 83, 32, 49, 46, 48, 32]
def info (label context : Lb) (n : Nat) : List UInt8 := Wire.be 2 n ++ Wire.vec (AZ ++ label) ++ Wire.vec context
def label (secret l context : Lb) (n : Nat) : List UInt8 := expand secret (info l context n) n
end Kdf
end
end
section
open Go.RowKit Tryz
theorem Own.made (w : World) (base cap : Nat) (cur : Array Value) (hb : base ≤ w.heap.size) (hm : cap ≤ maxLen) (hs : cur.size = cap) : Own (w.alloc (.cells cur 5)) base (some ⟨w.heap.size, 0, none⟩) 0 cap [] :=
 World.ownsRow_made w cur cap hb hm Om
set_option maxHeartbeats 400000 in
theorem iD (A : Oa) (n c : Nat) (xs : Lb) (w : World) (ha : Bs w A n xs) (hn : n ≤ 140737488355328) :
  Calls Tryz.prog 181 #[.slice A n c] w fun e w' => ∃ A' c', e = .returned (.slice A' n c') ∧ Own w' w.heap.size A' n c' xs ∧ Below w.heap.size w w' := by
 have heq := fun (w : World) => Lib.run_eql_slice_nil (P := Tryz.prog) w _ _ A n c 0 0 underlying23
 rcases A with _ | ad
 ·have hx : xs = [] := by
   rcases ha.2 with h | ⟨b, off, h, _⟩
   ·simpa using h
   ·cases h
  have Vn : n = 0 := by rw [← ha.1, hx]; rfl
  subst hx; subst Vn
  go_enter func181, ntmps181
  go_wp2
  go_ret
  exact ⟨none, 0, rfl, Own.empty _ _, Below.refl _ _⟩
 ·have HA := Lib.hid ha
  clear ha
  go_enter func181, ntmps181
  go_wp2_with (at_builtin; refine er (w0 := w) rfl _ _ _ rfl _ _ bF w.heap.size _ 0 [] rfl (Own.made w w.heap.size 0 #[] (Nat.le_refl _) (by unfold maxLen; omega) rfl) (some ad) n c (xs.map bv) rfl (by rw [List.length_map]; exact HA.out.1) (HA.out.2.below ((Below.refl _ _).alloc (Nat.le_refl _) _)) aH ?_ ?_ ((Below.refl _ _).alloc (Nat.le_refl _) _) ?_ ?_; rotate_right; intro A2 c2 w2 Vl Vm _ _)
  ·go_ret
   refine ⟨A2, c2, rfl, ?_, Vm⟩
   rw [Nat.zero_add] at Vl
   exact Vl
  ·omega
  ·omega
  ·simp
theorem LD : (Tryz.prog.info? 5).map (fun i => (i.zero, i.size, i.bytes)) = some (some (.int .u8 0), 1, 1) := by kernel_rfl
set_option maxHeartbeats 400000 in
theorem CR (n : Nat) (w : World) (hn : n ≤ 140737488355328) :
  Calls Tryz.prog 230 #[.slice none 0 0, .int .i64 n] w fun e w' => ∃ A' c', e = .returned (.slice A' 0 c') ∧ Own w' w.heap.size A' 0 c' [] ∧ Below w.heap.size w w' := by
 by_cases h0 : 0 < n
 ·obtain ⟨i, hi, hz, hs, hb⟩ := info_parts LD
  have hrun := fun (ty : TypeId) => Lib.run_append_nil_zeros (P := Tryz.prog) w 23 3 ty 5 i _ .i64 .i64 underlying23 underlying3 hi hz n h0 Om Om (by rw [hb]; omega)
  have hge := grownCap_ge w n 0 5
  have hle := grownCap_le_maxLen w n 0 5 (by unfold maxLen; omega)
  generalize grownCap w n 0 5 = cap at *
  have HR := Lib.hid hrun
  clear hrun hz hs hb hi
  go_enter func230, ntmps230
  go_wp2_with (at_builtin; refine Lib.wpList_append_run w rfl (.tmp 20) (.tmp 21) _ _ rfl _ _ rfl rfl _ _ (HR.out _) ?_)
  go_ret
  refine ⟨_, _, rfl, ?_, ((Below.refl _ _).drew).alloc (by simp) _⟩
  exact Own.made w.drew w.heap.size cap _ (Nat.le_refl _) hle (by simp [Builtin.zeroCells]; omega)
 ·obtain rfl : n = 0 := by omega
  go_enter func230, ntmps230
  go_wp2
  go_ret
  exact ⟨none, 0, rfl, Own.empty _ _, Below.refl _ _⟩
set_option maxHeartbeats 1000000 in
theorem fp (A : Oa) (n c : Nat) (xss : List (List UInt8)) (w : World) (ha : sN w A n xss) (hn : n ≤ 70368744177664) (hlen : xss.flatten.length ≤ 70368744177664) :
  Calls Tryz.prog 184 #[.slice A n c] w fun e w' => ∃ A' m c', e = .returned (.slice A' m c') ∧ Own w' w.heap.size A' m c' xss.flatten ∧ Below w.heap.size w w' := by
 have HA := Lib.hid ha
 have HN : Hid (xss.length = n) := ha.1
 clear ha
 go_enter func184, ntmps184
 go_wp2
 go_loop [3, 5, 11] (fun s _ i => ∃ k F : Nat, k ≤ n ∧ i = .int .i64 k ∧ s = .int .i64 F ∧ F = (xss.take k).flatten.length) (fun _ _ i => n - (intOf i).toNat)
 case atStart => exact ⟨0, 0, by omega, rfl, rfl, rfl⟩
 case round =>
  obtain ⟨k, F, hk, rfl, rfl, hF⟩ := hrel
  have Vm := fR xss k
  rw [← hF] at Vm
  have Vs : F ≤ 70368744177664 := Nat.le_trans Vm hlen
  have HF := Lib.hid hF
  clear hF Vm
  by_cases hlt : k < n
  ·obtain ⟨b, off, B, m, c1, xs, rfl, hxs, hcell, hB⟩ := HA.out.get hlt
   have hsum : (xss.take (k + 1)).flatten.length = F + m := by
    rw [eL _ _ (by rw [HN.out]; exact hlt), List.length_append, ← hxs.out, hB.1, ← HF.out]
   have hle := fR xss (k + 1)
   rw [hsum] at hle
   have HS := Lib.hid hsum
   have Vt : F + m ≤ 70368744177664 := Nat.le_trans hle hlen
   have hq : (k : Int) < n := by omega
   clear hsum hle hB hlen
   go_wp2
   go_round
   case rel => exact ⟨k + 1, F + m, by omega, by go_num, by go_num, HS.out.symm⟩
   case measure => simp [intOf]; omega
  ·go_wp2_with fail
   refine (CR _ _ Om).mono ?_
   rintro e _ ⟨A1, c1, rfl, Vl, Vq⟩
   have HO := Lib.hid Vl; have HB := Lib.hid Vq
   clear Vl Vq
   go_wp2
   go_loopw [6, 8, 27] (fun v _ i wr => ∃ (k m : Nat) (A' : Oa) (c' : Nat), k ≤ n ∧ i = .int .i64 k ∧ v = .slice A' m c' ∧ Below w.heap.size w wr ∧ Own wr w.heap.size A' m c' (xss.take k).flatten) (fun _ _ i _ => n - (intOf i).toNat)
   case atStart => exact ⟨0, 0, A1, c1, by omega, rfl, rfl, HB.out, HO.out⟩
   case round =>
    obtain ⟨k, m, A', c', hk, rfl, rfl, hbw, hown⟩ := hrel
    by_cases Vn : k < n
    ·obtain ⟨b, off, B, mm, c2, xs, rfl, hxs, hcell, hB⟩ := (HA.out.below hbw).get Vn
     have hm := hown.len
     have hle := fR xss (k + 1)
     rw [eL _ _ (by rw [HN.out]; exact Vn), List.length_append, ← hxs.out, hB.1, hm] at hle
     have hq : (k : Int) < n := by omega
     have Vr := Lib.hid hB
     clear hm hB
     go_wp2_with (at_builtin; refine er (w0 := w) rfl _ _ _ rfl _ _ bF w.heap.size _ _ _ rfl hown _ _ _ (xs.map bv) rfl (by rw [List.length_map]; exact Vr.out.1) Vr.out.2 aH ?_ ?_ hbw ?_ ?_; rotate_right; intro A2 c2 w2 Vo Vp _ _)
     ·go_roundw
      case rel => exact ⟨k + 1, _, A2, c2, by omega, by go_num, rfl, Vp, (Own.app Vo).congr rfl (by rw [eL _ _ (by rw [HN.out]; exact Vn), ← hxs.out])⟩
      case measure => simp [intOf]; omega
     ·omega
     ·omega
     ·exact hbw.size
    ·go_wp2
     go_ret
     exact ⟨A', m, c', rfl, hown.congr rfl (by rw [List.take_of_length_le (by rw [HN.out]; omega)]), hbw⟩
end
end Go.Proofs.YtgfafidlkldeaaaGreat
