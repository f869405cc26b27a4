/- A region that draws its order, with what each operation may turn said ahead by number. No conditions: plain lemmas of the model. -/
import Derived.Test.YtgfafidlkldeaaaGreatVc7
import Derived.Test.YtgfafidlkldeaaaGreatRow
import Derived.Laws.BytesArg
import Derived.Laws.Strings
import Derived.Great.BuildSlice
set_option linter.unusedVariables false
set_option linter.unusedSimpArgs false
namespace Go.Proofs.YtgfafidlkldeaaaGreat
section
section
open Go.RowKit
structure aX (S : List Nat) (w w' : World) : Prop where
 os : w'.os = w.os
 tape : w'.tape = w.tape
 output : w'.output = w.output
 size : w.heap.size ≤ w'.heap.size
 block : ∀ k, k < w.heap.size → k ∉ S → w'.heap[k]? = w.heap[k]?
def Kp (N : Nat) (S : List Nat) (Φ : World → Prop) (w : World) : Prop := N ≤ w.heap.size ∧ ∀ w' : World, (∀ k, k < N → k ∉ S → w'.heap[k]? = w.heap[k]?) → Φ w'
section
variable {S S' : List Nat} {w w' w'' : World} {g k : Nat}
theorem aX.refl (S : List Nat) (w : World) : aX S w w := ⟨rfl, rfl, rfl, Nat.le_refl _, fun _ _ _ => rfl⟩
theorem aX.mono (h : aX S w w') (hs : ∀ k ∈ S, k ∈ S') : aX S' w w' := ⟨h.os, h.tape, h.output, h.size, fun k hk hn => h.block k hk (fun hm => hn (hs k hm))⟩
theorem aX.tr (h : aX S w w') (k : aX S w' w'') : aX S w w'' :=
 ⟨k.os.trans h.os, k.tape.trans h.tape, k.output.trans h.output, Nat.le_trans h.size k.size, fun i hi hn => (k.block i (Nat.lt_of_lt_of_le hi h.size) hn).trans (h.block i hi hn)⟩
theorem aX.of (h : Ext w w') (S : List Nat) : aX S w w' := ⟨h.os, h.tape, h.output, h.size, fun k hk _ => h.block k hk⟩
theorem aX.one (h : j7 w g w') : aX [g] w w' := ⟨h.os, h.tape, h.output, h.size, fun k hk hn => h.block k hk (by intro e; injection e with e; exact hn (by simp [e]))⟩
theorem aX.cM (h : aX S w w') (hS : ∀ k ∈ S, w.heap.size ≤ k) : Ext w w' := ⟨h.os, h.tape, h.output, h.size, fun k hk => h.block k hk (fun hm => by have := hS k hm; omega)⟩
theorem aX.ext (h : aX S w w') (e : Ext w' w'') : aX S w w'' := h.tr (.of e S)
theorem aX.bT (h : aX S w w') (k : aX S' w' w'') (hs : ∀ k ∈ S', k ∈ S := by first | (simp; done) | (simp; assumption)) : aX S w w'' := h.tr (k.mono hs)
theorem aX.grow (h : aX S w w') (e : Ext w' w'') (_ : w'.heap.size ≤ k) : aX (k :: S) w w'' := (h.ext e).mono (fun _ h => List.mem_cons_of_mem _ h)
theorem aX.drop (h : aX (k :: S) w w') (hk : w.heap.size ≤ k) : aX S w w' :=
 ⟨h.os, h.tape, h.output, h.size, fun i hi hn => h.block i hi (by simp only [List.mem_cons, not_or]; exact ⟨by omega, hn⟩)⟩
theorem Ext.ES (h : Ext w w') (k : aX S w' w'') (hS : ∀ g ∈ S, w.heap.size ≤ g) : Ext w w'' :=
 ⟨k.os.trans h.os, k.tape.trans h.tape, k.output.trans h.output, Nat.le_trans h.size k.size, fun i hi => (k.block i (Nat.lt_of_lt_of_le hi h.size) (fun hm => by have := hS i hm; omega)).trans (h.block i hi)⟩
theorem ao.bT {b : Nat} {t : TypeId} {cs : Array Value} (h : ao w b t cs) (c : aX S w w') (hb : b ∉ S := by first | (simp; done) | (simp; omega)) : ao w' b t cs := (c.block b h.lt hb).trans h
theorem ao.grow {b : Nat} {t : TypeId} {cs : Array Value} (h : ao w b t cs) (e : Ext w w') (_ : w.heap.size ≤ k) : ao w' b t cs := h.ext e
theorem _root_.Go.RowKit.Below.grow {a : World} (h : Ext a w) (e : Ext w w') (_ : w.heap.size ≤ k) : Ext a w' := h.tr e
variable {Φ Ψ : World → Prop} {N M : Nat}
theorem Kp.out (h : Kp N S Φ w) : Φ w := h.2 w fun _ _ _ => rfl
theorem Kp.bT (h : Kp N S Φ w) (c : aX S' w w') (hs : ∀ k ∈ S', k ∈ S := by first | (simp; done) | (simp; assumption)) : Kp N S Φ w' :=
 ⟨Nat.le_trans h.1 c.size, fun w2 hw => h.2 w2 fun k hk hn => (hw k hk hn).trans (c.block k (Nat.lt_of_lt_of_le hk h.1) fun hm => hn (hs k hm))⟩
theorem Kp.ext (h : Kp N S Φ w) (e : Ext w w') : Kp N S Φ w' := h.bT (aX.of e []) (by simp)
theorem Kp.below {B : Nat} (h : Kp N S Φ w) (be : Below B w w') (hN : N ≤ B) : Kp N S Φ w' :=
 ⟨Nat.le_trans h.1 be.size, fun w2 hw => h.2 w2 fun k hk hn => (hw k hk hn).trans (be.block k Om)⟩
theorem Kp.grow (h : Kp N S Φ w) (e : Ext w w') (hk : w.heap.size ≤ k) : Kp N (k :: S) Φ w' :=
 ⟨Nat.le_trans h.1 e.size, fun w2 hw => h.2 w2 fun i hi hn => (hw i hi (by simp only [List.mem_cons, not_or]; exact ⟨by have := h.1; omega, hn⟩)).trans (e.block i (Nat.lt_of_lt_of_le hi h.1))⟩
theorem Kp.map (h : Kp N S Φ w) (f : ∀ w, Φ w → Ψ w) : Kp N S Ψ w := ⟨h.1, fun w2 hw => f _ (h.2 w2 hw)⟩
theorem Kp.at {A : Oa} {xs : List Value} (h : At w A xs) (hS : xs ≠ [] → ∀ g ∈ S, ∀ o, A ≠ some ⟨g, o, none⟩) : Kp w.heap.size S (fun w => At w A xs) w := by
 refine ⟨Nat.le_refl _, fun w2 hw => ?_⟩
 rcases h with h0 | ⟨b, off, hA, hc⟩
 ·exact .inl h0
 ·rcases xs with _ | ⟨x, xs⟩
  ·exact .inl rfl
  ·have hb : b < w.heap.size := dQ (hc 0 x rfl)
   have hn : b ∉ S := fun hm => hS (by simp) b hm off hA
   exact .inr ⟨b, off, hA, fun j u hu => (World.cell?_of_block (w := w) (w' := w2) (hw b hb hn)).trans (hc j u hu)⟩
theorem Kp.bs {A : Oa} {n : Nat} {xs : Lb} (h : Bs w A n xs) (hS : 0 < n → ∀ g ∈ S, ∀ o, A ≠ some ⟨g, o, none⟩) : Kp w.heap.size S (fun w => Bs w A n xs) w :=
 ⟨Nat.le_refl _, fun w2 hw => ⟨h.1, (Kp.at h.2 fun hne => hS (by rw [← h.1]; exact Nat.pos_of_ne_zero fun e => hne (by rw [List.eq_nil_of_length_eq_zero e]; rfl))).2 w2 hw⟩⟩
theorem Kp.row {base : Nat} {e : TypeId} {A : Oa} {n c : Nat} {xs : List Value} (h : Row w base e A n c xs) (hS : ∀ g ∈ S, g < base) : Kp w.heap.size S (fun w => Row w base e A n c xs) w := by
 refine ⟨Nat.le_refl _, fun w2 hw => ⟨h.1, ?_⟩⟩
 rcases h.2 with h0 | ⟨g, cap, cur, hv, hg, hb, r⟩
 ·exact .inl h0
 ·have hlt : g < w.heap.size := (Array.getElem?_eq_some_iff.1 hb).1
  exact .inr ⟨g, cap, cur, hv, hg, (hw g hlt fun hm => by have := hS g hm; omega).trans hb, r⟩
def Fb (base : Nat) (w : World) (A : Oa) (n : Nat) (xs : Lb) : Prop := Bs w A n xs ∧ (0 < n → ∀ b o, A = some ⟨b, o, none⟩ → base ≤ b)
section
variable {A : Oa} {n c base base' : Nat} {xs : Lb}
theorem Fb.kp (h : Fb base w A n xs) (hS : ∀ g ∈ S, g < base) : Kp w.heap.size S (fun w => Bs w A n xs) w := Kp.bs h.1 fun hn g hg o e => by have := h.2 hn g o e; have := hS g hg; omega
theorem Fb.mono (h : Fb base w A n xs) (hb : base' ≤ base) : Fb base' w A n xs := ⟨h.1, fun hn b o e => Nat.le_trans hb (h.2 hn b o e)⟩
theorem Fb.nil (base : Nat) (w : World) (A : Oa) : Fb base w A 0 [] := ⟨Bs.nil _ _, fun h => absurd h (Nat.lt_irrefl 0)⟩
theorem Row.fb (h : Row w base 5 A n c (xs.map bv)) : Fb base w A n xs := ⟨h.bs, fun _ b o e => by subst e; exact (Row.lt h).1⟩
theorem Fb.bs (h : Fb base w A n xs) : Bs w A n xs := h.1
theorem Bn.fb (h : Bn base w A n xs) : Fb base w A n xs := ⟨h.1, fun _ => h.2⟩
theorem Fb.ext (h : Fb base w A n xs) (e : Ext w w') : Fb base w' A n xs := ⟨h.1.ext e, h.2⟩
end
theorem Row.bT {S : List Nat} {w w' : World} {base n c : Nat} {e : TypeId} {A : Oa} {xs : List Value} (h : Row w base e A n c xs) (k : aX S w w') (hS : ∀ g ∈ S, g < base := by first | (simp; done) | (simp; omega)) : Row w' base e A n c xs :=
 ((Kp.row h hS).bT k (fun _ h => h)).out
section
variable {A : Oa} {n c base base' : Nat} {zs : List Int}
end
end
section
variable {P : Program} {L : List (Nat × Value)} {w : World} {ty t e : TypeId} {x y : Operand}
theorem nZ {g o s : Nat} {cs : Array Value} {d : TypeDesc} (hx : ev L x = some (.pointer (some ⟨g, o, none⟩))) (hu : P.underlying t = some d) (hd : (match d with | .struct _ | .array _ _ => true | _ => false) = true) (hs : (P.info? t).map (·.size) = some s) (hB : ao w g e cs) (hz : Nat.ble (o + s) cs.size = true) : Y P L w (.load t x) ty (.agg ((cs.toList.drop o).take s).toArray) := by
 have hz' : o + s ≤ cs.size := Nat.le_of_ble_eq_true hz
 have hsz : ((cs.toList.drop o).take s).toArray.size = s := by simp; omega
 refine dH hx hu hd (by rw [hsz]; exact hs) fun j v hj => ?_
 rw [Addr.add_plain]
 refine hB.get ?_
 have h1 : ((cs.toList.drop o).take s)[j]? = some v := by simpa using hj
 have hlt : j < s := by
  rcases Nat.lt_or_ge j s with h | h
  ·exact h
  ·rw [List.getElem?_eq_none (by rw [List.length_take]; omega)] at h1; cases h1
 rw [List.getElem?_take_of_lt hlt, List.getElem?_drop] at h1
 simpa using h1
end
section
variable {P : Program} {f : FuncId} {fn : Func} {c : Code} {args : Array Value} {R : Ending → World → Prop} {w : World}
def Jk : List Value → Bool
 | [] => true
 | v :: vs => v.oneCell' && Jk vs
theorem bf {cells : Array Value} (h : Jk cells.toList = true) : cells.all (·.oneCell') = true := by
  rw [← Array.all_toList]
  generalize cells.toList = l at h
  induction l with
  | nil => rfl
  | cons v vs ih =>
    rw [Jk, Bool.and_eq_true] at h
    rw [List.all_cons, h.1, ih h.2]; rfl
end
end
section
open Go.RowKit
section
section
variable {P : Program} {L : List (Nat × Value)} {w : World} {ty t t' e : TypeId} {x y : Operand}
def kL (xs : Lb) : ByteArray := ⟨xs.toArray⟩
theorem nh {A : Oa} {n c : Nat} {xs : Lb} (hx : ev L x = some (.slice A n c)) (HA : Bs w A n xs) (hs : P.underlying t = some (.slice e)) (he : P.underlying e = some (.int .u8)) (hd : P.underlying t' = some .string) :
  Y P L w (.convert t t' x) ty (.string (kL xs)) := fun ρ hρ w' E _ _ _ _ => by
 have HB := HA.wk E
 have key : (convert t t' (.slice A n c)).run P w' = .ok (.string (kL xs)) w' := by
  rcases Nat.eq_zero_or_pos n with h0 | h0
  ·subst h0
   have hx0 : xs = [] := List.eq_nil_of_length_eq_zero HA.1
   subst hx0
   rw [run_convert_bytes_string w' t t' e A 0 c hs he hd]
   cases A with
   | none => simp [Conv.bytesToString, kL]; rfl
   | some a => rw [run_bytesToString w' a 0 c [] (by simp [loadCells, loadCellsFrom])]; rfl
  ·obtain ⟨b, off, rfl, _⟩ := HB.get h0
   have h := run_convert_bytes_arg (P := P) w' t e hs he b off n c (xs.map fun u => (u.toNat : Int)) (by simpa using HA.1) (fun i hi => by
    have hl := HA.1
    obtain ⟨b', off', e1, _, hc⟩ := HB.get hi
    injection e1 with e1
    injection e1 with e1 e2 _
    subst e1; subst e2
    rw [hc]
    simp [List.getD, List.getElem?_eq_getElem (show i < xs.length by omega)]) t' hd
   rw [h]
   have : strOfNums (xs.map fun u => (u.toNat : Int)) = kL xs := by
    unfold strOfNums kL
    congr 1
    rw [List.map_map]
    congr 1
    conv => rhs; rw [← List.map_id xs]
    exact List.map_congr_left fun u _ => by simp
   rw [this]
 simp [execOp, hρ _ _ hx, key]
theorem zD {A : Oa} {n c n' c' : Nat} (hx : ev L x = some (.slice A n c)) (hy : ev L y = some (.slice none n' c')) (hu : P.underlying t = some (.slice e)) : Y P L w (.binOp .eql t x y t') ty (.bool A.isNone) := fun ρ hρ w' _ _ _ _ _ => by
 have h := Lib.run_eql_slice_nil (P := P) w' t e A n c n' c' hu
 simp [execOp, hρ _ _ hx, hρ _ _ hy, eqGuard, h]
end
attribute [local irreducible] Y Ef WL WC WK WQ WM cx WN WF cT
end
section
section
variable {P : Program} {L : List (Nat × Value)} {w : World} {ty t t' e : TypeId} {x y : Operand}
def Ie (P : Program) (e : TypeId) (n : Nat) (qs : List (Nat × Value)) : Option (Array Value) :=
  match P.info? e with
  | some i => match i.zero with
    | some z => if n * i.size = 0 ∨ n * i.size > 2 ^ 24 then none else Instr.fill (fun k => some (k * i.size, i.size)) ((Array.range (n * i.size)).map (z.cells[· % z.cells.size]!)) qs
    | none => none
  | none => none
def Df (w : World) (e : TypeId) (n : Nat) (cs : Array Value) (v : Value) (w' : World) : Prop := ∃ g, v = .slice (some ⟨g, 0, none⟩) n n ∧ ao w' g e cs ∧ w.heap.size ≤ g ∧ Ext w w'
theorem nX {n : Nat} {ps : Array (Nat × Operand)} {qs : List (Nat × Value)} {cells : Array Value} (hu : P.underlying t = some (.slice e)) (hx : JX L ps.toList = some qs) (h : Ie P e n qs = some cells) : Ef P L w (.buildSlice t n ps) ty (Df w e n cells) := Ef.run fun ρ hρ => by
  refine ⟨_, w.alloc (.cells cells e), ⟨w.heap.size, rfl, ao.new w e _, Nat.le_refl _, Ext.alloc w _⟩, fun dst pos after guard => ?_⟩
  unfold Ie at h
  cases hq : P.info? e with
  | none => simp [hq] at h
  | some i =>
    simp only [hq] at h
    cases hz : i.zero with
    | none => simp [hz] at h
    | some z =>
      simp only [hz] at h
      split at h
      · cases h
      · rename_i hno
        have h0 : ¬ n * i.size = 0 := fun e => hno (.inl e)
        have h1 : ¬ n * i.size > 2 ^ 24 := fun e => hno (.inr e)
        have hr := run_buildSlice (P := P) w t e n (ps.map fun p => (p.1, ρ p.2)) cells i z hu hq hz h1 h0 (by rw [Array.toList_map, su hρ ps.toList hx]; exact h)
        have e2 : (execOp ρ ⟨dst, .buildSlice t n ps, ty, pos, after, guard⟩) = (do pure (.value (← Instr.buildSlice t n (ps.map fun p => (p.1, ρ p.2))))) := rfl
        rw [e2]
        simp [hr]
end
attribute [local irreducible] Y Ef WL WC WK WQ WM cx WN WF cT
end
end
end
section
open Go.RowKit
def nf : List (Nat × List Nat) → Nat → List Nat
 | [], _ => []
 | (k, l) :: M, i => cond (Nat.beq k i) l (nf M i)
def iL (M : List (Nat × List Nat)) (js : List Nat) : List Nat := js.foldr (fun j l => nf M j ++ l) []
theorem wv {M : List (Nat × List Nat)} {js : List Nat} {j k : Nat} (hj : j ∈ js) (hk : k ∈ nf M j) : k ∈ iL M js := by
  induction js with
  | nil => cases hj
  | cons i js ih =>
    unfold iL
    rw [List.foldr_cons, List.mem_append]
    rcases List.mem_cons.1 hj with rfl | hj
    · exact .inl hk
    · exact .inr (ih hj)
theorem Cb {M : List (Nat × List Nat)} {j : Nat} (h : (M.map (·.1)).contains j = false) : nf M j = [] := by
  induction M with
  | nil => rfl
  | cons p M ih =>
    obtain ⟨k, l⟩ := p
    simp only [List.map_cons, List.contains_cons, Bool.or_eq_false_iff] at h
    unfold nf
    have hk : Nat.beq k j = false := by
      have h1 : j ≠ k := by simpa using h.1
      cases e : Nat.beq k j with
      | false => rfl
      | true => exact absurd (Nat.eq_of_beq_eq_true e).symm h1
    rw [hk, cond_false]
    exact ih h.2
section
variable {P : Program} {ops : Array Oper} {Q : Exit → Act → World → Prop} {N : Nd} {L : List (Nat × Value)} {w : World} {M : List (Nat × List Nat)}
def Lg (P : Program) (ops : Array Oper) (Q : Exit → Act → World → Prop) (M : List (Nat × List Nat)) : Nat → Array Bool → Act → World → Prop
 | 0, listed, a, w => Region.ready .any ops listed = [] ∧ Q .normal a w
 | n + 1, listed, a, w => (Region.ready .any ops listed = [] → Q .normal a w) ∧
   ∀ i ∈ Region.ready .any ops listed, wpOp P ops Q i (fun a' w' => aX (nf M i) w w' ∧ Lg P ops Q M n (listed.setIfInBounds i true) a' w') a w
theorem xP : ∀ (n : Nat) (listed : Array Bool) (a : Act) (w : World), Lg P ops Q M n listed a w → wpAny P .any ops Q n listed a w
 | 0, _, _, _, h => h
 | n + 1, _, _, _, h => ⟨h.1, fun i hi => wpOp_mono (fun a' w' h' => xP n _ a' w' h'.2) (h.2 i hi)⟩
theorem zd {U : List Nat} {i : Nat} {oi : Oper} {v : Value} (D : Nat → Bool) (hi : ops[i]? = some oi) (hsel : ∀ (j : Nat) (o : Oper) cs b, ops[j]? = some o → o.op ≠ .select cs b)
    (hQ : ∀ c a w, Q (.panic c) (a.put oi.dst v) w → Q (.panic c) a w) :
    ∀ (n : Nat) (listed : Array Bool) (a : Act) (w : World),
      (∀ j oj, ops[j]? = some oj → j ≠ i → listed.getD j true = false → D j = true → ∃ e ∈ oj.after, Region.binds .any e = true ∧ (e.on = i ∨ D e.on = true ∧ listed.getD e.on true = false)) →
      (∀ j oj, ops[j]? = some oj → j ≠ i → listed.getD j true = false → D j = false → oi.apart ops oj = true ∧ ∀ k ∈ nf M j, k ∈ U) →
      i ∈ Region.ready .any ops listed → YieldsIf P ops (fun w' => aX U w w') oi v a →
      Lg P ops Q M n (listed.setIfInBounds i true) (a.put oi.dst v) w → Lg P ops Q M (n + 1) listed a w := by
  intro n
  induction n with
  | zero =>
    intro listed a w _ _ hr hy H
    refine ⟨fun h => (by rw [h] at hr; cases hr), fun j hj => ?_⟩
    by_cases hji : j = i
    · subst hji; exact hy.wpOp hi (aX.refl U w) ⟨aX.refl _ w, H⟩
    · have := ready_mono hj hji
      rw [H.1] at this
      cases this
  | succ n ih =>
    intro listed a w hdep hfree hr hy H
    refine ⟨fun h => (by rw [h] at hr; cases hr), fun j hj => ?_⟩
    by_cases hji : j = i
    · subst hji; exact hy.wpOp hi (aX.refl U w) ⟨aX.refl _ w, H⟩
    · have h1 := H.2 j (ready_mono hj hji)
      obtain ⟨hjun, oj, hoj, hall⟩ := mem_ready.1 hj
      have hDj : D j = false := by
        cases hd : D j with
        | false => rfl
        | true =>
          exfalso
          obtain ⟨e, he, hb, hor⟩ := hdep j oj hoj hji hjun hd
          have h1 := hall e he hb
          rcases hor with heq | ⟨_, hun⟩
          · have h0 := (mem_ready.1 hr).1
            rw [heq] at h1
            rcases Nat.lt_or_ge i listed.size with h' | h'
            · simp [h'] at h0 h1; rw [h0] at h1; cases h1
            · simp [Array.getElem?_eq_none h'] at h1
          · rcases Nat.lt_or_ge e.on listed.size with h' | h'
            · simp [h'] at hun h1; rw [hun] at h1; cases h1
            · simp [Array.getElem?_eq_none h'] at h1
      obtain ⟨hap, hU⟩ := hfree j oj hoj hji hjun hDj
      have h2 := wpOp_putIf hoj hap (fun cs b => hsel i oi cs b hi) (fun cs b => hsel j oj cs b hoj) hQ hy h1
      have back : ∀ k, (listed.setIfInBounds j true).getD k true = false → listed.getD k true = false := fun k hun => by
        by_cases hjk : j = k
        · subst hjk; exact hjun
        · rwa [getD_set_ne true hjk] at hun
      have hdep' : ∀ k ok, ops[k]? = some ok → k ≠ i → (listed.setIfInBounds j true).getD k true = false → D k = true → ∃ e ∈ ok.after, Region.binds .any e = true ∧ (e.on = i ∨ D e.on = true ∧ (listed.setIfInBounds j true).getD e.on true = false) := fun k ok hk hki hun hd => by
        obtain ⟨e, he, hb, hor⟩ := hdep k ok hk hki (back k hun) hd
        refine ⟨e, he, hb, hor.imp id fun ⟨h3, h4⟩ => ⟨h3, ?_⟩⟩
        have hne : j ≠ e.on := by rintro rfl; rw [hDj] at h3; cases h3
        rw [getD_set_ne true hne]; exact h4
      have hfree' : ∀ k ok, ops[k]? = some ok → k ≠ i → (listed.setIfInBounds j true).getD k true = false → D k = false → oi.apart ops ok = true ∧ ∀ q ∈ nf M k, q ∈ U := fun k ok hk hki hun hd =>
        hfree k ok hk hki (back k hun) hd
      refine wpOp_mono (fun a' w' h3 => ?_) h2
      obtain ⟨hy', hx, hrest⟩ := h3
      refine ⟨hx, ih (listed.setIfInBounds j true) a' w' hdep' hfree' (ready_mono hr (Ne.symm hji)) (hy'.imp (fun ⟨q1, q2⟩ => ⟨q1, fun w2 e2 => q2 w2 ((hx.mono hU).tr e2)⟩) id) ?_⟩
      rw [Array.setIfInBounds_comm _ _ hji]
      exact hrest
def WJ (P : Program) (ops : Array Oper) (Q : Exit → Act → World → Prop) (M : List (Nat × List Nat)) (n : Nat) (listed : Array Bool) (N : Nd) (L : List (Nat × Value)) (w : World) : Prop := ∀ a, Fr N L a → Lg P ops Q M n listed a w
theorem iy (M : List (Nat × List Nat)) {id : Nat} {l : List Oper} (hm : P.follows .mixedOrders = true) (n : Nat) (hn : l.length = n) (h : ∀ w', Ext w w' → w'.heap = w.heap → WJ P l.toArray (fW Q) M n (Array.replicate n false) N L w') : WC P Q (.region id l.toArray true) N L w := by
 intro a ha
 subst hn
 have h1 : (Code.region id l.toArray true).wp P (fW Q) a w := by
  refine wp_region_any hm (xP (M := M) _ _ _ _ ?_)
  rw [List.size_toArray]
  exact h _ (Ext.drew w) rfl a ha
 refine wp_mono h1 fun e a w hq => ?_
 cases e <;> first | exact hq | exact hq.elim
theorem iG {n : Nat} {listed : Array Bool} (hr : Region.ready .any ops listed = []) (h : WQ Q .normal N L w) : WJ P ops Q M n listed N L w := by
 intro a ha
 cases n with
 | zero => exact ⟨hr, h a ha⟩
 | succ n => exact ⟨fun _ => h a ha, by rw [hr]; simp⟩
def lV (ks pre : List Nat) (md : Region.Mode) (ops : Array Oper) (listed : Array Bool) (i : Nat) (D : List Bool) : Bool :=
 Region.noSelect ops && (match ops[i]? with
  | none => false
  | some oi => (List.range ops.size).all fun j => j == i || (listed.getD j true || (match ops[j]? with
    | none => true
    | some oj => cond (D.getD j false) (oj.after.any fun e => Region.binds md e && (e.on == i || (D.getD e.on false && !listed.getD e.on true))) (oi.apart ops oj && (pre.contains j || !ks.contains j))))) && (Region.ready md ops listed).contains i
theorem EW {n : Nat} {listed : Array Bool} {i : Nat} {oi : Oper} {v : Value} (pre : List Nat) (hi : ops[i]? = some oi) (hf : lV (M.map (·.1)) pre .any ops listed i (ey .any ops listed i) = true)
  (hy : ∀ a, Fr N L a → YieldsIf P ops (fun w' => aX (iL M pre) w w') oi v a) (hd : gH N oi.dst = true) (h : WJ P ops (fW Q) M n (listed.setIfInBounds i true) N (bL oi.dst v L) w) : WJ P ops (fW Q) M (n + 1) listed N L w := by
 intro a ha
 generalize ey .any ops listed i = D at hf
 simp only [lV, hi, Bool.and_eq_true, List.all_eq_true, List.mem_range, Bool.or_eq_true, beq_iff_eq] at hf
 obtain ⟨⟨h1, h2⟩, h4⟩ := hf
 have key : ∀ j oj, ops[j]? = some oj → j ≠ i → listed.getD j true = false → cond (D.getD j false) (oj.after.any fun e => Region.binds .any e && (e.on == i || (D.getD e.on false && !listed.getD e.on true))) (oi.apart ops oj && (pre.contains j || !(M.map (·.1)).contains j)) = true := fun j oj hj hne hun => by
  have := h2 j (Array.getElem?_eq_some_iff.1 hj).1
  rcases this with h | h | h
  ·exact absurd h hne
  ·rw [hun] at h; cases h
  ·rw [hj] at h; exact h
 refine zd (U := iL M pre) (fun j => D.getD j false) hi (Region.noSelect_spec h1) (fun c a w h => h) n listed a w (fun j oj hj hne hun hd => ?_) (fun j oj hj hne hun hd => ?_) (by simpa using h4) (hy a ha) (h _ (ha.jE hd v))
 ·have k := key j oj hj hne hun
  rw [hd, cond_true] at k
  obtain ⟨e, he, hb⟩ := Array.any_eq_true'.1 k
  simp only [Bool.and_eq_true, Bool.or_eq_true, beq_iff_eq, Bool.not_eq_true'] at hb
  exact ⟨e, he, hb.1, hb.2⟩
 ·have k := key j oj hj hne hun
  rw [hd, cond_false, Bool.and_eq_true, Bool.or_eq_true] at k
  refine ⟨k.1, fun q hq => ?_⟩
  rcases k.2 with k2 | k2
  ·exact wv (by simpa using k2) hq
  ·rw [Cb (by simpa using k2)] at hq; cases hq
theorem Mj {n : Nat} {listed : Array Bool} (i : Nat) (pre : List Nat) {op : Op} {ty : TypeId} {v : Value} {dst : Option Tmp} {pos : String} {after : Array Edge} (hi : ops[i]? = some ⟨dst, op, ty, pos, after, none⟩) (hf : lV (M.map (·.1)) pre .any ops listed i (ey .any ops listed i) = true) (h : ∀ w', aX (iL M pre) w w' → Y P L w' op ty v) (hd : gH N dst = true)
  (hr : WJ P ops (fW Q) M n (listed.setIfInBounds i true) N (bL dst v L) w) : WJ P ops (fW Q) M (n + 1) listed N L w :=
 EW pre hi hf (fun a ha => .inl ⟨rfl, fun w' e => h w' e a.eval (fun _ _ hx => ha.ev hx) w' (Ext.refl w') _ _ _ _⟩) hd hr
def gZ (P : Program) (ops : Array Oper) (Q : Exit → Act → World → Prop) (M : List (Nat × List Nat)) (n : Nat) (listed : Array Bool) (i : Nat) (N : Nd) (L : List (Nat × Value)) (w : World) : Prop :=
 ∀ a, Fr N L a → wpOp P ops Q i (fun a' w' => aX (nf M i) w w' ∧ Lg P ops Q M n (listed.setIfInBounds i true) a' w') a w
theorem Db {n : Nat} {listed : Array Bool} (rs : List Nat) (hr : Region.ready .any ops listed = rs) (hne : rs.isEmpty = false) (h : ∀ i ∈ rs, gZ P ops Q M n listed i N L w) : WJ P ops Q M (n + 1) listed N L w := by
 intro a ha
 refine ⟨fun h0 => ?_, fun i hi => h i (hr ▸ hi) a ha⟩
 rw [hr] at h0
 rw [h0] at hne
 cases hne
theorem eO {n : Nat} {listed : Array Bool} (i : Nat) (hr : Region.ready .any ops listed = [i]) (h : gZ P ops Q M n listed i N L w) : WJ P ops Q M (n + 1) listed N L w :=
 Db [i] hr rfl (fun k hk => by simp only [List.mem_singleton] at hk; subst hk; exact h)
theorem KO {n : Nat} {listed : Array Bool} (i j : Nat) (hr : Region.ready .any ops listed = [i, j]) (h : gZ P ops Q M n listed i N L w) (h' : gZ P ops Q M n listed j N L w) : WJ P ops Q M (n + 1) listed N L w :=
 Db [i, j] hr rfl (fun k hk => by
  simp only [List.mem_cons, List.not_mem_nil, or_false] at hk
  rcases hk with hk | hk <;> subst hk
  ·exact h
  ·exact h')
theorem gv {n : Nat} {listed : Array Bool} {i : Nat} {op : Op} {ty : TypeId} {Φ : Value → World → Prop} {dst : Option Tmp} {pos : String} {after : Array Edge} (hi : ops[i]? = some ⟨dst, op, ty, pos, after, none⟩) (h : Ef P L w op ty Φ) (hd : gH N dst = true)
  (hr : ∀ v w', Φ v w' → aX (nf M i) w w' ∧ WJ P ops Q M n (listed.setIfInBounds i true) N (bL dst v L) w') : gZ P ops Q M n listed i N L w := by
 intro a ha
 unfold wpOp
 simp only [hi]
 rw [if_pos (by simp [Region.wanted])]
 exact .inl (h a N ha _ _ _ _ _ _ fun v w' hv => ⟨(hr v w' hv).1, (hr v w' hv).2 _ (ha.jE hd v)⟩)
section
variable {f : FuncId} {xs : List Operand} {ats : Array TypeId} {vs : List Value} {R : Ending → World → Prop} {fn : Func} {c : Code} {ty : TypeId} {dst : Option Tmp} {pos : String} {after : Array Edge}
theorem yg {n : Nat} {listed : Array Bool} {i : Nat} (hi : ops[i]? = some ⟨dst, .call { callee := .value (.func f), args := xs.toArray, argTypes := ats }, ty, pos, after, none⟩) (hf : P.funcs[f]? = some fn) (hb : fn.body = some c) (hn : (fn.name == "runtime.NumGoroutine") = false) (hx : lI L xs = some vs) (h : Calls P f vs.toArray w R) (hd : gH N dst = true)
  (hr : ∀ e w', R e w' → ∃ v, e = .returned v ∧ aX (nf M i) w w' ∧ WJ P ops Q M n (listed.setIfInBounds i true) N (bL dst v L) w') : gZ P ops Q M n listed i N L w :=
 gv hi (gG hf hb hn hx h hr) hd fun _ _ hv => hv
end
end
section
variable {P : Program} {ops : Array Oper} {Q : Exit → Act → World → Prop} {N : Nd} {L : List (Nat × Value)} {w : World} {M : List (Nat × List Nat)}
theorem pV {n : Nat} {listed : Array Bool} (i : Nat) (pre : List Nat) {op : Op} {ty : TypeId} {v : Value} {dst : Option Tmp} {pos : String} {after : Array Edge} (hi : ops[i]? = some ⟨dst, op, ty, pos, after, none⟩) (h : ∀ w', aX (iL M pre) w w' → Y P L w' op ty v) (hr : WJ P ops (fW Q) M n (listed.setIfInBounds i true) N (bL dst v L) w)
 (hf : lV (M.map (·.1)) pre .any ops listed i (ey .any ops listed i) = true := by kernel_rfl) (hd : gH N dst = true := by exact rfl) : WJ P ops (fW Q) M (n + 1) listed N L w := Mj i pre hi hf h hd hr
end
end
end Go.Proofs.YtgfafidlkldeaaaGreat
