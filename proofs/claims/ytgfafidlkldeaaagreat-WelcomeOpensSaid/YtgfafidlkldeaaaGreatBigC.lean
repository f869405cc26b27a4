/- The reference's Div, Primes, Root, Roots, Sum: what each hands back. -/
import Derived.Test.YtgfafidlkldeaaaGreatVc7
import Derived.Test.YtgfafidlkldeaaaGreatVc
import Derived.Laws.BytesArg
import Derived.Laws.Strings
import Derived.Great.BuildSlice
import Derived.ArgAppend
import Derived.Laws.BitsAllLaws
set_option linter.unusedVariables false
set_option linter.unusedSimpArgs false
set_option maxHeartbeats 4000000
set_option maxRecDepth 4000
namespace Go.Proofs.YtgfafidlkldeaaaGreat
variable {listed : Array Bool} {after : Array Edge} {ops : Array Oper} {ats : Array TypeId} {Z args cells cs old : Array Value} {b' : Bool} {Q : Exit → Act → World → Prop} {fn : Func} {k : IntKind} {M l' : List (Nat × List Nat)} {L qs : List (Nat × Value)} {S S' U js l m os ys : List Nat} {rest : List Oper} {vs xs : List Value} {base i id j n o off : Nat} {N : Nd} {A : Oa} {op : Op} {oi : Oper} {x y : Operand} {dst : Option Tmp} {P : Program} {q : Prop} {pos : String} {t t' ty : TypeId} {v : Value} {w w' w'' w0 : World}
section
open Go.RowKit Tryz
structure aE (S : List Nat) (w w' : World) : Prop where
 os : w'.os = w.os
 tape : w'.tape = w.tape
 output : w'.output = w.output
 size : w.heap.size ≤ w'.heap.size
 block : ∀ k, k < w.heap.size → k ∉ S → w'.heap[k]? = w.heap[k]?
def Kp (N : Nat) (S : List Nat) (Φ : World → Prop) (w : World) : Prop := N ≤ w.heap.size ∧ ∀ w' : World, (∀ k, k < N → k ∉ S → w'.heap[k]? = w.heap[k]?) → Φ w'
section
variable {g k : Nat}
theorem aE.refl (S : List Nat) (w : World) : aE S w w := ⟨rfl, rfl, rfl, Nat.le_refl _, fun _ _ _ => rfl⟩
theorem aE.mono (h : aE S w w') (hs : ∀ k ∈ S, k ∈ S') : aE S' w w' := ⟨h.os, h.tape, h.output, h.size, fun k hk hn => h.block k hk (fun hm => hn (hs k hm))⟩
theorem aE.tr (h : aE S w w') (k : aE S w' w'') : aE S w w'' :=
 ⟨k.os.trans h.os, k.tape.trans h.tape, k.output.trans h.output, Nat.le_trans h.size k.size, fun i hi hn => (k.block i (Nat.lt_of_lt_of_le hi h.size) hn).trans (h.block i hi hn)⟩
theorem aE.of (h : Ext w w') (S : List Nat) : aE S w w' := ⟨h.os, h.tape, h.output, h.size, fun k hk _ => h.block k hk⟩
theorem aE.one (h : lF w g w') : aE [g] w w' := ⟨h.os, h.tape, h.output, h.size, fun k hk hn => h.block k hk (by grind)⟩
theorem aE.aS (h : aE S w w') (hS : ∀ k ∈ S, w.heap.size ≤ k) : Ext w w' := ⟨h.os, h.tape, h.output, h.size, fun k hk => h.block k hk (fun hm => by grind)⟩
theorem aE.ext (h : aE S w w') (e : Ext w' w'') : aE S w w'' := h.tr (.of e S)
theorem aE.bk (h : aE S w w') (k : aE S' w' w'') (hs : ∀ k ∈ S', k ∈ S := by first | (simp; done) | (simp; assumption)) : aE S w w'' := h.tr (k.mono hs)
theorem aE.grow (h : aE S w w') (e : Ext w' w'') (_ : w'.heap.size ≤ k) : aE (k :: S) w w'' := (h.ext e).mono (fun _ h => List.mem_cons_of_mem _ h)
theorem aE.drop (h : aE (k :: S) w w') (hk : w.heap.size ≤ k) : aE S w w' :=
 ⟨h.os, h.tape, h.output, h.size, fun i hi hn => h.block i hi (by grind)⟩
theorem Ext.N0 (h : Ext w w') (k : aE S w' w'') (hS : ∀ g ∈ S, w.heap.size ≤ g) : Ext w w'' :=
 ⟨k.os.trans h.os, k.tape.trans h.tape, k.output.trans h.output, Nat.le_trans h.size k.size, fun i hi => (k.block i (Nat.lt_of_lt_of_le hi h.size) (fun hm => by grind)).trans (h.block i hi)⟩
theorem ao.bk {b : Nat} (h : ao w b t cs) (c : aE S w w') (hb : b ∉ S := by first | (simp; done) | (simp; omega)) : ao w' b t cs := (c.block b h.lt hb).trans h
theorem ao.grow {b : Nat} (h : ao w b t cs) (e : Ext w w') (_ : w.heap.size ≤ k) : ao w' b t cs := h.ext e
theorem _root_.Go.RowKit.Below.grow {a : World} (h : Ext a w) (e : Ext w w') (_ : w.heap.size ≤ k) : Ext a w' := h.tr e
variable {Φ Ψ : World → Prop} {N M : Nat}
theorem Kp.out (h : Kp N S Φ w) : Φ w := h.2 w fun _ _ _ => rfl
theorem Kp.bk (h : Kp N S Φ w) (c : aE S' w w') (hs : ∀ k ∈ S', k ∈ S := by first | (simp; done) | (simp; assumption)) : Kp N S Φ w' :=
 ⟨Nat.le_trans h.1 c.size, fun w2 hw => h.2 w2 fun k hk hn => (hw k hk hn).trans (c.block k (Nat.lt_of_lt_of_le hk h.1) fun hm => hn (hs k hm))⟩
theorem Kp.ext (h : Kp N S Φ w) (e : Ext w w') : Kp N S Φ w' := h.bk (aE.of e []) (by simp)
theorem Kp.grow (h : Kp N S Φ w) (e : Ext w w') (hk : w.heap.size ≤ k) : Kp N (k :: S) Φ w' :=
 ⟨Nat.le_trans h.1 e.size, fun w2 hw => h.2 w2 fun i hi hn => (hw i hi (by simp only [List.mem_cons, not_or]; exact ⟨by have := h.1; omega, hn⟩)).trans (e.block i (Nat.lt_of_lt_of_le hi h.1))⟩
theorem Kp.mono (h : Kp N S Φ w) (hs : ∀ k ∈ S', k ∈ S) : Kp N S' Φ w := ⟨h.1, fun w2 hw => h.2 w2 fun k hk hn => hw k hk fun hm => hn (hs k hm)⟩
theorem Kp.map (h : Kp N S Φ w) (f : ∀ w, Φ w → Ψ w) : Kp N S Ψ w := ⟨h.1, fun w2 hw => f _ (h.2 w2 hw)⟩
theorem Kp.at (h : At w A xs) (hS : xs ≠ [] → ∀ g ∈ S, ∀ o, A ≠ some ⟨g, o, none⟩) : Kp w.heap.size S (fun w => At w A xs) w := by
 refine ⟨Nat.le_refl _, fun w2 hw => ?_⟩
 rcases h with h0 | ⟨b, off, hA, hc⟩
 ·exact .inl h0
 rcases xs with _ | ⟨x, xs⟩
 ·exact .inl rfl
 have hb : b < w.heap.size := dX (hc 0 x rfl);have hn : b ∉ S := fun hm => hS (by simp) b hm off hA;exact .inr ⟨b, off, hA, fun j u hu => (World.cell?_of_block (w := w) (w' := w2) (hw b hb hn)).trans (hc j u hu)⟩
theorem Kp.bs {xs : Lb} (h : Bs w A n xs) (hS : 0 < n → ∀ g ∈ S, ∀ o, A ≠ some ⟨g, o, none⟩) : Kp w.heap.size S (fun w => Bs w A n xs) w :=
 ⟨Nat.le_refl _, fun w2 hw => ⟨h.1, (Kp.at h.2 fun hne => hS (by rw [← h.1]; grind)).2 w2 hw⟩⟩
theorem Kp.nil (S : List Nat) (A : Oa) (h : N ≤ w.heap.size) : Kp N S (fun w => Bs w A 0 []) w := ⟨h, fun _ _ => Bs.nil _ _⟩
theorem Kp.row {e : TypeId} {c : Nat} (h : Row w base e A n c xs) (hS : ∀ g ∈ S, g < base) : Kp w.heap.size S (fun w => Row w base e A n c xs) w := by
 refine ⟨Nat.le_refl _, fun w2 hw => ⟨h.1, ?_⟩⟩
 rcases h.2 with h0 | ⟨g, cap, cur, hv, hg, hb, r⟩
 ·exact .inl h0
 have hlt : g < w.heap.size := (Array.getElem?_eq_some_iff.1 hb).1;exact .inr ⟨g, cap, cur, hv, hg, (hw g hlt fun hm => by grind).trans hb, r⟩
def Fb (base : Nat) (w : World) (A : Oa) (n : Nat) (xs : Lb) : Prop := Bs w A n xs ∧ (0 < n → ∀ b o, A = some ⟨b, o, none⟩ → base ≤ b)
section
variable {c base' : Nat} {xs : Lb}
theorem Fb.kp (h : Fb base w A n xs) (hS : ∀ g ∈ S, g < base) : Kp w.heap.size S (fun w => Bs w A n xs) w := Kp.bs h.1 fun hn g hg o e => by have := h.2 hn g o e; grind
theorem Fb.mono (h : Fb base w A n xs) (hb : base' ≤ base) : Fb base' w A n xs := ⟨h.1, fun hn b o e => Nat.le_trans hb (h.2 hn b o e)⟩
theorem Fb.nil (base : Nat) (w : World) (A : Oa) : Fb base w A 0 [] := ⟨Bs.nil _ _, fun h => absurd h (Nat.lt_irrefl 0)⟩
theorem Row.fb (h : Row w base 5 A n c (xs.map bv)) : Fb base w A n xs := ⟨h.bs, fun _ b o e => by subst e; exact (Row.lt h).1⟩
theorem Fb.bs (h : Fb base w A n xs) : Bs w A n xs := h.1
theorem Bn.fb (h : Bn base w A n xs) : Fb base w A n xs := ⟨h.1, fun _ b o e => (h.2 b o e).1⟩
theorem Fb.ext (h : Fb base w A n xs) (e : Ext w w') : Fb base w' A n xs := ⟨h.1.ext e, h.2⟩
end
theorem Row.bk {S : List Nat} {w w' : World} {c : Nat} {e : TypeId} (h : Row w base e A n c xs) (k : aE S w w') (hS : ∀ g ∈ S, g < base := by first | (simp; done) | (simp; omega)) : Row w' base e A n c xs :=
 ((Kp.row h hS).bk k (fun _ h => h)).out
end
section
variable {e : TypeId}
theorem wQ {g o s : Nat} {cs : Array Value} {d : TypeDesc} (hx : ev L x = some (.pointer (some ⟨g, o, none⟩))) (hu : P.underlying t = some d) (hd : (match d with | .struct _ | .array _ _ => true | _ => false) = true) (hs : (P.info? t).map (·.size) = some s) (hB : ao w g e cs) (hz : Nat.ble (o + s) cs.size = true) : Y P L w (.load t x) ty (.agg ((cs.toList.drop o).take s).toArray) := by
 have hz' : o + s ≤ cs.size := Nat.le_of_ble_eq_true hz;have hsz : ((cs.toList.drop o).take s).toArray.size = s := by simp; omega
 refine dP hx hu hd (by grind) fun j v hj => ?_;rw [Addr.add_plain];refine hB.get ?_;grind
end
section
variable {f : FuncId} {c : Code} {R : Ending → World → Prop}
def M7 : List Value → Bool
 | [] => true
 | v :: vs => v.oneCell' && M7 vs
theorem aO (h : M7 cells.toList = true) : cells.all (·.oneCell') = true := by
  rw [← Array.all_toList];generalize cells.toList = l at h
  induction l with
  | nil => rfl
  | cons v vs ih =>
    rw [M7, Bool.and_eq_true] at h
    grind
theorem oL {ty : TypeId} {u t q : Tmp} (hr : fn.results = #[.cell u ty, .tmp t, .tmp q]) (tmps : Array Value) (w : World) {cs : Array Value} {d : TypeDesc} {g : Nat} {e : TypeId} {v x : Value} (hp : tmps.getD u undef = .pointer (some ⟨g, 0, none⟩)) (h1 : tmps.getD t undef = v) (h2 : tmps.getD q undef = x) (hg : ao w g e cs)
  (hu : P.underlying ty = some d) (hd : (match d with | .struct _ | .array _ _ => true | _ => false) = true) (hi : (P.info? ty).map (·.size) = some cs.size) : (results fn tmps).run P w = .ok (.tuple #[.agg cs, v, x]) w := by
 have hp' : tmps[u]?.getD undef = .pointer (some ⟨g, 0, none⟩) := by simpa using hp
 have h1' : tmps[t]?.getD undef = v := by simpa using h1
 have h2' : tmps[q]?.getD undef = x := by simpa using h2
 simp [results, hr, hp', h1', h2', asAddr, run_loadVar_row w g e ty cs _ d hg hu hd hi]
theorem lZ {ty : TypeId} {s : Nat} {d : TypeDesc} (N : Nat) {u t q : Tmp} (hf : P.funcs[f]? = some fn) (hb : fn.body = some c) (hN : fn.ntmps = N) (hr : fn.results = #[.cell u ty, .tmp t, .tmp q]) (hu : P.underlying ty = some d) (hd : (match d with | .struct _ | .array _ _ => true | _ => false) = true) (hs : (P.info? ty).map (·.size) = some s) (hsz : Nat.ble args.size N = true)
  (h : ∀ Q : Exit → Act → World → Prop, (∀ {N : Nat} {L : List (Nat × Value)} {w : World} {g : Nat} {e : TypeId} {cs : Array Value} {v x : Value}, look L u = some (.pointer (some ⟨g, 0, none⟩)) → look L t = some v → look L q = some x → ao w g e cs → cs.size = s → R (.returned (.tuple #[.agg cs, v, x])) w → WQ Q .ret N L w) → WC P Q c N (gk 0 args.toList) w) : Calls P f args w R :=
 fk N hf hb hN hsz fun Q hQ => h Q fun {N L w g e cs v x} hv ht hq hg hsz' hR a ha => hQ (bodyPost_ret (v := .tuple #[.agg cs, v, x]) (oL hr _ _ (cK (ha.has _ _ hv)) (cK (ha.has _ _ ht)) (cK (ha.has _ _ hq)) hg hu hd (by grind)) ha.defers hR)
end
section
variable {e : TypeId}
theorem wH {s u : ByteArray} (hx : ev L x = some (.string s)) (hy : ev L y = some (.string u)) : Y P L w (.binOp .eql t x y t') ty (.bool (s.toList == u.toList)) := fun ρ hρ w' _ _ _ _ _ => by simp [execOp, hρ _ _ hx, hρ _ _ hy, eqGuard, binOp, Op.stringOp]
def lx (xs : Lb) : ByteArray := ⟨xs.toArray⟩
theorem uT (xs : Lb) : (lx xs).toList = xs := by exact Go.ByteArray.toList_mk xs
theorem MA (xs ys : Lb) : ((lx xs).toList == (lx ys).toList) = decide (xs = ys) := by rw [uT, uT];grind
theorem jS {c : Nat} {xs : Lb} (hx : ev L x = some (.slice A n c)) (HA : Bs w A n xs) (hs : P.underlying t = some (.slice e)) (he : P.underlying e = some (.int .u8)) (hd : P.underlying t' = some .string) :
  Y P L w (.convert t t' x) ty (.string (lx xs)) := fun ρ hρ w' E _ _ _ _ => by
 have HB := HA.wk E
 have key : (convert t t' (.slice A n c)).run P w' = .ok (.string (lx xs)) w' := by
  rcases Nat.eq_zero_or_pos n with h0 | h0
  ·subst h0;have hx0 : xs = [] := List.eq_nil_of_length_eq_zero HA.1;subst hx0;rw [run_convert_bytes_string w' t t' e A 0 c hs he hd]
   cases A with
   | none => simp [Conv.bytesToString, lx]; rfl
   | some a => rw [run_bytesToString w' a 0 c [] (by simp [loadCells, loadCellsFrom])]; rfl
  obtain ⟨b, off, rfl, _⟩ := HB.get h0
  have h := run_convert_bytes_arg (P := P) w' t e hs he b off n c (xs.map fun u => (u.toNat : Int)) (by simpa using HA.1) (fun i hi => by
   have hl := HA.1;obtain ⟨b', off', e1, _, hc⟩ := HB.get hi
   grind) t' hd
  rw [h]
  have : strOfNums (xs.map fun u => (u.toNat : Int)) = lx xs := by
   unfold strOfNums lx;congr 1;rw [List.map_map];congr 1;conv => rhs; rw [← List.map_id xs]
   exact List.map_congr_left fun u _ => by simp
  rw [this]
 simp [execOp, hρ _ _ hx, key]
theorem pD {c n' c' : Nat} (hx : ev L x = some (.slice A n c)) (hy : ev L y = some (.slice none n' c')) (hu : P.underlying t = some (.slice e)) : Y P L w (.binOp .eql t x y t') ty (.bool A.isNone) := fun ρ hρ w' _ _ _ _ _ => by have h := Lib.run_eql_slice_nil (P := P) w' t e A n c n' c' hu;simp [execOp, hρ _ _ hx, hρ _ _ hy, eqGuard, h]
end
attribute [local irreducible] Y Ef WL WC WK WQ WM cv WN WF cZ
theorem sk (A B : Oa) (n c m d : Nat) (xs ys : Lb) (w : World) (HA : Bs w A n xs) (HB : Bs w B m ys) :
  Ct 89 #[.slice A n c, .slice B m d] w fun e w' => e = .returned (.bool (decide (xs = ys))) ∧ Ext w w' := by
 refine ai 10 func89 rfl rfl rfl rfl ?_;intro Q hret;refine er ?_; intro K1 hK1;refine ez ?_;refine al (fp rfl) ?_;refine iL ?_;refine ae (hK1 ?_);refine er ?_; intro K2 hK2;refine ez ?_;refine al (aY rfl) ?_;refine al (jS rfl HA underlying23 underlying5 underlying9) ?_;refine al (aY rfl) ?_;refine al (jS rfl HB underlying23 underlying5 underlying9) ?_;refine al (wH rfl rfl) ?_;refine al (fp rfl) ?_;refine iL ?_;refine ae (hK2 ?_);refine qk ?_;refine hret rfl ?_;exact ⟨by rw [MA], Ext.refl _⟩
section
variable {e : TypeId}
def OK (P : Program) (e : TypeId) (n : Nat) (qs : List (Nat × Value)) : Option (Array Value) :=
  match P.info? e with
  | some i => match i.zero with
    | some z => if n * i.size = 0 ∨ n * i.size > 2 ^ 24 then none else Instr.fill (fun k => some (k * i.size, i.size)) ((Array.range (n * i.size)).map (z.cells[· % z.cells.size]!)) qs
    | none => none
  | none => none
def Rk (w : World) (e : TypeId) (n : Nat) (cs : Array Value) (v : Value) (w' : World) : Prop := ∃ g, v = .slice (some ⟨g, 0, none⟩) n n ∧ ao w' g e cs ∧ w.heap.size ≤ g ∧ Ext w w'
theorem rF {ps : Array (Nat × Operand)} (hu : P.underlying t = some (.slice e)) (hx : QV L ps.toList = some qs) (h : OK P e n qs = some cells) : Ef P L w (.buildSlice t n ps) ty (Rk w e n cells) := Ef.run fun ρ hρ => by
  refine ⟨_, w.alloc (.cells cells e), ⟨w.heap.size, rfl, ao.new w e _, Nat.le_refl _, Ext.alloc w _⟩, fun dst pos after guard => ?_⟩;unfold OK at h
  cases hq : P.info? e with
  | none => simp [hq] at h
  | some i =>
    simp only [hq] at h
    cases hz : i.zero with
    | none => simp [hz] at h
    | some z =>
      simp only [hz] at h
      split at h
      · cases h
      rename_i hno
      have h0 : ¬ n * i.size = 0 := fun e => hno (.inl e)
      have h1 : ¬ n * i.size > 2 ^ 24 := fun e => hno (.inr e)
      have hr := run_buildSlice (P := P) w t e n (ps.map fun p => (p.1, ρ p.2)) cells i z hu hq hz h1 h0 (by rw [Array.toList_map, C8 hρ ps.toList hx]; exact h)
      have e2 : (execOp ρ ⟨dst, .buildSlice t n ps, ty, pos, after, guard⟩) = (do pure (.value (← Instr.buildSlice t n (ps.map fun p => (p.1, ρ p.2))))) := rfl
      simp_all
end
theorem AJ (A : Oa) (n c : Nat) (xs : Lb) (w : World) (HA : Bs w A n xs) (hn : n ≤ 35184372088832) :
  Ct 100 #[.slice A n c] w fun e w' => ∃ A' c', e = .returned (.slice A' n c') ∧ Bs w' A' n xs ∧ (∀ b o, A' = some ⟨b, o, none⟩ → w.heap.size ≤ b) ∧ Ext w w' := by
 refine ai 8 func100 rfl rfl rfl rfl ?_;intro Q hret;refine er ?_; intro K1 hK1;refine ez ?_;refine al (fp rfl) ?_;refine iL ?_;refine ae (hK1 ?_);refine er ?_; intro K2 hK2;refine er ?_; intro K3 hK3;refine ez ?_;refine al (aY rfl) ?_;refine al (pD rfl rfl underlying23) ?_;refine iL ?_;refine ae (hK3 ?_);refine bB rfl (fun hc1 => ?_) (fun hc1 => ?_)
 ·skip;refine er ?_; intro K4 hK4;refine ez ?_;refine al (fp rfl) ?_;refine iL ?_;refine ae (hK4 ?_);refine qk ?_;refine lX ?_;refine hret rfl ?_;obtain rfl : A = none := by simp_all
  have hn0 : n = 0 := by
   rcases Nat.eq_zero_or_pos n with h | h
   ·exact h
   obtain ⟨b, off, hA, _⟩ := HA.get h;cases hA
  subst hn0;exact ⟨none, 0, rfl, HA, fun _ _ h => (by cases h), Ext.refl _⟩
 skip;refine vG ?_;refine ae (hK2 ?_);refine er ?_; intro K5 hK5;refine ez ?_;refine ag (aF (z := .int .u8 0) underlying23 Kr rfl rfl rfl rfl rfl) rfl ?_;rintro _ w1 ⟨g1, rfl, B1, hg1, ex⟩;have E1 := ex; have R1 : Row w1 w.heap.size 5 (some ⟨g1, 0, none⟩) 0 0 [] := Row.new B1 hg1 rfl Om;refine al (aY rfl) ?_;refine ag (iF rfl rfl bT R1 (HA.ext E1).2 (by rw [List.length_map, HA.1]) aJ Om Om E1.size) rfl ?_;rintro _ w2 ⟨A2, c2, rfl, R2, be, gr, hl⟩;have E2 := E1.trans be;refine al (fp rfl) ?_;refine iL ?_;refine ae (hK5 ?_);refine qk ?_;refine hret rfl ?_;exact ⟨A2, c2, rfl, R2.bs, fun b o h => (by subst h; exact (Row.lt R2).1), E2⟩
theorem xz (A : Oa) (n c : Nat) (xs : Lb) (w : World) (HA : Bs w A n xs) (hn : n ≤ 35184372088832) :
  Ct 100 #[.slice A n c] w fun e w' => ∃ A' c', e = .returned (.slice A' n c') ∧ n ≤ c' ∧ Bs w' A' n xs ∧ (∀ b o, A' = some ⟨b, o, none⟩ → w.heap.size ≤ b) ∧ Ext w w' := by
 refine ai 8 func100 rfl rfl rfl rfl ?_;intro Q hret;refine er ?_; intro K1 hK1;refine ez ?_;refine al (fp rfl) ?_;refine iL ?_;refine ae (hK1 ?_);refine er ?_; intro K2 hK2;refine er ?_; intro K3 hK3;refine ez ?_;refine al (aY rfl) ?_;refine al (pD rfl rfl underlying23) ?_;refine iL ?_;refine ae (hK3 ?_);refine bB rfl (fun hc1 => ?_) (fun hc1 => ?_)
 ·skip;refine er ?_; intro K4 hK4;refine ez ?_;refine al (fp rfl) ?_;refine iL ?_;refine ae (hK4 ?_);refine qk ?_;refine lX ?_;refine hret rfl ?_;obtain rfl : A = none := by simp_all
  have hn0 : n = 0 := by
   rcases Nat.eq_zero_or_pos n with h | h
   ·exact h
   obtain ⟨b, off, hA, _⟩ := HA.get h;cases hA
  subst hn0;exact ⟨none, 0, rfl, Nat.le_refl _, HA, fun _ _ h => (by cases h), Ext.refl _⟩
 skip;refine vG ?_;refine ae (hK2 ?_);refine er ?_; intro K5 hK5;refine ez ?_;refine ag (aF (z := .int .u8 0) underlying23 Kr rfl rfl rfl rfl rfl) rfl ?_;rintro _ w1 ⟨g1, rfl, B1, hg1, ex⟩;have E1 := ex; have R1 : Row w1 w.heap.size 5 (some ⟨g1, 0, none⟩) 0 0 [] := Row.new B1 hg1 rfl Om;refine al (aY rfl) ?_;refine ag (iF rfl rfl bT R1 (HA.ext E1).2 (by rw [List.length_map, HA.1]) aJ Om Om E1.size) rfl ?_;rintro _ w2 ⟨A2, c2, rfl, R2, be, gr, hl⟩;have E2 := E1.trans be;refine al (fp rfl) ?_;refine iL ?_;refine ae (hK5 ?_);refine qk ?_;refine hret rfl ?_;exact ⟨A2, c2, rfl, R2.cap, R2.bs, fun b o h => (by subst h; exact (Row.lt R2).1), E2⟩
end
section
open Go.RowKit
def qo : List (Nat × List Nat) → Nat → List Nat
 | [], _ => []
 | (k, l) :: M, i => cond (Nat.beq k i) l (qo M i)
def kq (M : List (Nat × List Nat)) (js : List Nat) : List Nat := js.foldr (fun j l => qo M j ++ l) []
theorem CC {k : Nat} (hj : j ∈ js) (hk : k ∈ qo M j) : k ∈ kq M js := by
  induction js with
  | nil => cases hj
  | cons i js ih =>
    unfold kq
    rw [List.foldr_cons, List.mem_append]
    rcases List.mem_cons.1 hj with rfl | hj
    · exact .inl hk
    exact .inr (ih hj)
theorem Lt (h : (M.map (·.1)).contains j = false) : qo M j = [] := by
  induction M with
  | nil => rfl
  | cons p M ih =>
    obtain ⟨k, l⟩ := p
    simp only [List.map_cons, List.contains_cons, Bool.or_eq_false_iff] at h
    unfold qo
    have hk : Nat.beq k j = false := by
      have h1 : j ≠ k := by simpa using h.1
      cases e : Nat.beq k j with
      | false => rfl
      | true => simp_all
    grind
section
def RP (P : Program) (ops : Array Oper) (Q : Exit → Act → World → Prop) (M : List (Nat × List Nat)) : Nat → Array Bool → Act → World → Prop
 | 0, listed, a, w => Region.ready .any ops listed = [] ∧ Q .normal a w
 | n + 1, listed, a, w => (Region.ready .any ops listed = [] → Q .normal a w) ∧
   ∀ i ∈ Region.ready .any ops listed, wpOp P ops Q i (fun a' w' => aE (qo M i) w w' ∧ RP P ops Q M n (listed.setIfInBounds i true) a' w') a w
theorem DW : ∀ (n : Nat) (listed : Array Bool) (a : Act) (w : World), RP P ops Q M n listed a w → wpAny P .any ops Q n listed a w
 | 0, _, _, _, h => h
 | n + 1, _, _, _, h => ⟨h.1, fun i hi => wpOp_mono (fun a' w' h' => DW n _ a' w' h'.2) (h.2 i hi)⟩
theorem Gn (D : Nat → Bool) (hi : ops[i]? = some oi) (hsel : ∀ (j : Nat) (o : Oper) cs b, ops[j]? = some o → o.op ≠ .select cs b)
    (hQ : ∀ c a w, Q (.panic c) (a.put oi.dst v) w → Q (.panic c) a w) :
    ∀ (n : Nat) (listed : Array Bool) (a : Act) (w : World),
      (∀ j oj, ops[j]? = some oj → j ≠ i → listed.getD j true = false → D j = true → ∃ e ∈ oj.after, Region.binds .any e = true ∧ (e.on = i ∨ D e.on = true ∧ listed.getD e.on true = false)) →
      (∀ j oj, ops[j]? = some oj → j ≠ i → listed.getD j true = false → D j = false → oi.apart ops oj = true ∧ ∀ k ∈ qo M j, k ∈ U) →
      i ∈ Region.ready .any ops listed → YieldsIf P ops (fun w' => aE U w w') oi v a →
      RP P ops Q M n (listed.setIfInBounds i true) (a.put oi.dst v) w → RP P ops Q M (n + 1) listed a w := by
  intro n
  induction n with
  | zero =>
    intro listed a w _ _ hr hy H
    refine ⟨fun h => (by grind), fun j hj => ?_⟩
    by_cases hji : j = i
    · subst hji; exact hy.wpOp hi (aE.refl U w) ⟨aE.refl _ w, H⟩
    have := ready_mono hj hji
    rw [H.1] at this
    cases this
  | succ n ih =>
    intro listed a w hdep hfree hr hy H
    refine ⟨fun h => (by grind), fun j hj => ?_⟩
    by_cases hji : j = i
    · subst hji; exact hy.wpOp hi (aE.refl U w) ⟨aE.refl _ w, H⟩
    have h1 := H.2 j (ready_mono hj hji)
    obtain ⟨hjun, oj, hoj, hall⟩ := mem_ready.1 hj
    have hDj : D j = false := by
      cases hd : D j with
      | false => rfl
      | true =>
        exfalso
        obtain ⟨e, he, hb, hor⟩ := hdep j oj hoj hji hjun hd
        have h1 := hall e he hb
        rcases hor with heq | ⟨_, hun⟩
        · have h0 := (mem_ready.1 hr).1
          grind
        grind
    obtain ⟨hap, hU⟩ := hfree j oj hoj hji hjun hDj
    have h2 := wpOp_putIf hoj hap (fun cs b => hsel i oi cs b hi) (fun cs b => hsel j oj cs b hoj) hQ hy h1
    have back : ∀ k, (listed.setIfInBounds j true).getD k true = false → listed.getD k true = false := fun k hun => by
      by_cases hjk : j = k
      · grind
      simp_all
    have hdep' : ∀ k ok, ops[k]? = some ok → k ≠ i → (listed.setIfInBounds j true).getD k true = false → D k = true → ∃ e ∈ ok.after, Region.binds .any e = true ∧ (e.on = i ∨ D e.on = true ∧ (listed.setIfInBounds j true).getD e.on true = false) := fun k ok hk hki hun hd => by
      obtain ⟨e, he, hb, hor⟩ := hdep k ok hk hki (back k hun) hd;refine ⟨e, he, hb, hor.imp id fun ⟨h3, h4⟩ => ⟨h3, ?_⟩⟩;have hne : j ≠ e.on := by grind
      simp_all
    have hfree' : ∀ k ok, ops[k]? = some ok → k ≠ i → (listed.setIfInBounds j true).getD k true = false → D k = false → oi.apart ops ok = true ∧ ∀ q ∈ qo M k, q ∈ U := fun k ok hk hki hun hd =>
      hfree k ok hk hki (back k hun) hd
    refine wpOp_mono (fun a' w' h3 => ?_) h2
    obtain ⟨hy', hx, hrest⟩ := h3
    refine ⟨hx, ih (listed.setIfInBounds j true) a' w' hdep' hfree' (ready_mono hr (Ne.symm hji)) (hy'.imp (fun ⟨q1, q2⟩ => ⟨q1, fun w2 e2 => q2 w2 ((hx.mono hU).tr e2)⟩) id) ?_⟩
    rw [Array.setIfInBounds_comm _ _ hji]
    exact hrest
def WJ (P : Program) (ops : Array Oper) (Q : Exit → Act → World → Prop) (M : List (Nat × List Nat)) (n : Nat) (listed : Array Bool) (N : Nd) (L : List (Nat × Value)) (w : World) : Prop := ∀ a, Fr N L a → RP P ops Q M n listed a w
theorem cu (M : List (Nat × List Nat)) {l : List Oper} (hm : P.follows .mixedOrders = true) (n : Nat) (hn : l.length = n) (h : ∀ w', Ext w w' → w'.heap = w.heap → WJ P l.toArray (jD Q) M n (Array.replicate n false) N L w') : WC P Q (.region id l.toArray true) N L w := by
 intro a ha;subst hn
 have h1 : (Code.region id l.toArray true).wp P (jD Q) a w := by refine wp_region_any hm (DW (M := M) _ _ _ _ ?_);rw [List.size_toArray];exact h _ (Ext.drew w) rfl a ha
 refine wp_mono h1 fun e a w hq => ?_;cases e <;> first | exact hq | exact hq.elim
theorem cN (hr : Region.ready .any ops listed = []) (h : WQ Q .normal N L w) : WJ P ops Q M n listed N L w := by
 intro a ha
 cases n with
 | zero => exact ⟨hr, h a ha⟩
 | succ n => exact ⟨fun _ => h a ha, by rw [hr]; simp⟩
def oJ (ks pre : List Nat) (md : Region.Mode) (ops : Array Oper) (listed : Array Bool) (i : Nat) (D : List Bool) : Bool :=
 Region.noSelect ops && (match ops[i]? with
  | none => false
  | some oi => (List.range ops.size).all fun j => j == i || (listed.getD j true || (match ops[j]? with
    | none => true
    | some oj => cond (D.getD j false) (oj.after.any fun e => Region.binds md e && (e.on == i || (D.getD e.on false && !listed.getD e.on true))) (oi.apart ops oj && (pre.contains j || !ks.contains j))))) && (Region.ready md ops listed).contains i
theorem Me (pre : List Nat) (hi : ops[i]? = some oi) (hf : oJ (M.map (·.1)) pre .any ops listed i (iy .any ops listed i) = true)
  (hy : ∀ a, Fr N L a → YieldsIf P ops (fun w' => aE (kq M pre) w w') oi v a) (hd : jO N oi.dst = true) (h : WJ P ops (jD Q) M n (listed.setIfInBounds i true) N (cG oi.dst v L) w) : WJ P ops (jD Q) M (n + 1) listed N L w := by
 intro a ha;generalize iy .any ops listed i = D at hf;simp only [oJ, hi, Bool.and_eq_true, List.all_eq_true, List.mem_range, Bool.or_eq_true, beq_iff_eq] at hf;obtain ⟨⟨h1, h2⟩, h4⟩ := hf
 have key : ∀ j oj, ops[j]? = some oj → j ≠ i → listed.getD j true = false → cond (D.getD j false) (oj.after.any fun e => Region.binds .any e && (e.on == i || (D.getD e.on false && !listed.getD e.on true))) (oi.apart ops oj && (pre.contains j || !(M.map (·.1)).contains j)) = true := fun j oj hj hne hun => by grind
 refine Gn (U := kq M pre) (fun j => D.getD j false) hi (Region.noSelect_spec h1) (fun c a w h => h) n listed a w (fun j oj hj hne hun hd => ?_) (fun j oj hj hne hun hd => ?_) (by simpa using h4) (hy a ha) (h _ (ha.oD hd v))
 ·grind
 have k := key j oj hj hne hun;rw [hd, cond_false, Bool.and_eq_true, Bool.or_eq_true] at k;refine ⟨k.1, fun q hq => ?_⟩;rcases k.2 with k2 | k2
 ·exact CC (by simpa using k2) hq
 rw [Lt (by simpa using k2)] at hq; cases hq
theorem SQ (i : Nat) (pre : List Nat) (hi : ops[i]? = some ⟨dst, op, ty, pos, after, none⟩) (hf : oJ (M.map (·.1)) pre .any ops listed i (iy .any ops listed i) = true) (h : ∀ w', aE (kq M pre) w w' → Y P L w' op ty v) (hd : jO N dst = true)
  (hr : WJ P ops (jD Q) M n (listed.setIfInBounds i true) N (cG dst v L) w) : WJ P ops (jD Q) M (n + 1) listed N L w :=
 Me pre hi hf (fun a ha => .inl ⟨rfl, fun w' e => h w' e a.eval (fun _ _ hx => ha.ev hx) w' (Ext.refl w') _ _ _ _⟩) hd hr
def gI (P : Program) (ops : Array Oper) (Q : Exit → Act → World → Prop) (M : List (Nat × List Nat)) (n : Nat) (listed : Array Bool) (i : Nat) (N : Nd) (L : List (Nat × Value)) (w : World) : Prop :=
 ∀ a, Fr N L a → wpOp P ops Q i (fun a' w' => aE (qo M i) w w' ∧ RP P ops Q M n (listed.setIfInBounds i true) a' w') a w
theorem Jk (rs : List Nat) (hr : Region.ready .any ops listed = rs) (hne : rs.isEmpty = false) (h : ∀ i ∈ rs, gI P ops Q M n listed i N L w) : WJ P ops Q M (n + 1) listed N L w := by intro a ha;refine ⟨fun h0 => ?_, fun i hi => h i (hr ▸ hi) a ha⟩;grind
theorem cJ (i : Nat) (hr : Region.ready .any ops listed = [i]) (h : gI P ops Q M n listed i N L w) : WJ P ops Q M (n + 1) listed N L w :=
 Jk [i] hr rfl (fun k hk => by grind)
theorem RE (i j : Nat) (hr : Region.ready .any ops listed = [i, j]) (h : gI P ops Q M n listed i N L w) (h' : gI P ops Q M n listed j N L w) : WJ P ops Q M (n + 1) listed N L w :=
 Jk [i, j] hr rfl (fun k hk => by
  grind)
theorem dt {Φ : Value → World → Prop} (hi : ops[i]? = some ⟨dst, op, ty, pos, after, none⟩) (h : Ef P L w op ty Φ) (hd : jO N dst = true)
  (hr : ∀ v w', Φ v w' → aE (qo M i) w w' ∧ WJ P ops Q M n (listed.setIfInBounds i true) N (cG dst v L) w') : gI P ops Q M n listed i N L w := by
 intro a ha;unfold wpOp;simp only [hi];rw [if_pos (by simp [Region.wanted])];exact .inl (h a N ha _ _ _ _ _ _ fun v w' hv => ⟨(hr v w' hv).1, (hr v w' hv).2 _ (ha.oD hd v)⟩)
variable {f : FuncId} {xs : List Operand} {R : Ending → World → Prop} {c : Code}
theorem DR (hi : ops[i]? = some ⟨dst, .call { callee := .value (.func f), args := xs.toArray, argTypes := ats }, ty, pos, after, none⟩) (hf : P.funcs[f]? = some fn) (hb : fn.body = some c) (hn : (fn.name == "runtime.NumGoroutine") = false) (hx : qe L xs = some vs) (h : Calls P f vs.toArray w R) (hd : jO N dst = true)
  (hr : ∀ e w', R e w' → ∃ v, e = .returned v ∧ aE (qo M i) w w' ∧ WJ P ops Q M n (listed.setIfInBounds i true) N (cG dst v L) w') : gI P ops Q M n listed i N L w :=
 dt hi (kU hf hb hn hx h hr) hd fun _ _ hv => hv
end
theorem jw (i : Nat) (pre : List Nat) (hi : ops[i]? = some ⟨dst, op, ty, pos, after, none⟩) (h : ∀ w', aE (kq M pre) w w' → Y P L w' op ty v) (hr : WJ P ops (jD Q) M n (listed.setIfInBounds i true) N (cG dst v L) w)
 (hf : oJ (M.map (·.1)) pre .any ops listed i (iy .any ops listed i) = true := by kernel_rfl) (hd : jO N dst = true := by exact rfl) : WJ P ops (jD Q) M (n + 1) listed N L w := SQ i pre hi hf h hd hr
end
section
open Go.RowKit Tryz
class Tn (t : TypeId) (s : outParam Nat) (d : outParam TypeDesc) (i : outParam TypeInfo) : Prop where
 o : Tryz.prog.types[t]? = some i
 s : i.size = s
 u : Tryz.prog.underlying t = some d
theorem Tg {i : TypeInfo} {β : Type} {f : TypeInfo → β} {s : β} (h : P.types[t]? = some i) (e : f i = s) : (P.info? t).map f = some s := by have ht : t < P.types.size := (Array.getElem?_eq_some_iff.1 h).1;unfold Tables.info?; rw [if_pos ht, h]; exact congrArg some e
theorem tz {t s d i} [h : Tn t s d i] : (Tryz.prog.info? t).map (·.size) = some s := Tg h.o h.s
theorem TR {t s d i} [h : Tn t s d i] (e : cs.size = s) : (Tryz.prog.info? t).map (·.size) = some cs.size := Tg h.o (h.s.trans e.symm)
theorem Vf {t s d i} [h : Tn t s d i] (e : i.zero = some (.agg Z)) : (Tryz.prog.info? t).map (fun i => i.zero.map (·.cells)) = some (some Z) := Tg h.o (by rw [e]; rfl)
theorem U4 {t s d i v} [h : Tn t s d i] (e : i.zero = some v) (e' : v.cells = #[v]) : (Tryz.prog.info? t).map (fun i => i.zero.map (·.cells)) = some (some #[v]) := Tg h.o (by rw [e]; exact congrArg some e')
def Pc (P : Program) (fs : Array Field) (os : List Nat) : Bool := fs.toList.map (·.offset) == os && fs.toList.all fun f => ((P.info? f.type).map fun i => i.size == 0) == some false
class Fs (t : TypeId) (os : outParam (List Nat)) : Prop where
 f : ∃ fs, Tryz.prog.underlying t = some (.struct fs) ∧ Pc Tryz.prog fs os = true
theorem rA {fs : Array Field} (u : Tryz.prog.underlying t = some (.struct fs)) (h : Pc Tryz.prog fs os = true := by kernel_rfl) : Fs t os := ⟨fs, u, h⟩
theorem UY {b : Nat} [h : Fs t os] (hx : ev L x = some (.pointer (some ⟨b, off, none⟩))) (ho : os[i]? = some o) :
  Y Tryz.prog L w (.fieldAddr t x i) ty (.pointer (some ⟨b, off + o, none⟩)) := by
 obtain ⟨fs, hu, hb⟩ := h.f;unfold Pc at hb;simp only [Bool.and_eq_true, beq_iff_eq, List.all_eq_true] at hb;obtain ⟨e, ha⟩ := hb;subst e;rw [List.getElem?_map] at ho;obtain ⟨f, hf, rfl⟩ := Option.map_eq_some_iff.1 ho;have h1 := ha f (List.mem_of_getElem? hf)
 cases hs : Tryz.prog.info? f.type with
 | none => rw [hs] at h1; cases h1
 | some j =>
  rw [hs] at h1
  exact qv (ft := f.type) (s := j.size) hx hu (by rw [← Array.getElem?_toList, hf]; rfl) (by rw [hs]; rfl) (by injection h1) rfl
instance : Tn 3 1 t3.desc t3 := ⟨type3, rfl, underlying3⟩
instance : Tn 4 1 t4.desc t4 := ⟨type4, rfl, underlying4⟩
instance : Tn 5 1 t5.desc t5 := ⟨type5, rfl, underlying5⟩
instance : Tn 9 1 t9.desc t9 := ⟨type9, rfl, underlying9⟩
instance : Tn 22 1 t22.desc t22 := ⟨type22, rfl, underlying22⟩
instance : Tn 23 1 t23.desc t23 := ⟨type23, rfl, underlying23⟩
instance : Tn 25 2 t24.desc t25 := ⟨type25, rfl, underlying25⟩
instance : Tn 27 6 t26.desc t27 := ⟨type27, rfl, underlying27⟩
instance : Tn 29 8 t28.desc t29 := ⟨type29, rfl, underlying29⟩
instance : Tn 35 2 t34.desc t35 := ⟨type35, rfl, underlying35⟩
instance : Tn 37 3 t36.desc t37 := ⟨type37, rfl, underlying37⟩
instance : Tn 38 1 t38.desc t38 := ⟨type38, rfl, underlying38⟩
instance : Tn 40 4 t39.desc t40 := ⟨type40, rfl, underlying40⟩
instance : Tn 42 7 t41.desc t42 := ⟨type42, rfl, underlying42⟩
instance : Tn 44 12 t43.desc t44 := ⟨type44, rfl, underlying44⟩
instance : Tn 46 20 t45.desc t46 := ⟨type46, rfl, underlying46⟩
instance : Tn 47 1 t5.desc t47 := ⟨type47, rfl, underlying47⟩
instance : Tn 51 3 t50.desc t51 := ⟨type51, rfl, underlying51⟩
instance : Tn 56 1 t56.desc t56 := ⟨type56, rfl, underlying56⟩
instance : Tn 58 1 t58.desc t58 := ⟨type58, rfl, underlying58⟩
instance : Tn 59 1 t59.desc t59 := ⟨type59, rfl, underlying59⟩
instance : Tn 68 9 t67.desc t68 := ⟨type68, rfl, underlying68⟩
instance : Tn 77 2 t76.desc t77 := ⟨type77, rfl, underlying77⟩
instance : Tn 127 1 t127.desc t127 := ⟨type127, rfl, underlying127⟩
instance : Tn 132 5 t132.desc t132 := ⟨type132, rfl, underlying132⟩
instance : Tn 134 5 t133.desc t134 := ⟨type134, rfl, underlying134⟩
instance : Tn 136 21 t135.desc t136 := ⟨type136, rfl, underlying136⟩
instance : Tn 139 4 t139.desc t139 := ⟨type139, rfl, underlying139⟩
instance : Tn 141 4 t140.desc t141 := ⟨type141, rfl, underlying141⟩
instance : Tn 154 1 t154.desc t154 := ⟨type154, rfl, underlying154⟩
instance : Tn 157 1 t157.desc t157 := ⟨type157, rfl, underlying157⟩
instance : Tn 159 2 t158.desc t159 := ⟨type159, rfl, underlying159⟩
instance : Tn 167 3 t166.desc t167 := ⟨type167, rfl, underlying167⟩
instance : Tn 177 1 t177.desc t177 := ⟨type177, rfl, underlying177⟩
instance : Tn 189 1 t189.desc t189 := ⟨type189, rfl, underlying189⟩
instance : Tn 209 2 t208.desc t209 := ⟨type209, rfl, underlying209⟩
instance : Tn 212 1 t212.desc t212 := ⟨type212, rfl, underlying212⟩
instance : Tn 214 2 t213.desc t214 := ⟨type214, rfl, underlying214⟩
instance : Tn 220 2 t219.desc t220 := ⟨type220, rfl, underlying220⟩
instance : Tn 227 1 t227.desc t227 := ⟨type227, rfl, underlying227⟩
instance : Tn 231 5 t230.desc t231 := ⟨type231, rfl, underlying231⟩
instance : Tn 239 1 t239.desc t239 := ⟨type239, rfl, underlying239⟩
instance : Tn 241 2 t240.desc t241 := ⟨type241, rfl, underlying241⟩
instance : Tn 242 10 t242.desc t242 := ⟨type242, rfl, underlying242⟩
instance : Tn 256 32 t256.desc t256 := ⟨type256, rfl, underlying256⟩
instance : Tn 259 1 t259.desc t259 := ⟨type259, rfl, underlying259⟩
instance : Tn 263 2 t262.desc t263 := ⟨type263, rfl, underlying263⟩
instance : Tn 265 256 t265.desc t265 := ⟨type265, rfl, underlying265⟩
instance : Tn 275 64 t275.desc t275 := ⟨type275, rfl, underlying275⟩
instance : Tn 284 8 t284.desc t284 := ⟨type284, rfl, underlying284⟩
instance : Tn 294 8 t294.desc t294 := ⟨type294, rfl, underlying294⟩
instance : Tn 296 80 t296.desc t296 := ⟨type296, rfl, underlying296⟩
instance : Tn 300 10 t299.desc t300 := ⟨type300, rfl, underlying300⟩
instance : Tn 305 64 t305.desc t305 := ⟨type305, rfl, underlying305⟩
instance : Tn 309 1 t309.desc t309 := ⟨type309, rfl, underlying309⟩
instance : Fs 25 [0, 1] := rA underlying25
instance : Fs 27 [0, 1, 2, 3, 4, 5] := rA underlying27
instance : Fs 29 [0, 1, 7] := rA underlying29
instance : Fs 35 [0, 1] := rA underlying35
instance : Fs 37 [0, 1] := rA underlying37
instance : Fs 40 [0, 1, 2, 3] := rA underlying40
instance : Fs 42 [0, 4, 5, 6] := rA underlying42
instance : Fs 44 [0, 1, 2, 3, 4, 5, 6, 7, 8, 9, 10, 11] := rA underlying44
instance : Fs 46 [0, 7, 19] := rA underlying46
instance : Fs 51 [0, 1, 2] := rA underlying51
instance : Fs 68 [0, 8] := rA underlying68
instance : Fs 77 [0, 1] := rA underlying77
instance : Fs 134 [0] := rA underlying134
instance : Fs 136 [0, 5, 10, 15, 20] := rA underlying136
instance : Fs 141 [0] := rA underlying141
instance : Fs 159 [0, 1] := rA underlying159
instance : Fs 167 [0, 1, 2] := rA underlying167
instance : Fs 209 [0, 1] := rA underlying209
instance : Fs 214 [0, 1] := rA underlying214
instance : Fs 220 [0, 1] := rA underlying220
instance : Fs 231 [0, 1, 2, 3, 4] := rA underlying231
instance : Fs 241 [0, 1] := rA underlying241
instance : Fs 263 [0, 1] := rA underlying263
instance : Fs 300 [0, 5] := rA underlying300
section
theorem U9 {p : Prop} {i : Decidable p} (h : Y P L w op ty (.bool (@decide p i))) (hp : p) : Y P L w op ty (.bool true) := by rw [decide_eq_true hp] at h; exact h
theorem Vk {p : Prop} {i : Decidable p} (h : Y P L w op ty (.bool (@decide p i))) (hp : ¬ p) : Y P L w op ty (.bool false) := by rw [decide_eq_false hp] at h; exact h
theorem yc {p : Prop} {i : Decidable p} (h : Y P L w op ty (.bool (@decide p i)) := by first | exact eX rfl rfl | exact gO rfl rfl | exact cO rfl rfl | exact vy rfl rfl | exact iY rfl rfl | exact qC rfl rfl) : Y P L w op ty (.bool (@decide p i)) := h
theorem US {x : Operand} {g i : Nat} {t e : TypeId} {cs : Array Value} {d : TypeDesc} (hx : ev L x = some (.pointer (some ⟨g, i, none⟩))) (hu : P.underlying t = some d) (hd : (match d with | .struct _ | .array _ _ => false | _ => true) = true) (B : ao w g e cs) (hv : cs[i]? = some v) : Y P L w (.load t x) ty v := af hx hu hd (B.get hv)
theorem U6 {x : Operand} {g : Nat} {t e : TypeId} {cs : Array Value} {d : TypeDesc} (hx : ev L x = some (.pointer (some ⟨g, 0, none⟩))) (hu : P.underlying t = some d) (hd : (match d with | .struct _ | .array _ _ => true | _ => false) = true) (B : ao w g e cs) (hs : (P.info? t).map (·.size) = some cs.size) : Y P L w (.load t x) ty (.agg cs) := aW hx hu hd hs B
theorem Sf {w : World} {b : Nat} (c : aE S w w') (h : ao w b t cs) (hb : b ∉ S := by first | (simp [kq, qo]; done) | (simp [kq, qo]; omega)) : ao w' b t cs := h.bk c hb
theorem Vg (h : Y P L w (.load t x) ty v) : Y P L w (.load t x) ty v := h
theorem Vj {o t x y t'} (h : Y P L w (.binOp o t x y t') ty v) : Y P L w (.binOp o t x y t') ty v := h
theorem UZ {c} (h : Y P L w (.call c) ty v) : Y P L w (.call c) ty v := h
theorem U1 {t x y} (h : Y P L w (.indexAddr t x y) ty v) : Y P L w (.indexAddr t x y) ty v := h
theorem U2 {t x y} (h : Y P L w (.convert t x y) ty v) : Y P L w (.convert t x y) ty v := h
theorem TL {t x} {p : Bool} (hx : ev L x = some (.bool p)) (hp : p = true) : Y P L w (.unOp .not t x) ty (.bool false) := by subst hp; exact nr hx
theorem Ue {t x} {p : Bool} (hx : ev L x = some (.bool p)) (hp : p = false) : Y P L w (.unOp .not t x) ty (.bool true) := by subst hp; exact nr hx
theorem ay (h : Y P L w op ty v := by first
 | exact aY rfl
 | exact fp rfl
 | (apply Vg
    first
    | exact US rfl Tn.u rfl (by assumption) (by exact rfl)
    | exact U6 rfl Tn.u rfl (by assumption) (by first | exact TR rfl | exact TR (FE.size (by assumption)))
    | exact wQ rfl Tn.u rfl tz (by assumption) (by exact rfl)
    | exact US rfl Tn.u rfl (Sf (by assumption) (by assumption)) (by exact rfl)
    | exact wQ rfl Tn.u rfl tz (Sf (by assumption) (by assumption)) (by exact rfl)
    | exact af rfl Tn.u rfl (by assumption))
 | (apply Vj
    first
    | exact U9 yc Om
    | exact Vk yc Om
    | exact yc
    | exact aN rfl rfl (bj Om Om)
    | exact fI rfl rfl (bj Om Om)
    | exact cL rfl rfl (bj Om Om))
 | exact dA rfl rfl
 | exact UY rfl rfl
 | (apply UZ
    exact qS rfl Tn.u)
 | exact GN rfl
 | exact NX rfl rfl
 | exact MD rfl rfl
 | exact TL rfl (by with_reducible rfl)
 | exact Ue rfl (by with_reducible rfl)
 | exact nr rfl
 | (apply U1
    first
    | exact aB rfl rfl Tn.u tz rfl Om
    | exact bS rfl rfl Tn.u tz rfl Om)
 | (apply U2
    first
    | exact bo rfl Tn.u Tn.u (bj Om Om)
    | exact bo rfl Tn.u Tn.u (IntWalk.u64_in _ ⟨by omega, by omega⟩))) : Y P L w op ty v := h
end
structure Wt (l : List Nat) (p : Prop) : Prop where o : p
theorem Gh (l : List Nat) {p : Prop} (h : Wt l p) : p := h.o
structure Wu (l : List (Nat × List Nat)) (p : Prop) : Prop where o : p
theorem gQ (l : List (Nat × List Nat)) {p : Prop} (h : Wu l p) : p := h.o
section
variable {b : Bool}
theorem PA {p : Prop} (h : p) : Wt [] p := ⟨h⟩
theorem Qh {p : Prop} (h : p) : Wu [] p := ⟨h⟩
theorem Ub (hi : ops[i]? = some ⟨dst, op, ty, pos, after, none⟩) (hf : sG .any ops listed i = true) (h : Y P L w op ty v) (hd : jO N dst = true) (hr : Wt l (WM P ops (jD Q) n (listed.setIfInBounds i true) N (cG dst v L) w)) : Wt (i :: l) (WM P ops (jD Q) (n + 1) listed N L w) := ⟨Tb i hi hf h hd hr.o⟩
theorem Ty (hi : ops[i]? = some ⟨dst, op, ty, pos, after, none⟩) (hf : mT .any ops listed i = true) (h : ∀ w0, Y P L w0 op ty v) (hd : jO N dst = true) (hr : Wt l (WM P ops (jD Q) n (listed.setIfInBounds i true) N (cG dst v L) w)) : Wt (i :: l) (WM P ops (jD Q) (n + 1) listed N L w) := ⟨Sm i hi hf h hd hr.o⟩
theorem Vd {d : Tmp} (t : Tmp) (hj : (ops[j]?).bind (·.dst) = some t) (ht : look L t = some (.bool b')) (hb : b' = b) (h : Y P L w op ty v) (hd : Nat.ble (d + 1) N.n = true) (hr : WL P ops Q rest N ((d, v) :: L) w) : WL P ops Q (⟨some d, op, ty, pos, after, some (j, b)⟩ :: rest) N L w := Du t hj (hb ▸ ht) h hd hr
theorem TY (t : Tmp) (hj : (ops[j]?).bind (·.dst) = some t) (ht : look L t = some (.bool b)) (hb : b = false) (hd : jO N dst = true) (hr : WL P ops Q rest N (cG dst undef L) w) : WL P ops Q (⟨dst, op, ty, pos, after, some (j, true)⟩ :: rest) N L w := LM t hj (hb ▸ ht) rfl hd hr
theorem Uu (t : Tmp) (hj : (ops[j]?).bind (·.dst) = some t) (ht : look L t = some (.bool b)) (hb : b = true) (hd : jO N dst = true) (hr : WL P ops Q rest N (cG dst undef L) w) : WL P ops Q (⟨dst, op, ty, pos, after, some (j, false)⟩ :: rest) N L w := LM t hj (hb ▸ ht) rfl hd hr
end
section
variable {pre : List Nat} {b : Bool}
theorem Um (hi : ops[i]? = some ⟨dst, op, ty, pos, after, none⟩) (hf : mT .any ops listed i = true) (h : Y P L w0 op ty v) (hd : jO N dst = true) (hr : Wt l (WN P ops (jD Q) w0 n (listed.setIfInBounds i true) N (cG dst v L) w)) : Wt (i :: l) (WN P ops (jD Q) w0 (n + 1) listed N L w) := ⟨cS i hi hf h hd hr.o⟩
theorem UE (hi : ops[i]? = some ⟨dst, op, ty, pos, after, none⟩) (hf : oJ (M.map (·.1)) pre .any ops listed i (iy .any ops listed i) = true) (h : ∀ w', aE (kq M pre) w w' → Y P L w' op ty v) (hd : jO N dst = true) (hr : Wu l' (WJ P ops (jD Q) M n (listed.setIfInBounds i true) N (cG dst v L) w)) : Wu ((i, pre) :: l') (WJ P ops (jD Q) M (n + 1) listed N L w) := ⟨SQ i pre hi hf h hd hr.o⟩
end
section
variable {l : List Oper} {a b c d e f g p} {c' : Code}
theorem Ur (h : WL P ops Q (⟨a, b, c, d, e, none⟩ :: l) N L w) : WL P ops Q (⟨a, b, c, d, e, none⟩ :: l) N L w := h
theorem TZ (h : WL P ops Q (⟨a, b, c, d, e, some f⟩ :: l) N L w) : WL P ops Q (⟨a, b, c, d, e, some f⟩ :: l) N L w := h
theorem Uc {t x} (h : WL P ops Q (⟨a, .box t x, c, d, e, none⟩ :: l) N L w) : WL P ops Q (⟨a, .box t x, c, d, e, none⟩ :: l) N L w := h
theorem Tr {t} (h : WL P ops Q (⟨a, .alloc t, c, d, e, none⟩ :: l) N L w) : WL P ops Q (⟨a, .alloc t, c, d, e, none⟩ :: l) N L w := h
theorem T7 {t x y} (h : WL P ops Q (⟨a, .store t x y, c, d, e, none⟩ :: l) N L w) : WL P ops Q (⟨a, .store t x y, c, d, e, none⟩ :: l) N L w := h
theorem TO (h : WC P Q c' N L w) : WC P Q c' N L w := h
theorem Ul (h : WQ Q g N L w) : WQ Q g N L w := h
theorem Tz (h : WM P ops Q n f N L w) : WM P ops Q n f N L w := h
theorem TJ (h : Wt g p) : Wt g p := h
theorem Uw (h : Wu g p) : Wu g p := h
end
section
variable {e : TypeId} {g : Nat}
theorem Vm (hx : ev L x = some (.agg cs)) (hd : jO N dst = true) (hr : ∀ w' g, ao w' g t cs → w.heap.size ≤ g → Ext w w' → WL P ops Q rest N (cG dst (.pointer (some ⟨g, 0, none⟩)) L) w') : WL P ops Q (⟨dst, .box t x, ty, pos, after, none⟩ :: rest) N L w :=
 ag (nA hx rfl) hd (by rintro _ w' ⟨g, rfl, B, h, e⟩; exact hr w' g B h e)
theorem Va (hx : ev L x = some v) (hd : jO N dst = true) (hr : ∀ w' g, ao w' g t v.cells → w.heap.size ≤ g → Ext w w' → WL P ops Q rest N (cG dst (.pointer (some ⟨g, 0, none⟩)) L) w') : WL P ops Q (⟨dst, .box t x, ty, pos, after, none⟩ :: rest) N L w :=
 ag (nA hx rfl) hd (by rintro _ w' ⟨g, rfl, B, h, e⟩; exact hr w' g B h e)
theorem UO (hz : (P.info? t).map (fun i => i.zero.map (·.cells)) = some (some cs)) (hd : jO N dst = true) (hr : ∀ w' g, ao w' g t cs → w.heap.size ≤ g → Ext w w' → WL P ops Q rest N (cG dst (.pointer (some ⟨g, 0, none⟩)) L) w') : WL P ops Q (⟨dst, .alloc t, ty, pos, after, none⟩ :: rest) N L w :=
 ag (dJ hz) hd (by rintro _ w' ⟨g, rfl, B, h, e⟩; exact hr w' g B h e)
theorem Vb (hx : ev L x = some (.pointer (some ⟨g, i, none⟩))) (hy : ev L y = some v) (h1 : v.oneCell' = true) (hs : (P.info? t).map (·.size) = some 1) (hg : ao w g e cs) (hi : i < cs.size) (hd : jO N dst = true) (hr : ∀ w', ao w' g e (cs.setIfInBounds i v) → lF w g w' → WL P ops Q rest N (cG dst undef L) w') : WL P ops Q (⟨dst, .store t x y, ty, pos, after, none⟩ :: rest) N L w :=
 ag (aq hx hy h1 hs hg hi) hd (by rintro _ w' ⟨rfl, B, c⟩; exact hr w' B c)
theorem Vo (hx : ev L x = some (.pointer (some ⟨g, o, none⟩))) (hy : ev L y = some (.agg cs)) (hs : (P.info? t).map (·.size) = some cs.size) (hg : ao w g e old) (ho : o + cs.size ≤ old.size) (h1 : cs.all (·.oneCell') = true) (hd : jO N dst = true) (hr : ∀ w', ao w' g e (old.toList.take o ++ cs.toList ++ old.toList.drop (o + cs.size)).toArray → lF w g w' → WL P ops Q rest N (cG dst undef L) w') : WL P ops Q (⟨dst, .store t x y, ty, pos, after, none⟩ :: rest) N L w :=
 ag (aP hx hy hs hg ho h1) hd (by rintro _ w' ⟨rfl, B, c⟩; exact hr w' B c)
end
section
variable {fl : List Fl} {f : FuncId} {xs : List Operand} {c : Code}
theorem OT {p : Prop} (h : p := by
 repeat (first
  | exact av
  | refine aT ?_ ?_
  | exact bM rfl Kr
  | exact zN (z := .int .u8 0) rfl Tn.u Kr rfl rfl rfl rfl rfl
  | exact ⟨rfl, of_decide_eq_true rfl⟩
  | exact aV Kr
  | exact of_decide_eq_true rfl)) : p := h
theorem kM (j : Nat) (dst : Option Tmp) (hf : P.funcs[f]? = some fn) (h : ∀ w1, Ext w w1 → Ext w0 w1 → ∃ R : Ending → World → Prop, Calls P f vs.toArray w1 R ∧ ∀ e w', R e w' → ∃ v, e = .returned v ∧ Ext w1 w' ∧ WF P ops Q w0 fl n (listed.setIfInBounds j true) N (cG dst v L) w')
 (hi : ops[j]? = some ⟨dst, .call { callee := .value (.func f), args := xs.toArray, argTypes := ats }, ty, pos, after, none⟩ := by exact rfl) (hx : qe L xs = some vs := by exact rfl) (ok : pT P ops w0 fl listed N L := by exact ⟨OT, of_decide_eq_true rfl, of_decide_eq_true rfl, OT, OT⟩) (hr : Region.ready .any ops (eO listed fl) = [j] := by kernel_rfl) (hj : ∀ f ∈ fl, f.i ≠ j := by exact OT) (hb : fn.body = some c := by exact rfl) (hn : (fn.name == "runtime.NumGoroutine") = false := by exact rfl) (hdst : ∀ f ∈ fl, dst ≠ some f.d := by exact OT) (hd : jO N dst = true := by exact rfl) : WF P ops Q w0 fl (n + 1) listed N L w := NY ok hr hj hi hf hb hn hx hdst hd h
theorem UX {p : Prop} {fs : List Fl} (ok : pT P ops w0 fs listed N L → p) (h : pT P ops w0 fs listed N L := by exact ⟨OT, of_decide_eq_true rfl, of_decide_eq_true rfl, OT, OT⟩) : p := ok h
end
structure Fu (n : Nat) : Prop where o : True
theorem Fu.p (_ : Fu (n + 1)) : Fu n := ⟨⟨⟩⟩
theorem au (n : Nat) {p : Prop} (h : q) (f : TU q → Fu n → p := by
 intro h k
 repeat (
  replace k := k.p
  first
  | (apply Ur
     first
     | refine Np ay rfl ?_
     | (apply Uc
        first
        | refine Vm rfl rfl ?_
        | refine Va rfl rfl ?_)
     | (apply Tr
        first
        | refine UO (Vf rfl) rfl ?_
        | refine UO (U4 rfl rfl) rfl ?_)
     | (apply T7
        first
        | refine Vb rfl rfl rfl tz (by assumption) (by exact Nat.le_of_ble_eq_true rfl) rfl ?_
        | refine Vo rfl rfl (TR rfl) (by assumption) (by exact Nat.le_of_ble_eq_true rfl) (aO rfl) rfl ?_))
  | refine iL ?_
  | (apply TZ
     first
     | refine TY _ rfl rfl (by with_reducible rfl) rfl ?_
     | refine Uu _ rfl rfl (by with_reducible rfl) rfl ?_
     | refine Vd _ rfl rfl (by with_reducible rfl) ay rfl ?_)
  | (apply TO
     first
     | refine ez ?_
     | refine RX ?_
     | refine vG ?_
     | refine qk ?_
     | refine LD ?_
     | refine bX rfl (by with_reducible rfl) ?_
     | refine bg rfl (by with_reducible rfl) ?_
     | refine Nm ?_
     | refine NS ?_)
  | (apply Ul
     first
     | refine RW ?_
     | refine Qv ?_
     | refine lX ?_
     | refine xo ?_
     | refine xd ?_
     | refine zc ?_
     | refine CH ?_
     | refine CE ?_)
  | (apply TJ
     first
     | refine PA ?_
     | refine Ty rfl Kr (fun _ => ay) rfl ?_
     | refine Ub rfl Kr ay rfl ?_
     | refine wt_gy _ rfl Kr rfl rfl (by with_reducible rfl) ay rfl ?_
     | refine wt_gno _ rfl Kr rfl rfl (by with_reducible rfl) rfl ?_
     | refine wt_gnf _ rfl Kr rfl rfl (by with_reducible rfl) rfl ?_
     | refine Um rfl Kr ay rfl ?_)
  | (apply Uw
     first
     | refine UE rfl Kr (fun _ _ => ay) rfl ?_
     | refine Qh ?_)
  | (apply Tz
     refine oq (by first | decide +kernel | exact rfl) ?_)
  | refine ⟨_, rfl, .inr (by assumption), ?_⟩
  | refine ⟨_, rfl, ?_⟩)
 exact h.o) : p := f ⟨h⟩ ⟨⟨⟩⟩
theorem aU {p : Prop} (h : q) (f : TU q → p := by
 intro h;refine au 99 ?_
 exact h.o) : p := f ⟨h⟩
structure Ll (l : List Nat) : Prop where o : True
theorem TI (_ : Ll l) {p : Prop} (h : Wt l p) : p := h.o
theorem zm (l : List Nat) {p : Prop} (h : q) (f : TU q → Ll l → p := by
 intro h k;refine au 99 ?_;refine TI k ?_;refine au 99 ?_
 exact h.o) : p := f ⟨h⟩ ⟨⟨⟩⟩
end
section
open Go.RowKit Tryz
attribute [local irreducible] Y Ef WL WC WK WQ WM cv
theorem Of (x : Nat) : IntKind.u8.wrap (x : Int) = ((UInt8.ofNat x).toNat : Int) := by rw [IntKind.wrap_u8', UInt8.toNat_ofNat']; omega
theorem FZ (n j : Nat) (hj : j ≤ 7) (b : Int) (hb : b = 8 * j) : (n : Int) / 2 ^ (min b.toNat IntKind.u64.bits) = ((n / 256 ^ j : Nat) : Int) := by
 have e : min b.toNat IntKind.u64.bits = 8 * j := by have : IntKind.u64.bits = 64 := rfl;omega
 have h2 : (2 : Int) ^ (8 * j) = ((256 ^ j : Nat) : Int) := by rw [show (256 : Nat) = 2 ^ 8 from rfl, ← Nat.pow_mul, Int.natCast_pow]; rfl
 rw [e, h2];exact (Int.natCast_ediv _ _).symm
theorem DL (n : Nat) (w : World) : Ct 192 #[.int .i64 (n : Int)] w fun e w' => e = .returned (.bool (decide (n = 1 ∨ n = 2 ∨ n = 4 ∨ n = 8))) ∧ Ext w w' := by
 refine ai 17 func192 rfl rfl rfl rfl ?_;intro _ hret;refine au 8 ?_;refine bf (cO rfl rfl) rfl (fun h1 => ?_) (fun h1 => ?_)
 ·refine aU ?_;refine hret rfl ?_;exact ⟨by rw [decide_eq_true Om], Ext.refl _⟩
 refine au 2 ?_;refine aG 5 rfl rfl (cO rfl rfl) rfl (fun h2 => ?_) (fun h2 => ?_)
 ·refine aU ?_;refine hret rfl ?_;exact ⟨by rw [decide_eq_true Om], Ext.refl _⟩
 refine au 3 ?_;refine aG 9 rfl rfl (cO rfl rfl) rfl (fun h3 => ?_) (fun h3 => ?_)
 ·refine aU ?_;refine hret rfl ?_;exact ⟨by rw [decide_eq_true Om], Ext.refl _⟩
 refine au 3 ?_;refine aG 13 rfl rfl (cO rfl rfl) rfl (fun h4 => ?_) (fun h4 => ?_)
 ·refine aU ?_;refine hret rfl ?_;exact ⟨by rw [decide_eq_true Om], Ext.refl _⟩
 refine aU ?_;refine hret rfl ?_;exact ⟨by rw [decide_eq_false Om], Ext.refl _⟩
theorem qF (n : Nat) (w : World) (h : n < 1073741824) : Ct 249 #[.int .i64 (n : Int)] w fun e w' => e = .returned (.int .i64 (Wire.jK n : Nat)) ∧ Ext w w' := by
 refine ai 16 func249 rfl rfl rfl rfl ?_;intro _ hret;refine aU ?_;refine ak rfl (fun Vq => ?_) (fun Vq => ?_)
 ·refine aU ?_;refine hret rfl ?_;exact ⟨by rw [show Wire.jK n = 1 from by unfold Wire.jK; rw [if_pos Om]]; rfl, Ext.refl _⟩
 refine aU ?_;refine ak rfl (fun Vr => ?_) (fun Vr => ?_)
 ·refine aU ?_;refine hret rfl ?_;exact ⟨by rw [show Wire.jK n = 2 from by unfold Wire.jK; rw [if_neg Om, if_pos Om]]; rfl, Ext.refl _⟩
 refine aU ?_;refine hret rfl ?_;exact ⟨by rw [show Wire.jK n = 4 from by unfold Wire.jK; rw [if_neg Om, if_neg Om]]; rfl, Ext.refl _⟩
theorem je (A : Oa) (n c s x : Nat) (xs : Lb) (w : World) (HA : Bs w A n xs) (hn : n ≤ 70368744177664) (hs : s = 1 ∨ s = 2 ∨ s = 4 ∨ s = 8) (hx : x < 18446744073709551616) :
  Ct 131 #[.slice A n c, .int .i64 (s : Int), .int .u64 (x : Int)] w fun e w' => ∃ A' c', e = .returned (.slice A' (n + s) c') ∧ Row w' w.heap.size 5 A' (n + s) c' ((xs ++ Wire.be s x).map bv) ∧ Ext w w' := by
 have Vt : 1 ≤ s ∧ s ≤ 8 := by omega
 refine ai 29 func131 rfl rfl rfl rfl ?_;intro _ hret;refine au 8 ?_;refine aC func181 rfl (jU A n c xs _ HA Om) ?_;rintro e w1 ⟨A1, c1, rfl, O1, ex⟩;have R1 : Row w1 w.heap.size 5 A1 n c1 (xs.map bv) := O1; have E := ex;refine au 8 ?_;refine aC func192 rfl (DL s _) ?_;rintro e _ ⟨rfl, ex⟩;refine au 1 ?_;have R2 := R1.ext ex; have E2 := E.ext ex; rw [decide_eq_true hs];refine al (nr rfl) ?_;refine au 2 ?_;refine bg rfl rfl ?_;refine au 6 ?_;refine al (fI rfl rfl (bj Om Om)) ?_;refine au 4 ?_;refine aD (fun n' L wr => ∃ (j c5 : Nat) (A5 : Oa), L = [(0, .slice A5 (n + j) c5), (2, .int .u64 (x : Int)), (7, .int .i64 ((s : Int) - 1 - j))] ∧ n' = s - j ∧ (j ≤ s ∧ Ext w wr ∧ Row wr w.heap.size 5 A5 (n + j) c5 ((xs ++ Wire.be j (x / 256 ^ (s - j))).map bv))) _ _ ⟨0, c1, A1, rfl, rfl, by omega, E2, by rw [Wire.be, List.append_nil]; exact R2⟩ Ls ?_;rintro _ n' L wr ⟨j, c5, A5, rfl, rfl, _, F, R⟩ Vq;refine au 4 ?_;refine al (vy rfl rfl) ?_;refine au 2 ?_;refine ak rfl (fun Vr => ?_) (fun Vr => ?_)
 ·refine au 8 ?_;refine al (cL rfl rfl (bj Om Om)) ?_;refine al (cB rfl rfl Om (FZ x (s - 1 - j) Om _ Om)) ?_;refine al (bo rfl Tn.u Tn.u (Of _)) ?_;refine ag (aF (z := .int .u8 0) Tn.u Kr rfl rfl rfl rfl rfl) rfl ?_;rintro _ _ ⟨_, rfl, B5, _, ex⟩;have R5 := R.ext ex; have F5 := F.ext ex; have Vs := F5.size;refine ag (aX rfl rfl bT R5 (At.jn (vs := [UInt8.ofNat (x / 256 ^ (s - 1 - j))].map bv) (B5.congr (by rfl))) rfl aJ Om Om Vs) rfl ?_;rintro _ _ ⟨A6, c6, rfl, R6, be, _, _⟩;have F6 := F5.trans be; have R7 := R6.cat; rw [List.append_assoc, show Wire.be j (x / 256 ^ (s - j)) ++ [UInt8.ofNat (x / 256 ^ (s - 1 - j))] = Wire.be (j + 1) (x / 256 ^ (s - (j + 1))) from by rw [Wire.be, Nat.div_div_eq_div_mul, ← Nat.pow_succ, show (s - (j + 1)).succ = s - j from by omega, show s - (j + 1) = s - 1 - j from by omega]] at R7;refine au 6 ?_;refine al (fI rfl rfl (bj Om Om)) ?_;refine au 2 ?_;refine ae ?_;refine Vq _ _ ⟨j + 1, c6, A6, rfl, rfl, by omega, F6, R7⟩ Om Ls
 refine au 12 ?_;refine hret rfl ?_;obtain rfl : j = s := by omega
 rw [Nat.sub_self, Nat.pow_zero, Nat.div_one] at R;exact ⟨A5, c5, rfl, R, F⟩
theorem CK (A : Oa) (n c x : Nat) (xs : Lb) (w : World) (HA : Bs w A n xs) (hn : n ≤ 70368744177664) (hx : x < 1073741824) :
  Ct 218 #[.slice A n c, .int .i64 (x : Int)] w fun e w' => ∃ A' c', e = .returned (.slice A' (n + Wire.jK x) c') ∧ Row w' w.heap.size 5 A' (n + Wire.jK x) c' ((xs ++ Wire.len x).map bv) ∧ Ext w w' := by
 have hl := Wire.bE x
 obtain ⟨s, hs⟩ : ∃ s, s = Wire.jK x := ⟨_, rfl⟩
 have hbe := Wire.PK x hx;rw [← hs] at hl hbe ⊢;have Vq : s = 1 ∨ s = 2 ∨ s = 4 := by rw [hs]; unfold Wire.jK; split <;> (try split) <;> simp
 have hor : ((s / 2 * 2 ^ (8 * s - 2) : Nat) ||| x) = s / 2 * 2 ^ (8 * s - 2) + x := by
  have hxl : x < 2 ^ (8 * s - 2) := by
   rw [hs]; unfold Wire.jK;split
   ·omega
   split <;> omega
  rw [Nat.mul_comm, Nat.two_pow_add_eq_or_of_lt hxl]
 have hlt : s / 2 * 2 ^ (8 * s - 2) + x < 18446744073709551616 := by rcases Vq with h | h | h <;> rw [h] <;> omega
 refine ai 27 func218 rfl rfl rfl rfl ?_;intro _ hret;refine aU ?_;refine aC func249 rfl (qF x _ hx) ?_;rintro e _ ⟨rfl, ex⟩;replace HA := HA.ext ex;have E := ex; rw [← hs];refine au 17 ?_;refine al (dG rfl rfl Om (IntWalk.i64_quo _ _ Om)) ?_;refine au 12 ?_;refine al (gd rfl rfl Om (show IntKind.u64.wrap ((s : Int) / 2 * 2 ^ min ((8 : Int) * s - 2).toNat IntKind.u64.bits) = ((s / 2 * 2 ^ (8 * s - 2) : Nat) : Int) by rcases Vq with h | h | h <;> rw [h] <;> rfl)) ?_;refine au 2 ?_;refine al (jN rfl rfl (by rw [(cD Om Om).2.1, hor])) ?_;refine aC func131 rfl (je A n c s _ xs _ HA hn Om hlt) ?_;rintro e _ ⟨A2, c2, rfl, R2, ex⟩;have E2 := E.ext ex; rw [hbe] at R2;refine aU ?_;refine hret rfl ?_;exact ⟨A2, c2, rfl, R2.lower E.size, E2⟩
theorem dV (A B : Oa) (n c m d : Nat) (xs ys : Lb) (w : World) (HA : Bs w A n xs) (hn : n ≤ 35184372088832) (HB : Bs w B m ys) (hm : m < 1073741824) :
  Ct 162 #[.slice A n c, .slice B m d] w fun e w' => ∃ A' k c', e = .returned (.slice A' k c') ∧ Row w' w.heap.size 5 A' k c' ((xs ++ Wire.vec ys).map bv) ∧ k = n + (Wire.jK m + m) ∧ Ext w w' := by
 have hl := Wire.bE m;refine ai 11 func162 rfl rfl rfl rfl ?_;intro _ hret;refine aU ?_;refine aC func218 rfl (CK A n c m xs _ HA Om hm) ?_;rintro e _ ⟨_, _, rfl, R1, ex⟩;replace HB := HB.ext ex;have E := ex; have Vq := ex.size;refine aU ?_;refine ag (aX rfl rfl bT R1 HB.2 (by rw [List.length_map, HB.1]) aJ Om Om Vq) rfl ?_;rintro _ _ ⟨A2, c2, rfl, R2, be, _, hl⟩;have R3 := R2.cat; have E2 := E.trans be;refine aU ?_;refine hret rfl ?_;exact ⟨A2, _, c2, rfl, by rw [Wire.vec, HB.1, ← List.append_assoc]; exact R3, by omega, E2⟩
theorem jk (s x : Nat) (w : World) (hs : s ≤ 8) (hx : x < 18446744073709551616) :
  Ct 56 #[.int .i64 (s : Int), .int .u64 (x : Int)] w fun e w' => ∃ A' c', e = .returned (.slice A' s c') ∧ Row w' w.heap.size 5 A' s c' ((Wire.be s x).map bv) ∧ Ext w w' := by
 refine ai 21 func56 rfl rfl rfl rfl ?_;intro _ hret;refine aU ?_;refine aD (fun n' L wr => ∃ (j m q c5 : Nat) (A5 : Oa), L = [(0, .int .i64 (s : Int)), (1, .int .u64 (q : Int)), (5, .slice A5 m c5), (6, .int .i64 (j : Int))] ∧ n' = s - j ∧ (j ≤ s ∧ m = j ∧ q = x / 256 ^ j ∧ Ext w wr ∧ Row wr w.heap.size 5 A5 m c5 ((Wire.be j x).map bv))) _ _ ⟨0, 0, x, 0, none, rfl, rfl, by omega, rfl, by simp, Ext.refl _, Row.empty _ _ _⟩ Ls ?_;rintro _ n' L wr ⟨j, m, q, c5, A5, rfl, rfl, _, hmj, hq, F, R⟩ Vq;refine aU ?_;refine ak rfl (fun Vr => ?_) (fun Vr => ?_)
 ·have hsF := F.size;have hxj : q < 18446744073709551616 := by rw [hq]; exact Nat.lt_of_le_of_lt (Nat.div_le_self _ _) hx
  have Vs : q / 256 = x / 256 ^ (j + 1) := by rw [hq, Nat.div_div_eq_div_mul, ← Nat.pow_succ]
  refine au 7 ?_;refine al (ck rfl rfl Om (IntWalk.rem_in _ _ Om)) ?_;refine al (bo rfl Tn.u Tn.u (show IntKind.u8.wrap _ = ((UInt8.ofNat q).toNat : Int) by rw [IntKind.wrap_u8', UInt8.toNat_ofNat']; omega)) ?_;refine ag (aF (z := .int .u8 0) Tn.u Kr rfl rfl rfl rfl rfl) rfl ?_;rintro _ w5 ⟨g5, rfl, B5, Vt, ex⟩;have R5 : Row w5 wr.heap.size 5 (some ⟨g5, 0, none⟩) 1 1 ([UInt8.ofNat q].map bv) := Row.new B5 Vt rfl (by unfold maxLen; omega); have F5 := F.ext ex; have R1 := R.ext ex;refine aU ?_;refine ag (aX rfl rfl bT R5 (Row.at R1) (by have := R1.len; exact this) aJ Om Om ex.size) rfl ?_;rintro _ _ ⟨A6, c6, rfl, R6, be, _, _⟩;have F6 := F5.trans (be.mono hsF); have R7 := R6.cat; rw [hq, ← Wire.zB] at R7; replace R7 := R7.lower hsF;refine au 5 ?_;refine al (dG rfl rfl Om (IntWalk.u64_quo _ _ Om)) ?_;refine au 9 ?_;refine ae ?_;refine Vq _ _ ⟨j + 1, 1 + m, q / 256, c6, A6, rfl, rfl, by omega, by omega, Vs, F6, R7⟩ Om Ls
 refine aU ?_;refine hret rfl ?_;obtain rfl : j = s := by omega
 exact ⟨A5, c5, by rw [hmj], by rw [← hmj] at R ⊢; exact R, F⟩
theorem mR {z : Int} {x : Nat} (h : z % 256 = (x : Int) % 256) : IntKind.u8.wrap z = ((UInt8.ofNat x).toNat : Int) := by rw [IntKind.wrap_u8', UInt8.toNat_ofNat']; omega
theorem sv (x : Nat) (w : World) (hx : x < 1073741824) :
  Ct 124 #[.int .i64 (x : Int)] w fun e w' => ∃ A' c', e = .returned (.slice A' (Wire.jK x) c') ∧ Row w' w.heap.size 5 A' (Wire.jK x) c' ((Wire.len x).map bv) ∧ Ext w w' := by
 refine ai 34 func124 rfl rfl rfl rfl ?_;intro _ hret;refine aU ?_;refine ak rfl (fun Vr => ?_) (fun Vr => ?_)
 ·refine au 3 ?_;refine al (bo rfl Tn.u Tn.u (mR (x := x) Om)) ?_;refine ag (aF (z := .int .u8 0) Tn.u Kr rfl rfl rfl rfl rfl) rfl ?_;rintro _ w5 ⟨g5, rfl, B5, Vq, ex⟩;refine aU ?_;refine hret rfl ?_;exact ⟨_, 1, by rw [show Wire.jK x = 1 from by unfold Wire.jK; rw [if_pos Om]], by rw [show Wire.jK x = 1 from by unfold Wire.jK; rw [if_pos Om], show Wire.len x = [UInt8.ofNat x] from by unfold Wire.len; rw [if_pos Om]]; exact Row.new B5 Vq rfl (by unfold maxLen; omega), ex⟩
 refine aU ?_;refine ak rfl (fun Vs => ?_) (fun Vs => ?_)
 ·refine au 3 ?_;refine al (dG rfl rfl Om (IntWalk.i64_quo _ _ Om)) ?_;refine au 1 ?_;refine al (bo rfl Tn.u Tn.u (mR (x := 64 + x / 256) Om)) ?_;refine au 1 ?_;refine al (ck rfl rfl Om (IntWalk.rem_in _ _ Om)) ?_;refine al (bo rfl Tn.u Tn.u (mR (x := x % 256) Om)) ?_;refine ag (aF (z := .int .u8 0) Tn.u Kr rfl rfl rfl rfl rfl) rfl ?_;rintro _ w5 ⟨g5, rfl, B5, Vq, ex⟩;refine aU ?_;refine hret rfl ?_;exact ⟨_, 2, by rw [show Wire.jK x = 2 from by unfold Wire.jK; rw [if_neg Om, if_pos Om]], by rw [show Wire.jK x = 2 from by unfold Wire.jK; rw [if_neg Om, if_pos Om], show Wire.len x = [UInt8.ofNat (64 + x / 256), UInt8.ofNat (x % 256)] from by unfold Wire.len; rw [if_neg Om, if_pos Om]]; exact Row.new B5 Vq rfl (by unfold maxLen; omega), ex⟩
 refine au 5 ?_;refine al (dG rfl rfl Om (IntWalk.i64_quo _ _ Om)) ?_;refine au 1 ?_;refine al (bo rfl Tn.u Tn.u (mR (x := 128 + x / 16777216) Om)) ?_;refine au 1 ?_;refine al (dG rfl rfl Om (IntWalk.i64_quo _ _ Om)) ?_;refine al (ck rfl rfl Om (IntWalk.rem_in _ _ Om)) ?_;refine al (bo rfl Tn.u Tn.u (mR (x := x / 65536 % 256) Om)) ?_;refine au 1 ?_;refine al (dG rfl rfl Om (IntWalk.i64_quo _ _ Om)) ?_;refine al (ck rfl rfl Om (IntWalk.rem_in _ _ Om)) ?_;refine al (bo rfl Tn.u Tn.u (mR (x := x / 256 % 256) Om)) ?_;refine au 1 ?_;refine al (ck rfl rfl Om (IntWalk.rem_in _ _ Om)) ?_;refine al (bo rfl Tn.u Tn.u (mR (x := x % 256) Om)) ?_;refine ag (aF (z := .int .u8 0) Tn.u Kr rfl rfl rfl rfl rfl) rfl ?_;rintro _ w5 ⟨g5, rfl, B5, Vq, ex⟩;refine aU ?_;refine hret rfl ?_;exact ⟨_, 4, by rw [show Wire.jK x = 4 from by unfold Wire.jK; rw [if_neg Om, if_neg Om]], by rw [show Wire.jK x = 4 from by unfold Wire.jK; rw [if_neg Om, if_neg Om], show Wire.len x = [UInt8.ofNat (128 + x / 16777216), UInt8.ofNat (x / 65536 % 256), UInt8.ofNat (x / 256 % 256), UInt8.ofNat (x % 256)] from by unfold Wire.len; rw [if_neg Om, if_neg Om]]; exact Row.new B5 Vq rfl (by unfold maxLen; omega), ex⟩
theorem cI (B : Oa) (m d : Nat) (ys : Lb) (w : World) (HB : Bs w B m ys) (hm : m < 1073741824) :
  Ct 54 #[.slice B m d] w fun e w' => ∃ A' k c', e = .returned (.slice A' k c') ∧ Row w' w.heap.size 5 A' k c' ((Wire.vec ys).map bv) ∧ k = Wire.jK m + m ∧ Ext w w' := by
 have hl := Wire.bE m;refine ai 8 func54 rfl rfl rfl rfl ?_;intro _ hret;refine aU ?_;refine aC func124 rfl (sv m _ hm) ?_;rintro e _ ⟨_, _, rfl, R1, ex⟩;replace HB := HB.ext ex;have E := ex; have Vq := ex.size;refine aU ?_;refine ag (aX rfl rfl bT R1 HB.2 (by rw [List.length_map, HB.1]) aJ Om Om Vq) rfl ?_;rintro _ _ ⟨A2, c2, rfl, R2, be, _, hl⟩;have R3 := R2.cat; have E2 := E.trans be;refine aU ?_;refine hret rfl ?_;exact ⟨A2, _, c2, rfl, by rw [Wire.vec, HB.1]; exact R3, rfl, E2⟩
theorem wM (s : ByteArray) : ((⟨#[77, 76, 83, 32, 49, 46, 48, 32]⟩ : ByteArray) ++ s).data.toList = Kdf.JH ++ s.data.toList := by simp [Kdf.JH]
theorem eP (s : ByteArray) : ((⟨#[77, 76, 83, 32, 49, 46, 48, 32]⟩ : ByteArray) ++ s).size = 8 + s.size := by rw [ByteArray.size_append]; rfl
end
section
section
open Go.RowKit
theorem EL {e : TypeId} {b s : Nat} {a : Int} (hx : ev L x = some (.pointer (some ⟨b, off, none⟩))) (hy : ev L y = some (.int k a)) (hu : P.underlying t = some (.array n e)) (hs : (P.info? e).map (·.size) = some s) (ha : a = (j : Int)) (hj : j < n) :
  Y P L w (.slice t x (some y) none none) ty (.slice (some ⟨b, off + j * s, none⟩) (n - j) (n - j)) := fun ρ hρ w' _ _ _ _ _ => by
 subst ha
 have hb : ((Instr.sliceBounds false n n (some (.int k j)) none none).run P w') = .ok (j, n, n) w' := by have := Nat.le_of_lt hj;simp [Instr.sliceBounds, Instr.sliceBound, asIntOf, this]
 have hne : ¬ (n = j) := by omega
 simp [execOp, hρ _ _ hx, hρ _ _ hy, Instr.sliceAt, Instr.sureAddr, run_underlying hu, hb, bJ hs, hne, Addr.add_plain]
theorem Gu {e : TypeId} {A : Addr} {s : Nat} {a : Int} (hx : ev L x = some (.pointer (some A))) (hy : ev L y = some (.int k a)) (hu : P.underlying t = some (.array n e)) (hs : (P.info? e).map (·.size) = some s) (ha : a = (j : Int)) (hj : j ≤ n) :
  Y P L w (.slice t x none (some y) none) ty (.slice (some A) j n) := fun ρ hρ w' _ _ _ _ _ => by
 subst ha
 have hb : ((Instr.sliceBounds false n n none (some (.int k j)) none).run P w') = .ok (0, j, n) w' := by simp [Instr.sliceBounds, Instr.sliceBound, asIntOf, hj]
 simp [execOp, hρ _ _ hx, hρ _ _ hy, Instr.sliceAt, Instr.sureAddr, run_underlying hu, hb, bJ hs, Addr.add]
end
namespace Lng
def cQ (x n : Nat) : Nat := x / 2 ^ n + x % 2 ^ n * 2 ^ (64 - n)
def s0 (x : Nat) : Nat := (cQ x 1 ^^^ cQ x 8) ^^^ (x / 128)
def s1 (x : Nat) : Nat := (cQ x 19 ^^^ cQ x 61) ^^^ (x / 64)
def S0 (x : Nat) : Nat := (cQ x 28 ^^^ cQ x 34) ^^^ cQ x 39
def S1 (x : Nat) : Nat := (cQ x 14 ^^^ cQ x 18) ^^^ cQ x 41
def ch (e f g : Nat) : Nat := (e &&& f) ^^^ ((18446744073709551615 - e) &&& g)
def Gi (a b c : Nat) : Nat := ((a &&& b) ^^^ (a &&& c)) ^^^ (b &&& c)
def pre (l : List UInt8) (t : Nat) : Nat → Nat
 | 0 => 0
 | i + 1 => 256 * pre l t i + (l.getD (8 * t + i) 0).toNat
def TS (l : List UInt8) (t : Nat) : Nat := pre l t 8
def jr (l : List UInt8) : Nat → List Nat
 | 0 => []
 | k + 1 => jr l k ++ [TS l k]
def jg (p : List Nat) (k : Nat) : Nat := (s1 (p.getD (k + 14) 0) + p.getD (k + 9) 0 + s0 (p.getD (k + 1) 0) + p.getD k 0) % 18446744073709551616
def ext (m : List Nat) : Nat → List Nat
 | 0 => m
 | k + 1 => ext m k ++ [jg (ext m k) k]
def words (l : List UInt8) : List Nat := ext (jr l 16) 64
structure S8 where
 (a b c d e f g h : Nat)
def S8.list (s : S8) : List Nat := [s.a, s.b, s.c, s.d, s.e, s.f, s.g, s.h]
def S8.ok (s : S8) : Prop := s.a < 18446744073709551616 ∧ s.b < 18446744073709551616 ∧ s.c < 18446744073709551616 ∧ s.d < 18446744073709551616 ∧ s.e < 18446744073709551616 ∧ s.f < 18446744073709551616 ∧ s.g < 18446744073709551616 ∧ s.h < 18446744073709551616
def K : List Nat := [
 0x428a2f98d728ae22, 0x7137449123ef65cd, 0xb5c0fbcfec4d3b2f, 0xe9b5dba58189dbbc,
 0x3956c25bf348b538, 0x59f111f1b605d019, 0x923f82a4af194f9b, 0xab1c5ed5da6d8118,
 0xd807aa98a3030242, 0x12835b0145706fbe, 0x243185be4ee4b28c, 0x550c7dc3d5ffb4e2,
 0x72be5d74f27b896f, 0x80deb1fe3b1696b1, 0x9bdc06a725c71235, 0xc19bf174cf692694,
 0xe49b69c19ef14ad2, 0xefbe4786384f25e3, 0x0fc19dc68b8cd5b5, 0x240ca1cc77ac9c65,
 0x2de92c6f592b0275, 0x4a7484aa6ea6e483, 0x5cb0a9dcbd41fbd4, 0x76f988da831153b5,
 0x983e5152ee66dfab, 0xa831c66d2db43210, 0xb00327c898fb213f, 0xbf597fc7beef0ee4,
 0xc6e00bf33da88fc2, 0xd5a79147930aa725, 0x06ca6351e003826f, 0x142929670a0e6e70,
 0x27b70a8546d22ffc, 0x2e1b21385c26c926, 0x4d2c6dfc5ac42aed, 0x53380d139d95b3df,
 0x650a73548baf63de, 0x766a0abb3c77b2a8, 0x81c2c92e47edaee6, 0x92722c851482353b,
 0xa2bfe8a14cf10364, 0xa81a664bbc423001, 0xc24b8b70d0f89791, 0xc76c51a30654be30,
 0xd192e819d6ef5218, 0xd69906245565a910, 0xf40e35855771202a, 0x106aa07032bbd1b8,
 0x19a4c116b8d2d0c8, 0x1e376c085141ab53, 0x2748774cdf8eeb99, 0x34b0bcb5e19b48a8,
 0x391c0cb3c5c95a63, 0x4ed8aa4ae3418acb, 0x5b9cca4f7763e373, 0x682e6ff3d6b2b8a3,
 0x748f82ee5defb2fc, 0x78a5636f43172f60, 0x84c87814a1f0ab72, 0x8cc702081a6439ec,
 0x90befffa23631e28, 0xa4506cebde82bde9, 0xbef9a3f7b2c67915, 0xc67178f2e372532b,
 0xca273eceea26619c, 0xd186b8c721c0c207, 0xeada7dd6cde0eb1e, 0xf57d4f7fee6ed178,
 0x06f067aa72176fba, 0x0a637dc5a2c898a6, 0x113f9804bef90dae, 0x1b710b35131c471b,
 0x28db77f523047d84, 0x32caab7b40c72493, 0x3c9ebe0a15c9bebc, 0x431d67c49c100d4c,
 0x4cc5d4becb3e42b6, 0x597f299cfc657e2a, 0x5fcb6fab3ad6faec, 0x6c44198c4a475817]
def H0 : List Nat := [
 0x6a09e667f3bcc908, 0xbb67ae8584caa73b, 0x3c6ef372fe94f82b, 0xa54ff53a5f1d36f1,
 0x510e527fade682d1, 0x9b05688c2b3e6c1f, 0x1f83d9abfb41bd6b, 0x5be0cd19137e2179]
def IV : S8 := ⟨
 0x6a09e667f3bcc908, 0xbb67ae8584caa73b, 0x3c6ef372fe94f82b, 0xa54ff53a5f1d36f1,
 0x510e527fade682d1, 0x9b05688c2b3e6c1f, 0x1f83d9abfb41bd6b, 0x5be0cd19137e2179⟩
def T1 (s : S8) (k w : Nat) : Nat := s.h + S1 s.e + ch s.e s.f s.g + k + w
def T2 (s : S8) : Nat := S0 s.a + Gi s.a s.b s.c
def As (s : S8) (k w : Nat) : S8 :=
 ⟨(T1 s k w + T2 s) % 18446744073709551616, s.a, s.b, s.c, (s.d + T1 s k w) % 18446744073709551616, s.e, s.f, s.g⟩
def rounds (w : List Nat) (s : S8) : Nat → S8
 | 0 => s
 | t + 1 => As (rounds w s t) (K.getD t 0) (w.getD t 0)
def S8.add (s x : S8) : S8 := ⟨(s.a + x.a) % 18446744073709551616, (s.b + x.b) % 18446744073709551616, (s.c + x.c) % 18446744073709551616, (s.d + x.d) % 18446744073709551616,
 (s.e + x.e) % 18446744073709551616, (s.f + x.f) % 18446744073709551616, (s.g + x.g) % 18446744073709551616, (s.h + x.h) % 18446744073709551616⟩
def step (s : S8) (b : List UInt8) : S8 := s.add (rounds (words b) s 80)
def kT (n : Nat) : List UInt8 := [UInt8.ofNat (n / 72057594037927936), UInt8.ofNat (n / 281474976710656), UInt8.ofNat (n / 1099511627776), UInt8.ofNat (n / 4294967296),
 UInt8.ofNat (n / 16777216), UInt8.ofNat (n / 65536), UInt8.ofNat (n / 256), UInt8.ofNat n]
def cA (n : Nat) : Nat := (239 - n % 128) % 128
def pad (n : Nat) : List UInt8 := 128 :: (List.replicate (cA n) 0 ++ (List.replicate 8 0 ++ kT (n * 8)))
def blocks (s : S8) (l : List UInt8) : Nat → S8
 | 0 => s
 | k + 1 => step (blocks s l k) ((l.drop (128 * k)).take 128)
def S8.bytes (s : S8) : List UInt8 := s.list.flatMap kT
def sum (b : List UInt8) : List UInt8 := (blocks IV (b ++ pad b.length) ((b ++ pad b.length).length / 128)).bytes
theorem br {x : Nat} (hx : x < 18446744073709551616) (hn : n ≤ 64) : cQ x n < 18446744073709551616 := by
 unfold cQ
 have h1 : x / 2 ^ n < 2 ^ (64 - n) := by rw [Nat.div_lt_iff_lt_mul (Nat.two_pow_pos n), ← Nat.pow_add, Nat.sub_add_cancel hn]; exact hx
 have h2 : x % 2 ^ n < 2 ^ n := Nat.mod_lt _ (Nat.two_pow_pos n)
 have h3 : x % 2 ^ n * 2 ^ (64 - n) + 2 ^ (64 - n) ≤ 18446744073709551616 := by have : (x % 2 ^ n + 1) * 2 ^ (64 - n) ≤ 2 ^ n * 2 ^ (64 - n) := Nat.mul_le_mul_right _ h2;rw [← Nat.pow_add, Nat.add_sub_cancel' hn, Nat.add_mul] at this;omega
 omega
theorem ix {x y : Nat} (hx : x < 18446744073709551616) (hy : y < 18446744073709551616) : x ^^^ y < 18446744073709551616 := Nat.xor_lt_two_pow (n := 64) hx hy
theorem fE {x y : Nat} (hx : x < 18446744073709551616) : x &&& y < 18446744073709551616 := Nat.lt_of_le_of_lt Nat.and_le_left hx
theorem xi {x : Nat} (hx : x < 18446744073709551616) (hn : n ≤ 64) : (x * 2 ^ (64 - n) % 18446744073709551616) ||| (x / 2 ^ n) = cQ x n := by
 have hp : (18446744073709551616 : Nat) = 2 ^ n * 2 ^ (64 - n) := by rw [← Nat.pow_add, Nat.add_sub_cancel' hn]
 have h1 : x * 2 ^ (64 - n) % 18446744073709551616 = x % 2 ^ n * 2 ^ (64 - n) := by rw [hp, Nat.mul_mod_mul_right]
 have h2 : x / 2 ^ n < 2 ^ (64 - n) := by rw [Nat.div_lt_iff_lt_mul (Nat.two_pow_pos n), ← Nat.pow_add, Nat.sub_add_cancel hn]; exact hx
 rw [h1, nat_join (64 - n) _ _ (by simp) h2];unfold cQ;omega
theorem wF (l : List UInt8) (t i : Nat) : pre l t i < 256 ^ i := by
  induction i with
  | zero => simp [pre]
  | succ i ih =>
    have := (l.getD (8 * t + i) 0).toNat_lt
    simp only [pre, Nat.pow_succ]
    omega
theorem Pm (l : List UInt8) (t : Nat) : TS l t < 18446744073709551616 := wF l t 8
theorem fS (l : List UInt8) (k : Nat) : (jr l k).length = k := by induction k with
 | zero => rfl
 | succ k ih => simp [jr, ih]
theorem gS (m : List Nat) (k : Nat) : (ext m k).length = m.length + k := by induction k with
 | zero => rfl
 | succ k ih => simp [ext, ih]; omega
theorem cM (l : List UInt8) : (words l).length = 80 := by simp [words, gS, fS]
theorem sJ (l : List UInt8) (k : Nat) : ∀ x ∈ jr l k, x < 18446744073709551616 := by induction k with
  | zero => simp [jr]
  | succ k ih =>
    intro x hx
    simp only [jr, List.mem_append, List.mem_singleton] at hx
    rcases hx with hx | rfl
    · exact ih x hx
    exact Pm l k
theorem tO (m : List Nat) (hm : ∀ x ∈ m, x < 18446744073709551616) (k : Nat) : ∀ x ∈ ext m k, x < 18446744073709551616 := by induction k with
  | zero => exact hm
  | succ k ih =>
    intro x hx
    simp only [ext, List.mem_append, List.mem_singleton] at hx
    rcases hx with hx | rfl
    · exact ih x hx
    unfold jg; omega
theorem gV (hm : ∀ x ∈ m, x < 18446744073709551616) (k : Nat) : m.getD k 0 < 18446744073709551616 := by
 rw [List.getD_eq_getElem?_getD];rcases h : m[k]? with _ | x
 ·simp
 simpa [h] using hm x (List.mem_of_getElem? h)
theorem BN {s : S8} (h : s.ok) (k w : Nat) : (As s k w).ok := by obtain ⟨h1, h2, h3, h4, h5, h6, h7, h8⟩ := h;exact ⟨Nat.mod_lt _ (by omega), h1, h2, h3, Nat.mod_lt _ (by omega), h5, h6, h7⟩
theorem iH (w : List Nat) {s : S8} (h : s.ok) (t : Nat) : (rounds w s t).ok := by induction t with
 | zero => exact h
 | succ t ih => exact BN ih _ _
theorem Bu (s x : S8) : (s.add x).ok := ⟨Nat.mod_lt _ (by omega), Nat.mod_lt _ (by omega), Nat.mod_lt _ (by omega), Nat.mod_lt _ (by omega), Nat.mod_lt _ (by omega), Nat.mod_lt _ (by omega), Nat.mod_lt _ (by omega), Nat.mod_lt _ (by omega)⟩
theorem vH (s : S8) (b : List UInt8) : (step s b).ok := Bu _ _
theorem uz : IV.ok := by unfold S8.ok IV; decide
theorem cP (n : Nat) : (pad n).length = 17 + cA n := by simp [pad, kT]; omega
theorem kF (n : Nat) : (n + (pad n).length) % 128 = 0 := by rw [cP]; unfold cA; omega
theorem kl (s : S8) : s.bytes.length = 64 := rfl
theorem cn (b : List UInt8) : (sum b).length = 64 := rfl
def fV (l m : List Nat) (k : Nat) : List Nat := (List.zipWith (fun x y => (x + y) % 18446744073709551616) l m).take k ++ l.drop k
theorem mE (l m : List Nat) : fV l m 0 = l := by simp [fV]
theorem l9 (h : l.length = m.length) {k : Nat} (hk : k ≤ l.length) : (fV l m k).length = l.length := by simp [fV, ← h]; omega
theorem oe (h : l.length = m.length) {k : Nat} (hk : k < l.length) : (fV l m k).getD k 0 = l.getD k 0 := by
 have e : ((List.zipWith (fun x y => (x + y) % 18446744073709551616) l m).take k).length = k := by grind
 simp only [fV, List.getD_eq_getElem?_getD];rw [List.getElem?_append_right (by omega), e, Nat.sub_self, List.getElem?_drop, Nat.add_zero]
theorem ox (h : l.length = m.length) {k : Nat} (hk : k < l.length) : (fV l m k).set k ((l.getD k 0 + m.getD k 0) % 18446744073709551616) = fV l m (k + 1) := by
 have e : ((List.zipWith (fun x y => (x + y) % 18446744073709551616) l m).take k).length = k := by grind
 have hz : k < (List.zipWith (fun x y => (x + y) % 18446744073709551616) l m).length := by grind
 simp only [fV];rw [List.set_append_right _ _ (by omega), e, Nat.sub_self, List.take_succ_eq_append_getElem hz, List.drop_eq_getElem_cons hk];grind
theorem r8 (s x : S8) : (s.add x).list = fV s.list x.list 8 := rfl
def wt (l : List UInt8) (t : Nat) : List Nat := ext (jr l (min t 16)) (t - 16)
theorem xt {l : List UInt8} {t : Nat} (h : 16 ≤ t) : wt l (t + 1) = wt l t ++ [jg (wt l t) (t - 16)] := by unfold wt;rw [show min (t + 1) 16 = 16 from by omega, show min t 16 = 16 from by omega, show t + 1 - 16 = (t - 16) + 1 from by omega];rfl
theorem r9 (l : List UInt8) : wt l 80 = words l := rfl
theorem FK (l : List UInt8) (t : Nat) : (wt l t).length = t := by unfold wt; rw [gS, fS]; omega
theorem GY (l : List UInt8) (t : Nat) : ∀ x ∈ wt l t, x < 18446744073709551616 := tO _ (sJ l _) _
end Lng
end
section
open Go.RowKit
def Ns (k : IntKind) (w : World) (A : Oa) (n : Nat) (xs : List Nat) : Prop := xs.length = n ∧ At w A (xs.map (iv k))
variable {xs : List Nat}
theorem Ns.get (h : Ns k w A n xs) (hi : i < n) : ∃ b off x, A = some ⟨b, off, none⟩ ∧ Hid (x = xs.getD i 0) ∧ b < w.heap.size ∧ w.cell? ⟨b, off + i, none⟩ = some (.int k (x : Int)) := by
 have hl : i < xs.length := by rw [h.1]; exact hi
 obtain ⟨b, off, e, hb, hc⟩ := h.2.get (k := i) (by simpa using hl);exact ⟨b, off, _, e, rfl, hb, by simpa [iv, hl] using hc⟩
theorem Ns.below (h : Ns k w A n xs) (hb : Below w.heap.size w w') : Ns k w' A n xs := ⟨h.1, h.2.below hb⟩
theorem Ns.grown {g : Nat} (h : Ns k w A n xs) (hg : w.grownBy w' (some g)) (hne : ∀ b off, A = some ⟨b, off, none⟩ → b ≠ g) : Ns k w' A n xs := by
 refine ⟨h.1, ?_⟩
 rcases h.2 with h0 | ⟨b, off, hA, hc⟩
 ·exact .inl h0
 exact .inr ⟨b, off, hA, fun j u hu => hg.cell (hc j u hu) (by simpa using hne b off hA)⟩
end
section
open Go.RowKit
attribute [local irreducible] Y Ef WL WC WK WQ WM cv
section
variable {v : Nat} {xs : List Nat}
theorem Ns.ext (h : Ns k w A n xs) (E : Ext w w') : Ns k w' A n xs := h.below E
theorem Ns.wk (h : Ns k w0 A n xs) (E : Ext w0 w) : Ns k w A n xs := h.below E
theorem Ns.nJ {c : Nat} {e : TypeId} (h : Row w base e A n c (xs.map (iv k))) : Ns k w A n xs := ⟨by have := h.len; simpa using this, Row.at h⟩
theorem Row.UH {c : Nat} {e : TypeId} (h : Row w base e A n c (xs.map (iv k) ++ ys.map (iv k))) : Row w base e A n c ((xs ++ ys).map (iv k)) := by rw [List.map_append]; exact h
theorem Ns.jn {g : Nat} (h : ao w g t (aM k xs)) (hn : xs.length = n) : Ns k w (some ⟨g, 0, none⟩) n xs :=
 ⟨hn, At.jn (vs := xs.map (iv k)) h⟩
theorem Ns.cell (h : Ns k w A n xs) (hi : i < n) : ∃ b off x, A = some ⟨b, off, none⟩ ∧ Hid (x = xs.getD i 0) ∧ w.cell? ⟨b, off + i, none⟩ = some (.int k (x : Int)) := by obtain ⟨b, off, x, e, hx, _, hc⟩ := h.get hi;exact ⟨b, off, x, e, hx, hc⟩
end
theorem bD {a : Int} (h : a = (n : Int)) (hn : n ≤ 9223372036854775807) : IntKind.i64.wrap a = (n : Int) := by subst h; exact bj Om Om
theorem p9 (n : Int) : IntKind.u64.wrap n = n % 18446744073709551616 := by simp [IntKind.wrap, IntKind.bits, IntKind.signed]
theorem Nk {a : Int} (h : a = (n : Int)) : IntKind.u64.wrap a = ((n % 18446744073709551616 : Nat) : Int) := by subst h; rw [p9]; omega
end
open Go.RowKit
attribute [local irreducible] Y Ef WL WC WK WQ WM cv
theorem aH {a : Int} (h : a = (n : Int)) (hn : n < 18446744073709551616) : IntKind.u64.wrap a = (n : Int) := by subst h; rw [p9]; omega
theorem JS : Ap Tryz.prog 177 38 8 := Ap.of Tryz.underlying177 (z := .int .u64 0) Kr rfl
end Go.Proofs.YtgfafidlkldeaaaGreat
