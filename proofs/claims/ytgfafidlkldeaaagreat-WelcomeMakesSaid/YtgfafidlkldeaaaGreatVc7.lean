/- Single operations more: fields, pointers held against nil, parts of blocks, arrays and structs built, functions made and called. More single laws: functions without a body that make memory, cuts with three places, results of two kinds. No conditions: plain lemmas of the model. A region that draws its order, by a base: all that is turned in it was made in it; what makes memory of nothing floats till it is wanted. No conditions: plain lemmas of the model. -/
import Derived.Test.YtgfafidlkldeaaaGreatSl
import Derived.Laws.Pointers
import Derived.Lib.MakeNoZero
import Derived.Laws.Externs
import Derived.Laws.ResultCell
set_option linter.unusedVariables false
set_option linter.unusedSimpArgs false
namespace Go.Proofs.YtgfafidlkldeaaaGreat
section
open Go.RowKit
section
variable {P : Program} {L : List (Nat × Value)} {w : World} {ty t t' e : TypeId} {x y : Operand}
theorem Addr.add_plain (b off i : Nat) : (⟨b, off, none⟩ : Addr).add i = ⟨b, off + i, none⟩ := by unfold Addr.add; split <;> simp_all
theorem nB {b off i o o' s : Nat} {fs : Array Field} {ft : TypeId} (hx : ev L x = some (.pointer (some ⟨b, off, none⟩))) (hu : P.underlying t = some (.struct fs)) (hf : (fs[i]?).map (fun f => (f.offset, f.type)) = some (o, ft)) (hs : (P.info? ft).map (·.size) = some s) (h0 : (s == 0) = false) (ho : off + o = o') :
    Y P L w (.fieldAddr t x i) ty (.pointer (some ⟨b, o', none⟩)) := fun ρ hρ w' _ _ _ _ _ => by
  subst ho
  cases hq : fs[i]? with
  | none => simp [hq] at hf
  | some f =>
    simp only [hq, Option.map_some, Option.some.injEq, Prod.mk.injEq] at hf
    obtain ⟨rfl, rfl⟩ := hf
    have hsz := bo hs w'
    have h0' : s ≠ 0 := by simpa using h0
    simp [execOp, hρ _ _ hx, Instr.fieldAt, Instr.sureAddr, run_underlying hu, hq, fieldPlace, hsz, h0', Addr.add_plain]
theorem CC {d : TypeDesc} (hu : P.underlying t = some d) (hd : (match d with | .struct _ | .array _ _ => false | _ => true) = true) (w' : World) : (isAgg t).run P w' = .ok false w' := by
 cases d <;> simp_all [isAgg, run_underlying hu]
theorem jZ {d : TypeDesc} (hu : P.underlying t = some d) (hd : (match d with | .struct _ | .array _ _ => true | _ => false) = true) (w' : World) : (isAgg t).run P w' = .ok true w' := by
 cases d <;> simp_all [isAgg, run_underlying hu]
theorem BY {cs vs : Array Value} {i o s : Nat} {fs : Array Field} {ft : TypeId} {d : TypeDesc} (hx : ev L x = some (.agg cs)) (hu : P.underlying t = some (.struct fs)) (hf : (fs[i]?).map (fun f => (f.offset, f.type)) = some (o, ft)) (he : P.underlying ft = some d) (hd : (match d with | .struct _ | .array _ _ => true | _ => false) = true) (hs : (P.info? ft).map (·.size) = some s) (hv : cs.extract o (o + s) = vs) :
    Y P L w (.field t x i) ty (.agg vs) := fun ρ hρ w' _ _ _ _ _ => by
  subst hv
  cases hq : fs[i]? with
  | none => simp [hq] at hf
  | some f =>
    simp only [hq, Option.map_some, Option.some.injEq, Prod.mk.injEq] at hf
    obtain ⟨rfl, rfl⟩ := hf
    simp [execOp, hρ _ _ hx, Instr.field, run_underlying hu, hq, asAgg, part, jZ he hd w', bo hs w']
theorem LF {n j s : Nat} {a : Int} {k : IntKind} {cs vs : Array Value} {d : TypeDesc} (hx : ev L x = some (.agg cs)) (hy : ev L y = some (.int k a)) (hu : P.underlying t = some (.array n e)) (he : P.underlying e = some d) (hd : (match d with | .struct _ | .array _ _ => true | _ => false) = true)
  (hs : (P.info? e).map (·.size) = some s) (ha : a = (j : Int)) (hj : j < n) (hv : cs.extract (j * s) (j * s + s) = vs) : Y P L w (.index t x y) ty (.agg vs) := fun ρ hρ w' _ _ _ _ _ => by
 subst ha; subst hv
 have hb : 0 ≤ (j : Int) ∧ (j : Int) < n := by omega
 simp [execOp, hρ _ _ hx, hρ _ _ hy, Instr.index, asIntOf, run_underlying hu, hb, part, jZ he hd w', bo hs w', hj]
def JX (L : List (Nat × Value)) : List (Nat × Operand) → Option (List (Nat × Value))
  | [] => some []
  | p :: ps => match ev L p.2, JX L ps with
    | some v, some vs => some ((p.1, v) :: vs)
    | _, _ => none
theorem su {ρ : Operand → Value} (hρ : ∀ x u, ev L x = some u → ρ x = u) : ∀ (ps : List (Nat × Operand)) {vs : List (Nat × Value)}, JX L ps = some vs → ps.map (fun p => (p.1, ρ p.2)) = vs
  | [], vs, hx => by simp [JX] at hx; simp [hx]
  | p :: ps, vs, hx => by
    simp only [JX] at hx
    cases h1 : ev L p.2 with
    | none => simp [h1] at hx
    | some v =>
      cases h2 : JX L ps with
      | none => simp [h1, h2] at hx
      | some us =>
        simp only [h1, h2, Option.some.injEq] at hx
        subst hx
        rw [List.map_cons, su hρ ps h2, hρ _ _ h1]
theorem aJ {ps : Array (Nat × Operand)} {qs : List (Nat × Value)} {cells : Array Value} (hx : JX L ps.toList = some qs) (h : P.built t qs = some cells) : Y P L w (.build t ps) ty (.agg cells) := fun ρ hρ w' _ _ _ _ _ => by
 have e := su hρ ps.toList hx
 have hr := run_build (P := P) w' t (ps.map fun p => (p.1, ρ p.2)) cells (by rw [Array.toList_map, e]; exact h)
 have e2 : (execOp ρ ⟨‹_›, .build t ps, ty, ‹_›, ‹_›, ‹_›⟩) = (do pure (.value (← Instr.build t (ps.map fun p => (p.1, ρ p.2))))) := rfl
 rw [e2]
 simp [hr]
theorem dH {ad : Addr} {cs : Array Value} {d : TypeDesc} (hx : ev L x = some (.pointer (some ad))) (hu : P.underlying t = some d) (hd : (match d with | .struct _ | .array _ _ => true | _ => false) = true) (hs : (P.info? t).map (·.size) = some cs.size)
  (hr : ∀ j v, cs[j]? = some v → w.cell? (ad.add j) = some v) : Y P L w (.load t x) ty (.agg cs) := fun ρ hρ w' ex _ _ _ _ => by
 have hl := run_loadCells_list (P := P) w' ad cs.toList fun j v hv => (ex.cell (dQ (hr j v (by simpa using hv)))).trans (hr j v (by simpa using hv))
 have hl' : (loadCells ad cs.size).run P w' = .ok cs w' := by simpa using hl
 simp [execOp, hρ _ _ hx, Instr.loadAt, Instr.sureAddr, loadVar, jZ hu hd w', bo hs w', hl']
theorem KE {b off n m j s : Nat} {k : IntKind} {a : Int} (hx : ev L x = some (.slice (some ⟨b, off, none⟩) n m)) (hy : ev L y = some (.int k a)) (hu : P.underlying t = some (.slice e)) (hs : (P.info? e).map (·.size) = some s) (ha : a = (j : Int)) (hj : j < n) :
  Y P L w (.indexAddr t x y) ty (.pointer (some ⟨b, off + j * s, none⟩)) := by
 have h := Ho (w := w) (ty := ty) hx hy hu hs ha hj
 rwa [Addr.add_plain] at h
theorem rY {b off n j s : Nat} {k : IntKind} {a : Int} (hx : ev L x = some (.pointer (some ⟨b, off, none⟩))) (hy : ev L y = some (.int k a)) (hu : P.underlying t = some (.array n e)) (hs : (P.info? e).map (·.size) = some s) (ha : a = (j : Int)) (hj : j < n) :
  Y P L w (.indexAddr t x y) ty (.pointer (some ⟨b, off + j * s, none⟩)) := by
 have h := It (w := w) (ty := ty) hx hy hu hs ha hj
 rwa [Addr.add_plain] at h
theorem bA {g o : Nat} {old cells : Array Value} (hx : ev L x = some (.pointer (some ⟨g, o, none⟩))) (hy : ev L y = some (.agg cells)) (hs : (P.info? t).map (·.size) = some cells.size) (hg : ao w g e old) (ho : o + cells.size ≤ old.size) (h1 : cells.all (·.oneCell') = true) :
  Ef P L w (.store t x y) ty fun u w' => u = undef ∧ ao w' g e (old.toList.take o ++ cells.toList ++ old.toList.drop (o + cells.size)).toArray ∧ j7 w g w' := by
 have h1' : ∀ v ∈ cells.toList, v.oneCell' = true := fun v hv => by
  rw [Array.all_eq_true] at h1
  obtain ⟨i, hi, rfl⟩ := List.getElem_of_mem hv
  simpa using h1 i (by simpa using hi)
 have hst := run_storeCells_at P g o e cells.toList 0 old w hg (by simpa using ho) h1'
 simp only [Nat.add_zero, Array.length_toList] at hst
 exact (Ef.JA (Φ := fun w' => w' = w.setRow g (old.toList.take o ++ cells.toList ++ old.toList.drop (o + cells.size)).toArray) fun ρ hρ => ⟨_, rfl, fun _ _ _ _ => by simp [execOp, hρ _ _ hx, hρ _ _ hy, Instr.storeAt, Instr.sureAddr, storeVar, Value.cells, bo hs w, hst]⟩).mono fun _ w' ⟨hu, hw⟩ => ⟨hu, by subst hw; exact hg.row _, by subst hw; exact kZ w g _⟩
theorem nW {ρ : Operand → Value} (hρ : ∀ x u, ev L x = some u → ρ x = u) : ∀ (xs : List Operand) {vs : List Value}, lI L xs = some vs → xs.map ρ = vs
  | [], vs, hx => by simp [lI] at hx; simp [hx]
  | x :: xs, vs, hx => by
    simp only [lI] at hx
    cases h1 : ev L x with
    | none => simp [h1] at hx
    | some v =>
      cases h2 : lI L xs with
      | none => simp [h1, h2] at hx
      | some us =>
        simp only [h1, h2, Option.some.injEq] at hx
        subst hx
        rw [List.map_cons, nW hρ xs h2, hρ _ _ h1]
theorem jc {f : FuncId} {xs : List Operand} {vs : List Value} (hx : lI L xs = some vs) : Y P L w (.makeFunc (.func f) #[] xs.toArray) ty (.func (.func f) #[] vs.toArray) := fun ρ hρ w' _ _ _ _ _ => by
 have e : (xs.map ρ) = vs := nW hρ xs hx
 simp [execOp, Instr.makeFunc, e]
theorem lK {f : FuncId} {z : Operand} {xs : List Operand} {ats : Array TypeId} {vs us : List Value} {R : Ending → World → Prop} {Φ : Value → World → Prop} {fn : Func} {c : Code} (hz : ev L z = some (.func (.func f) #[] us.toArray)) (hf : P.funcs[f]? = some fn) (hb : fn.body = some c) (hn : (fn.name == "runtime.NumGoroutine") = false)
  (hx : lI L xs = some vs) (h : Calls P f (vs ++ us).toArray w R) (hR : ∀ e w', R e w' → ∃ v, e = .returned v ∧ Φ v w') : Ef P L w (.call { callee := .value z, args := xs.toArray, argTypes := ats }) ty Φ := by
 intro a N ha dst pos after guard K Q hK
 unfold Oper.wp
 have hzz : a.eval z = .func (.func f) #[] us.toArray := ha.ev hz
 have e0 : (execOp a.eval { dst, op := .call { callee := .value z, args := xs.toArray, argTypes := ats }, type := ty, pos, after, guard }) = (do let d ← Deferred.ofValue (a.eval z) (xs.toArray.map a.eval); invoke d.target d.args) := rfl
 rw [e0, hzz]
 have e : #[] ++ xs.toArray.map a.eval ++ us.toArray = (vs ++ us).toArray := by
  have := ha.lI hx
  simp [this]
 have hrun : ((do let d ← Deferred.ofValue (.func (.func f) #[] us.toArray) (xs.toArray.map a.eval); invoke d.target d.args) : Sem Next).run P w = .ok (.enter f (vs ++ us).toArray) w := by
  have hn' : ¬ fn.name = "runtime.NumGoroutine" := by simpa using hn
  simp only [Deferred.ofValue, Sem.run_bind, Sem.run_pure, Result.andThen_ok, invoke]
  rw [e]
  simp [callFunc, hf, hb, hn']
 rw [hrun]
 simp only [Oper.upon]
 refine h.mono fun e w' hr => ?_
 obtain ⟨v, rfl, hΦ⟩ := hR e w' hr
 exact hK v w' hΦ
theorem kI {f : FuncId} {xs : List Operand} {ats : Array TypeId} {vs : List Value} {v : Value} (hx : lI L xs = some vs) (h : ∀ w' : World, (callFunc f vs.toArray).run P w' = .ok (.value v) w') : Y P L w (.call { callee := .value (.func f), args := xs.toArray, argTypes := ats }) ty v := fun ρ hρ w' _ dst pos after guard => by
 have e : #[] ++ xs.toArray.map ρ ++ #[] = vs.toArray := by simp [nW hρ xs hx]
 have e0 : (execOp ρ ⟨dst, .call { callee := .value (.func f), args := xs.toArray, argTypes := ats }, ty, pos, after, guard⟩) = (do let d ← Deferred.ofValue (ρ (.func f)) (xs.toArray.map ρ); invoke d.target d.args) := rfl
 have e1 : ρ (.func f) = .func (.func f) #[] #[] := hρ _ _ rfl
 rw [e0, e1]
 simp only [Deferred.ofValue, Sem.run_bind, Sem.run_pure, Result.andThen_ok, invoke]
 rw [e]
 exact h w'
theorem aI {f : FuncId} {fn : Func} {c : Code} {args : Array Value} {R : Ending → World → Prop} {s : Nat} {d : TypeDesc} (N : Nat) {u : Tmp} (hf : P.funcs[f]? = some fn) (hb : fn.body = some c) (hN : fn.ntmps = N) (hr : fn.results = #[.cell u ty]) (hu : P.underlying ty = some d) (hd : (match d with | .struct _ | .array _ _ => true | _ => false) = true) (hs : (P.info? ty).map (·.size) = some s) (hsz : Nat.ble args.size N = true)
  (h : ∀ Q : Exit → Act → World → Prop, (∀ {N : Nat} {L : List (Nat × Value)} {w : World} {g : Nat} {e : TypeId} {cs : Array Value}, look L u = some (.pointer (some ⟨g, 0, none⟩)) → ao w g e cs → cs.size = s → R (.returned (.agg cs)) w → WQ Q .ret N L w) → WC P Q c N (eX 0 args.toList) w) : Calls P f args w R :=
 fK N hf hb hN hsz fun Q hQ => h Q fun hv hg hsz' hR a ha => hQ (bodyPost_ret (results_cell_row hr _ _ _ _ _ _ _ (cE (ha.has _ _ hv)) hg hu hd (by rw [hsz']; exact hs)) ha.defers hR)
end
end
section
open Go.RowKit
section
variable {P : Program} {L : List (Nat × Value)} {w : World} {ty t e : TypeId} {x y : Operand}
theorem GW {f : FuncId} {xs : List Operand} {ats : Array TypeId} {vs : List Value} {Φ : Value → World → Prop} (hx : lI L xs = some vs) (h : ∃ v w', (callFunc f vs.toArray).run P w = .ok (.value v) w' ∧ Φ v w') : Ef P L w (.call { callee := .value (.func f), args := xs.toArray, argTypes := ats }) ty Φ := by
 obtain ⟨v, w', h, hΦ⟩ := h
 refine Ef.run fun ρ hρ => ⟨v, w', hΦ, fun dst pos after guard => ?_⟩
 have e : #[] ++ xs.toArray.map ρ ++ #[] = vs.toArray := by simp [nW hρ xs hx]
 have e0 : (execOp ρ ⟨dst, .call { callee := .value (.func f), args := xs.toArray, argTypes := ats }, ty, pos, after, guard⟩) = (do let d ← Deferred.ofValue (ρ (.func f)) (xs.toArray.map ρ); invoke d.target d.args) := rfl
 have e1 : ρ (.func f) = .func (.func f) #[] #[] := hρ _ _ rfl
 rw [e0, e1]
 simp only [Deferred.ofValue, Sem.run_bind, Sem.run_pure, Result.andThen_ok, invoke]
 rw [e]
 exact h
def JG (w : World) (e : TypeId) (n : Nat) (v : Value) (w' : World) : Prop := ∃ g cs, v = .slice (some ⟨g, 0, none⟩) n cs.size ∧ ao w' g e cs ∧ n ≤ cs.size ∧ w.heap.size ≤ g ∧ Ext w w'
theorem Fm {z : Operand} {A : Oa} {n c' h m s : Nat} {k k2 : IntKind} {a b : Int} (hx : ev L x = some (.slice A n c')) (hy : ev L y = some (.int k a)) (hz : ev L z = some (.int k2 b)) (hu : P.underlying t = some (.slice e)) (hs : (P.info? e).map (·.size) = some s) (ha : a = (h : Int)) (hb' : b = (m : Int)) (hh : h ≤ m) (hm : m ≤ c') :
  Y P L w (.slice t x none (some y) (some z)) ty (.slice A h m) := fun ρ hρ w' _ _ _ _ _ => by
 subst ha; subst hb'
 have hb : ((Instr.sliceBounds true n c' none (some (.int k h)) (some (.int k2 m))).run P w') = .ok (0, h, m) w' := by
  simp [Instr.sliceBounds, Instr.sliceBound, asIntOf, hh, hm]
 simp [execOp, hρ _ _ hx, hρ _ _ hy, hρ _ _ hz, Instr.sliceAt, Instr.slice, run_underlying hu, hb, bo hs]
 cases A <;> simp [Addr.add]
end
section
variable {P : Program} {f : FuncId} {fn : Func} {c : Code} {args : Array Value} {R : Ending → World → Prop} {w : World}
theorem cV {ty : TypeId} {s : Nat} {d : TypeDesc} (N : Nat) {u t : Tmp} (hf : P.funcs[f]? = some fn) (hb : fn.body = some c) (hN : fn.ntmps = N) (hr : fn.results = #[.cell u ty, .tmp t]) (hu : P.underlying ty = some d) (hd : (match d with | .struct _ | .array _ _ => true | _ => false) = true) (hs : (P.info? ty).map (·.size) = some s) (hsz : Nat.ble args.size N = true)
  (h : ∀ Q : Exit → Act → World → Prop, (∀ {N : Nat} {L : List (Nat × Value)} {w : World} {g : Nat} {e : TypeId} {cs : Array Value} {v : Value}, look L u = some (.pointer (some ⟨g, 0, none⟩)) → look L t = some v → ao w g e cs → cs.size = s → R (.returned (.tuple #[.agg cs, v])) w → WQ Q .ret N L w) → WC P Q c N (eX 0 args.toList) w) : Calls P f args w R :=
 fK N hf hb hN hsz fun Q hQ => h Q fun {N L w g e cs v} hv ht hg hsz' hR a ha => hQ (bodyPost_ret (v := .tuple #[.agg cs, v]) (by
  rw [results_cell_tmp hr, cE (ha.has _ _ hv), cE (ha.has _ _ ht)]
  simp [asAddr, run_loadVar_row w g e ty cs _ d hg hu hd (by rw [hsz']; exact hs), Result.andThen]) ha.defers hR)
end
section
variable {P : Program} {ops : Array Oper} {Q : Exit → Act → World → Prop} {rest : List Oper} {N : Nd} {L : List (Nat × Value)} {w : World}
theorem yK {j : Nat} {t : Tmp} {b' : Bool} {op : Op} {ty : TypeId} {dst : Option Tmp} {pos : String} {after : Array Edge} {a : Act} (ha : Fr N L a) (hj : (ops[j]?).bind (·.dst) = some t) (ht : look L t = some undef) :
  Region.wanted ⟨dst, op, ty, pos, after, some (j, b')⟩ (yielded ops a.tmps) = false := by
 have h1 := ha.has t _ ht
 simp only [Region.wanted, yielded, hj, Option.bind_some, h1]
 cases b' <;> rfl
theorem ck {op : Op} {ty : TypeId} {dst : Option Tmp} {pos : String} {after : Array Edge} {j : Nat} {b' : Bool} (t : Tmp) (hj : (ops[j]?).bind (·.dst) = some t) (ht : look L t = some undef)
  (hd : gH N dst = true) (hr : WL P ops Q rest N (bL dst undef L) w) : WL P ops Q (⟨dst, op, ty, pos, after, some (j, b')⟩ :: rest) N L w := by
 intro a ha
 refine wpList_step fun K hK => ?_
 rw [if_neg (by rw [yK ha hj ht]; simp)]
 exact hK _ _ (hr _ (ha.jE hd undef))
end
section
variable {P : Program} {Q : Exit → Act → World → Prop} {N : Nd} {L : List (Nat × Value)} {w : World} {c : Code}
def JQ (J : List (Nat × Value) → World → Prop) (N : Nd) (Q : Exit → Act → World → Prop) : Exit → Act → World → Prop
 | .normal, a, w => ∃ L, Fr N L a ∧ J L w
 | e, a, w => Q e a w
theorem et (J : List (Nat × Value) → World → Prop) (h1 : WC P (JQ J N Q) c N L w) (h2 : ∀ L' w', J L' w' → WQ Q .normal N L' w') : WC P Q c N L w := fun a ha =>
 wp_mono (h1 a ha) fun e a' w' hq => by
  cases e with
  | normal => obtain ⟨L', ha', hJ⟩ := hq; exact h2 L' w' hJ a' ha'
  | goto l => exact hq
  | exit i => exact hq
  | ret => exact hq
  | panic ch => exact hq
  | outgrown => exact hq
theorem bB {J : List (Nat × Value) → World → Prop} (L' : List (Nat × Value)) (hJ : J L' w) (hin : jB L L') : WQ (JQ J N Q) .normal N L w := fun _ ha => ⟨L', ha.sub hin, hJ⟩
end
section
variable {P : Program} {f : FuncId} {fn : Func} {c : Code} {args : Array Value} {R : Ending → World → Prop} {w : World}
theorem p9 {p q : Tmp} {ty ty' : TypeId} (h : fn.results = #[.cell p ty, .cell q ty']) (tmps : Array Value) {g g' : Nat} {t t' : TypeId} {cs cs' : Array Value} {d d' : TypeDesc}
  (hp : tmps.getD p undef = .pointer (some ⟨g, 0, none⟩)) (hq : tmps.getD q undef = .pointer (some ⟨g', 0, none⟩)) (hg : ao w g t cs) (hg' : ao w g' t' cs') (hu : P.underlying ty = some d) (hd : (match d with | .struct _ | .array _ _ => true | _ => false) = true) (hi : (P.info? ty).map (·.size) = some cs.size)
  (hu' : P.underlying ty' = some d') (hd' : (match d' with | .struct _ | .array _ _ => true | _ => false) = true) (hi' : (P.info? ty').map (·.size) = some cs'.size) : (results fn tmps).run P w = .ok (.tuple #[.agg cs, .agg cs']) w := by
 have hp' : tmps[p]?.getD undef = .pointer (some ⟨g, 0, none⟩) := by simpa using hp
 have hq' : tmps[q]?.getD undef = .pointer (some ⟨g', 0, none⟩) := by simpa using hq
 simp [results, h, hp', hq', asAddr, run_loadVar_row w g t ty cs _ d hg hu hd hi, run_loadVar_row w g' t' ty' cs' _ d' hg' hu' hd' hi']
theorem wN {ty ty' : TypeId} {s s' : Nat} {d d' : TypeDesc} (N : Nat) {u t : Tmp} (hf : P.funcs[f]? = some fn) (hb : fn.body = some c) (hN : fn.ntmps = N) (hr : fn.results = #[.cell u ty, .cell t ty']) (hu : P.underlying ty = some d) (hd : (match d with | .struct _ | .array _ _ => true | _ => false) = true) (hs : (P.info? ty).map (·.size) = some s)
  (hu' : P.underlying ty' = some d') (hd' : (match d' with | .struct _ | .array _ _ => true | _ => false) = true) (hs' : (P.info? ty').map (·.size) = some s') (hsz : Nat.ble args.size N = true)
  (h : ∀ Q : Exit → Act → World → Prop, (∀ {N : Nat} {L : List (Nat × Value)} {w : World} {g g' : Nat} {e e' : TypeId} {cs cs' : Array Value}, look L u = some (.pointer (some ⟨g, 0, none⟩)) → look L t = some (.pointer (some ⟨g', 0, none⟩)) → ao w g e cs → cs.size = s → ao w g' e' cs' → cs'.size = s' → R (.returned (.tuple #[.agg cs, .agg cs'])) w → WQ Q .ret N L w) → WC P Q c N (eX 0 args.toList) w) : Calls P f args w R :=
 fK N hf hb hN hsz fun Q hQ => h Q fun {N L w g g' e e' cs cs'} hv ht hg hz hg' hz' hR a ha => hQ (bodyPost_ret (v := .tuple #[.agg cs, .agg cs']) (p9 hr _ (cE (ha.has _ _ hv)) (cE (ha.has _ _ ht)) hg hg' hu hd (by rw [hz]; exact hs) hu' hd' (by rw [hz']; exact hs')) ha.defers hR)
end
end
section
open Go.RowKit
section
variable {P : Program} {ops : Array Oper} {Q : Exit → Act → World → Prop} {N : Nd} {L : List (Nat × Value)} {w w0 : World}
def Ao (P : Program) (ops : Array Oper) (Q : Exit → Act → World → Prop) (w0 : World) : Nat → Array Bool → Act → World → Prop
 | 0, listed, a, w => Region.ready .any ops listed = [] ∧ Q .normal a w
 | n + 1, listed, a, w => (Region.ready .any ops listed = [] → Q .normal a w) ∧
   ∀ i ∈ Region.ready .any ops listed, wpOp P ops Q i (fun a' w' => Ext w0 w' ∧ Ao P ops Q w0 n (listed.setIfInBounds i true) a' w') a w
theorem xG : ∀ (n : Nat) (listed : Array Bool) (a : Act) (w : World), Ao P ops Q w0 n listed a w → wpAny P .any ops Q n listed a w
 | 0, _, _, _, h => h
 | n + 1, _, _, _, h => ⟨h.1, fun i hi => wpOp_mono (fun a' w' h' => xG n _ a' w' h'.2) (h.2 i hi)⟩
theorem qB {i : Nat} {oi : Oper} {v : Value} (D : Nat → Bool) (hi : ops[i]? = some oi) (hsel : ∀ (j : Nat) (o : Oper) cs b, ops[j]? = some o → o.op ≠ .select cs b)
    (hQ : ∀ c a w, Q (.panic c) (a.put oi.dst v) w → Q (.panic c) a w) :
    ∀ (n : Nat) (listed : Array Bool) (a : Act) (w : World), Ext w0 w →
      (∀ j oj, ops[j]? = some oj → j ≠ i → listed.getD j true = false → D j = true → ∃ e ∈ oj.after, Region.binds .any e = true ∧ (e.on = i ∨ D e.on = true ∧ listed.getD e.on true = false)) →
      (∀ j oj, ops[j]? = some oj → j ≠ i → listed.getD j true = false → D j = false → oi.apart ops oj = true) →
      i ∈ Region.ready .any ops listed → YieldsIf P ops (fun w' => Ext w0 w') oi v a →
      Ao P ops Q w0 n (listed.setIfInBounds i true) (a.put oi.dst v) w → Ao P ops Q w0 (n + 1) listed a w := by
  intro n
  induction n with
  | zero =>
    intro listed a w hx0 _ _ hr hy H
    refine ⟨fun h => (by rw [h] at hr; cases hr), fun j hj => ?_⟩
    by_cases hji : j = i
    · subst hji; exact hy.wpOp hi hx0 ⟨hx0, H⟩
    · have := ready_mono hj hji
      rw [H.1] at this
      cases this
  | succ n ih =>
    intro listed a w hx0 hdep hfree hr hy H
    refine ⟨fun h => (by rw [h] at hr; cases hr), fun j hj => ?_⟩
    by_cases hji : j = i
    · subst hji; exact hy.wpOp hi hx0 ⟨hx0, H⟩
    · have h1 := H.2 j (ready_mono hj hji)
      obtain ⟨hjun, oj, hoj, hall⟩ := mem_ready.1 hj
      have hDj : D j = false := by
        cases hd : D j with
        | false => rfl
        | true =>
          exfalso
          obtain ⟨e, he, hb, hor⟩ := hdep j oj hoj hji hjun hd
          have h1 := hall e he hb
          rcases hor with heq | ⟨_, hun⟩
          · have h0 := (mem_ready.1 hr).1
            rw [heq] at h1
            rcases Nat.lt_or_ge i listed.size with h' | h'
            · simp [h'] at h0 h1; rw [h0] at h1; cases h1
            · simp [Array.getElem?_eq_none h'] at h1
          · rcases Nat.lt_or_ge e.on listed.size with h' | h'
            · simp [h'] at hun h1; rw [hun] at h1; cases h1
            · simp [Array.getElem?_eq_none h'] at h1
      have hap := hfree j oj hoj hji hjun hDj
      have h2 := wpOp_putIf hoj hap (fun cs b => hsel i oi cs b hi) (fun cs b => hsel j oj cs b hoj) hQ hy h1
      have back : ∀ k, (listed.setIfInBounds j true).getD k true = false → listed.getD k true = false := fun k hun => by
        by_cases hjk : j = k
        · subst hjk; exact hjun
        · rwa [getD_set_ne true hjk] at hun
      have hdep' : ∀ k ok, ops[k]? = some ok → k ≠ i → (listed.setIfInBounds j true).getD k true = false → D k = true → ∃ e ∈ ok.after, Region.binds .any e = true ∧ (e.on = i ∨ D e.on = true ∧ (listed.setIfInBounds j true).getD e.on true = false) := fun k ok hk hki hun hd => by
        obtain ⟨e, he, hb, hor⟩ := hdep k ok hk hki (back k hun) hd
        refine ⟨e, he, hb, hor.imp id fun ⟨h3, h4⟩ => ⟨h3, ?_⟩⟩
        have hne : j ≠ e.on := by rintro rfl; rw [hDj] at h3; cases h3
        rw [getD_set_ne true hne]; exact h4
      have hfree' : ∀ k ok, ops[k]? = some ok → k ≠ i → (listed.setIfInBounds j true).getD k true = false → D k = false → oi.apart ops ok = true := fun k ok hk hki hun hd =>
        hfree k ok hk hki (back k hun) hd
      refine wpOp_mono (fun a' w' h3 => ?_) h2
      obtain ⟨hy', hx, hrest⟩ := h3
      refine ⟨hx, ih (listed.setIfInBounds j true) a' w' hx hdep' hfree' (ready_mono hr (Ne.symm hji)) hy' ?_⟩
      rw [Array.setIfInBounds_comm _ _ hji]
      exact hrest
def WN (P : Program) (ops : Array Oper) (Q : Exit → Act → World → Prop) (w0 : World) (n : Nat) (listed : Array Bool) (N : Nd) (L : List (Nat × Value)) (w : World) : Prop := ∀ a, Fr N L a → Ext w0 w → Ao P ops Q w0 n listed a w
theorem dc {id : Nat} {l : List Oper} (hm : P.follows .mixedOrders = true) (n : Nat) (hn : l.length = n) (h : ∀ w', Ext w w' → w'.heap = w.heap → WN P l.toArray (fW Q) w' n (Array.replicate n false) N L w') : WC P Q (.region id l.toArray true) N L w := by
 intro a ha
 subst hn
 have h1 : (Code.region id l.toArray true).wp P (fW Q) a w := by
  refine wp_region_any hm (xG (w0 := w.drew) _ _ _ _ ?_)
  rw [List.size_toArray]
  exact h _ (Ext.drew w) rfl a ha (Ext.refl _)
 refine wp_mono h1 fun e a w hq => ?_
 cases e <;> first | exact hq | exact hq.elim
theorem dA {n : Nat} {listed : Array Bool} (hr : Region.ready .any ops listed = []) (h : WQ Q .normal N L w) : WN P ops Q w0 n listed N L w := by
 intro a ha _
 cases n with
 | zero => exact ⟨hr, h a ha⟩
 | succ n => exact ⟨fun _ => h a ha, by rw [hr]; simp⟩
theorem Gf {n : Nat} {listed : Array Bool} {i : Nat} {oi : Oper} {v : Value} (hi : ops[i]? = some oi) (hf : ko .any ops listed i = true)
  (hy : ∀ a, Fr N L a → YieldsIf P ops (fun w' => Ext w0 w') oi v a) (hd : gH N oi.dst = true) (h : WN P ops (fW Q) w0 n (listed.setIfInBounds i true) N (bL oi.dst v L) w) : WN P ops (fW Q) w0 (n + 1) listed N L w := by
 intro a ha hx
 unfold ko at hf
 generalize ey .any ops listed i = D at hf
 simp only [nV, hi, Bool.and_eq_true, List.all_eq_true, List.mem_range, Bool.or_eq_true, beq_iff_eq] at hf
 obtain ⟨⟨h1, h2⟩, h4⟩ := hf
 have key : ∀ j oj, ops[j]? = some oj → j ≠ i → listed.getD j true = false → cond (D.getD j false) (oj.after.any fun e => Region.binds .any e && (e.on == i || (D.getD e.on false && !listed.getD e.on true))) (oi.apart ops oj) = true := fun j oj hj hne hun => by
  have := h2 j (Array.getElem?_eq_some_iff.1 hj).1
  rcases this with h | h | h
  ·exact absurd h hne
  ·rw [hun] at h; cases h
  ·simpa [hj] using h
 refine qB (fun j => D.getD j false) hi (Region.noSelect_spec h1) (fun c a w h => h) n listed a w hx (fun j oj hj hne hun hd => ?_) (fun j oj hj hne hun hd => ?_) (by simpa using h4) (hy a ha) (h _ (ha.jE hd v) hx)
 ·have k := key j oj hj hne hun
  rw [hd, cond_true] at k
  obtain ⟨e, he, hb⟩ := Array.any_eq_true'.1 k
  simp only [Bool.and_eq_true, Bool.or_eq_true, beq_iff_eq, Bool.not_eq_true'] at hb
  exact ⟨e, he, hb.1, hb.2⟩
 ·have k := key j oj hj hne hun
  rwa [hd, cond_false] at k
section
variable {n : Nat} {listed : Array Bool} (i : Nat) {op : Op} {ty : TypeId} {v : Value} {dst : Option Tmp} {pos : String} {after : Array Edge} {j : Nat} {b b' : Bool}
theorem cR (hi : ops[i]? = some ⟨dst, op, ty, pos, after, none⟩) (hf : ko .any ops listed i = true) (h : Y P L w0 op ty v) (hd : gH N dst = true)
  (hr : WN P ops (fW Q) w0 n (listed.setIfInBounds i true) N (bL dst v L) w) : WN P ops (fW Q) w0 (n + 1) listed N L w :=
 Gf hi hf (fun a ha => .inl ⟨rfl, fun w' e => h a.eval (fun _ _ hx => ha.ev hx) w' e _ _ _ _⟩) hd hr
end
def cT (P : Program) (ops : Array Oper) (Q : Exit → Act → World → Prop) (w0 : World) (n : Nat) (listed : Array Bool) (i : Nat) (N : Nd) (L : List (Nat × Value)) (w : World) : Prop :=
 ∀ a, Fr N L a → Ext w0 w → wpOp P ops Q i (fun a' w' => Ext w0 w' ∧ Ao P ops Q w0 n (listed.setIfInBounds i true) a' w') a w
theorem JK {n : Nat} {listed : Array Bool} (rs : List Nat) (hr : Region.ready .any ops listed = rs) (hne : rs.isEmpty = false) (h : ∀ i ∈ rs, cT P ops Q w0 n listed i N L w) : WN P ops Q w0 (n + 1) listed N L w := by
 intro a ha hx
 refine ⟨fun h0 => ?_, fun i hi => h i (hr ▸ hi) a ha hx⟩
 rw [hr] at h0
 rw [h0] at hne
 cases hne
theorem cL {n : Nat} {listed : Array Bool} (i : Nat) (hr : Region.ready .any ops listed = [i]) (h : cT P ops Q w0 n listed i N L w) : WN P ops Q w0 (n + 1) listed N L w :=
 JK [i] hr rfl (fun k hk => by simp only [List.mem_singleton] at hk; subst hk; exact h)
theorem dx {n : Nat} {listed : Array Bool} {i : Nat} {op : Op} {ty : TypeId} {Φ : Value → World → Prop} {dst : Option Tmp} {pos : String} {after : Array Edge} (hi : ops[i]? = some ⟨dst, op, ty, pos, after, none⟩) (h : Ef P L w op ty Φ) (hd : gH N dst = true)
  (hr : ∀ v w', Φ v w' → Ext w0 w' ∧ WN P ops Q w0 n (listed.setIfInBounds i true) N (bL dst v L) w') : cT P ops Q w0 n listed i N L w := by
 intro a ha hx
 unfold wpOp
 simp only [hi]
 rw [if_pos (by simp [Region.wanted])]
 exact .inl (h a N ha _ _ _ _ _ _ fun v w' hv => ⟨(hr v w' hv).1, (hr v w' hv).2 _ (ha.jE hd v) (hr v w' hv).1⟩)
section
variable {f : FuncId} {xs : List Operand} {ats : Array TypeId} {vs : List Value} {R : Ending → World → Prop} {fn : Func} {c : Code} {ty : TypeId} {dst : Option Tmp} {pos : String} {after : Array Edge}
theorem yi {n : Nat} {listed : Array Bool} {i : Nat} (hi : ops[i]? = some ⟨dst, .call { callee := .value (.func f), args := xs.toArray, argTypes := ats }, ty, pos, after, none⟩) (hf : P.funcs[f]? = some fn) (hb : fn.body = some c) (hn : (fn.name == "runtime.NumGoroutine") = false) (hx : lI L xs = some vs) (h : Calls P f vs.toArray w R) (hd : gH N dst = true)
  (hr : ∀ e w', R e w' → ∃ v, e = .returned v ∧ Ext w0 w' ∧ WN P ops Q w0 n (listed.setIfInBounds i true) N (bL dst v L) w') : cT P ops Q w0 n listed i N L w :=
 dx hi (gG hf hb hn hx h hr) hd fun _ _ hv => hv
end
/-! What floats: operations that make memory of nothing, ready from the beginning, taken in where they are wanted. -/
def nK : Value → Option Nat
 | .pointer (some A) => some A.block
 | .slice (some A) _ _ => some A.block
 | _ => none
structure Fl where
 i : Nat
 d : Tmp
 R : Value → World → Prop
def Fl.Kd (P : Program) (ops : Array Oper) (w0 : World) (L : List (Nat × Value)) (f : Fl) : Prop :=
 (∀ v w1 w2, f.R v w1 → Ext w1 w2 → f.R v w2) ∧
 ∃ op ty pos after, ops[f.i]? = some ⟨some f.d, op, ty, pos, after, none⟩ ∧ ∀ w1, Ext w0 w1 → Ef P L w1 op ty fun v w2 => Ext w1 w2 ∧ f.R v w2 ∧ ∀ b, nK v = some b → w1.heap.size ≤ b ∧ b < w2.heap.size
abbrev jl := List (Fl × Option Value)
def aT (listed : Array Bool) : jl → Array Bool
 | [] => listed
 | (f, o) :: st => if o.isSome then (aT listed st).setIfInBounds f.i true else aT listed st
def dC (listed : Array Bool) : List Fl → Array Bool
 | [] => listed
 | f :: fl => (dC listed fl).setIfInBounds f.i true
def cu : jl → Nat
 | [] => 0
 | (_, o) :: st => (if o.isSome then 0 else 1) + cu st
def va (w0 : World) (a : Act) (w : World) (st : jl) : Prop := ∀ p ∈ st, ∀ v, p.2 = some v → a.tmps[p.1.d]? = some v ∧ p.1.R v w ∧ ∀ b, nK v = some b → w0.heap.size ≤ b ∧ b < w.heap.size
def fu : jl → Prop
 | [] => True
 | p :: st => (∀ q ∈ st, ∀ v u b, p.2 = some v → q.2 = some u → nK v = some b → nK u = some b → False) ∧ fu st
def WF (P : Program) (ops : Array Oper) (Q : Exit → Act → World → Prop) (w0 : World) (fl : List Fl) (n : Nat) (listed : Array Bool) (N : Nd) (L : List (Nat × Value)) (w : World) : Prop :=
 ∀ (st : jl) (a : Act) (w1 : World), st.map (·.1) = fl → Fr N L a → Ext w w1 → Ext w0 w1 → va w0 a w1 st → fu st → Ao P ops Q w0 (n + cu st) (aT listed st) a w1
theorem jf (listed : Array Bool) (j : Nat) : ∀ (st : jl), (∀ p ∈ st, p.1.i ≠ j) → aT (listed.setIfInBounds j true) st = (aT listed st).setIfInBounds j true
  | [], _ => rfl
  | (f, o) :: st, h => by
    have ih := jf listed j st (fun p hp => h p (List.mem_cons_of_mem _ hp))
    have hne := h (f, o) List.mem_cons_self
    simp only [aT]
    split
    · rw [ih, Array.setIfInBounds_comm _ _ (Ne.symm hne)]
    · exact ih
theorem jm (listed : Array Bool) : ∀ (st : jl), cu st = 0 → aT listed st = dC listed (st.map (·.1))
  | [], _ => rfl
  | (f, o) :: st, h => by
    simp only [cu] at h
    have ho : o.isSome = true := by
      cases e : o.isSome with
      | true => rfl
      | false => simp [e] at h
    simp only [aT, ho, if_true, List.map_cons, dC]
    rw [jm listed st Om]
theorem mJ {listed : Array Bool} {i j : Nat} (h : i ∈ Region.ready .any ops listed) (hne : i ≠ j) : i ∈ Region.ready .any ops (listed.setIfInBounds j true) := ready_mono h hne
theorem iN {listed : Array Bool} {i : Nat} : ∀ (st : jl), i ∈ Region.ready .any ops listed → (∀ p ∈ st, p.2.isSome = true → p.1.i ≠ i) → i ∈ Region.ready .any ops (aT listed st)
  | [], h, _ => h
  | (f, o) :: st, h, hne => by
    have ih := iN st h (fun p hp => hne p (List.mem_cons_of_mem _ hp))
    simp only [aT]
    split
    · rename_i ho
      exact mJ ih (Ne.symm (hne (f, o) List.mem_cons_self ho))
    · exact ih
theorem qE {listed : Array Bool} {i : Nat} : ∀ (st : jl), i ∈ Region.ready .any ops (aT listed st) → (∀ p ∈ st, p.1.i ≠ i) → i ∈ Region.ready .any ops (dC listed (st.map (·.1)))
  | [], h, _ => h
  | (f, o) :: st, h, hne => by
    have hne' := fun p hp => hne p (List.mem_cons_of_mem _ hp)
    have h0 := hne (f, o) List.mem_cons_self
    simp only [List.map_cons, dC]
    simp only [aT] at h
    split at h
    · -- it is on both sides: one less
      have key : ∀ (st : jl) (l : Array Bool), (∀ p ∈ st, p.1.i ≠ i) → i ∈ Region.ready .any ops (aT l st) → i ∈ Region.ready .any ops (dC l (st.map (·.1))) := by
        intro st
        induction st with
        | nil => intro l _ h; exact h
        | cons p st ih =>
          obtain ⟨g, u⟩ := p
          intro l hl h
          have hl' := fun p hp => hl p (List.mem_cons_of_mem _ hp)
          have hg := hl (g, u) List.mem_cons_self
          simp only [List.map_cons, dC]
          simp only [aT] at h
          have comm : ∀ (l : Array Bool) (k : Nat) (fl : List Fl), (dC l fl).setIfInBounds k true = dC (l.setIfInBounds k true) fl := by
            intro l k fl
            induction fl with
            | nil => rfl
            | cons f fl ihf =>
              simp only [dC]
              rw [← ihf]
              by_cases e : f.i = k
              · subst e; rfl
              · exact Array.setIfInBounds_comm _ _ e
          have comm2 : ∀ (l : Array Bool) (k : Nat) (st : jl), (aT l st).setIfInBounds k true = aT (l.setIfInBounds k true) st := by
            intro l k st
            induction st with
            | nil => rfl
            | cons f st ihf =>
              obtain ⟨f, o⟩ := f
              simp only [aT]
              split
              · rw [← ihf]
                by_cases e : f.i = k
                · subst e; rfl
                · exact Array.setIfInBounds_comm _ _ e
              · exact ihf
          rw [comm]
          split at h
          · rw [comm2] at h
            exact ih _ hl' h
          · refine ih _ hl' ?_
            rw [← comm2]
            exact mJ h (Ne.symm hg)
      have := key ((f, o) :: st) listed hne (by simp only [aT]; rw [if_pos (by assumption)]; exact h)
      simpa only [List.map_cons, dC] using this
    · exact mJ (qE st h hne') (Ne.symm h0)
def gS (v : Value) : jl → Nat → jl
 | [], _ => []
 | (f, o) :: st, 0 => (f, some v) :: st
 | p :: st, k + 1 => p :: gS v st k
theorem rn (v : Value) : ∀ (st : jl) (k : Nat), (gS v st k).map (·.1) = st.map (·.1)
 | [], _ => rfl
 | (_, _) :: _, 0 => rfl
 | p :: st, k + 1 => by simp only [gS, List.map_cons, rn v st k]
theorem mx (v : Value) : ∀ (st : jl) (k : Nat) (f : Fl), st[k]? = some (f, none) → cu (gS v st k) + 1 = cu st
  | [], _, _, h => by simp at h
  | (g, o) :: st, 0, f, h => by
    simp only [List.getElem?_cons_zero, Option.some.injEq, Prod.mk.injEq] at h
    obtain ⟨rfl, rfl⟩ := h
    simp [gS, cu]; omega
  | p :: st, k + 1, f, h => by
    simp only [List.getElem?_cons_succ] at h
    have := mx v st k f h
    obtain ⟨g, o⟩ := p
    simp only [gS, cu]; omega
theorem mw (v : Value) (listed : Array Bool) : ∀ (st : jl) (k : Nat) (f : Fl), st[k]? = some (f, none) → (st.map (·.1.i)).Nodup → aT listed (gS v st k) = (aT listed st).setIfInBounds f.i true
  | [], _, _, h, _ => by simp at h
  | (g, o) :: st, 0, f, h, _ => by
    simp only [List.getElem?_cons_zero, Option.some.injEq, Prod.mk.injEq] at h
    obtain ⟨rfl, rfl⟩ := h
    simp [gS, aT]
  | (g, o) :: st, k + 1, f, h, hn => by
    simp only [List.getElem?_cons_succ] at h
    simp only [List.map_cons, List.nodup_cons] at hn
    have ih := mw v listed st k f h hn.2
    simp only [gS, aT]
    have hmem : f.i ∈ st.map (·.1.i) := List.mem_map.2 ⟨(f, none), List.mem_of_getElem? h, rfl⟩
    have hne : g.i ≠ f.i := fun e => hn.1 (e ▸ hmem)
    split
    · rw [ih, Array.setIfInBounds_comm _ _ (Ne.symm hne)]
    · exact ih
theorem mD (v : Value) : ∀ (st : jl) (k : Nat) (f : Fl), st[k]? = some (f, none) → ∀ p ∈ gS v st k, p = (f, some v) ∨ p ∈ st
  | [], _, _, h, _, _ => by simp at h
  | (g, o) :: st, 0, f, h, p, hp => by
    simp only [List.getElem?_cons_zero, Option.some.injEq, Prod.mk.injEq] at h
    obtain ⟨rfl, rfl⟩ := h
    simp only [gS, List.mem_cons] at hp
    exact hp.imp id (fun h => List.mem_cons_of_mem _ h)
  | (g, o) :: st, k + 1, f, h, p, hp => by
    simp only [List.getElem?_cons_succ] at h
    simp only [gS, List.mem_cons] at hp
    rcases hp with rfl | hp
    · exact .inr List.mem_cons_self
    · exact (mD v st k f h p hp).imp id (fun h => List.mem_cons_of_mem _ h)
theorem nu (v : Value) : ∀ (st : jl) (k : Nat) (f : Fl), st[k]? = some (f, none) → fu st → (∀ q ∈ st, ∀ u b, q.2 = some u → nK u = some b → nK v = some b → False) → fu (gS v st k)
  | [], _, _, h, _, _ => by simp at h
  | (g, o) :: st, 0, f, h, ha, hv => by
    refine ⟨fun q hq v' u b h1 h2 h3 h4 => ?_, ha.2⟩
    simp only [Option.some.injEq] at h1
    subst h1
    exact hv q (List.mem_cons_of_mem _ hq) u b h2 h4 h3
  | (g, o) :: st, k + 1, f, h, ha, hv => by
    simp only [List.getElem?_cons_succ] at h
    refine ⟨fun q hq v' u b h1 h2 h3 h4 => ?_, nu v st k f h ha.2 (fun q hq => hv q (List.mem_cons_of_mem _ hq))⟩
    rcases mD v st k f h q hq with rfl | hq
    · simp only [Option.some.injEq] at h2
      subst h2
      exact hv (g, o) List.mem_cons_self v' b h1 h3 h4
    · exact ha.1 q hq v' u b h1 h2 h3 h4
theorem Fr.xM {a : Act} (h : Fr N L a) {d : Nat} (hd : look L d = none) (v : Value) : Fr N L (a.put (some d) v) := by
 refine ⟨by simp [Act.put, h.size], h.defers, fun t u hu => ?_⟩
 have hne : d ≠ t := fun e => by subst e; rw [hd] at hu; cases hu
 simp only [Act.put]
 rw [Array.getElem?_setIfInBounds_ne hne]
 exact h.has t u hu
theorem IX {a : Act} {d : Nat} (hd : d < a.tmps.size) (v : Value) : (a.put (some d) v).tmps[d]? = some v := by
 simp [Act.put, hd]
theorem DF {a : Act} {d t : Nat} (hne : d ≠ t) (v : Value) : (a.put (some d) v).tmps[t]? = a.tmps[t]? := by
 simp only [Act.put]; rw [Array.getElem?_setIfInBounds_ne hne]
theorem se {a : Act} {dst : Option Tmp} {t : Nat} (hne : dst ≠ some t) (v : Value) : (a.put dst v).tmps[t]? = a.tmps[t]? := by
 cases dst with
 | none => rfl
 | some d => exact DF (fun e => hne (by rw [e])) v
structure mF (P : Program) (ops : Array Oper) (w0 : World) (fl : List Fl) (listed : Array Bool) (N : Nd) (L : List (Nat × Value)) : Prop where
 runs : ∀ f ∈ fl, Fl.Kd P ops w0 L f
 is : (fl.map (·.i)).Nodup
 ds : (fl.map (·.d)).Nodup
 slot : ∀ f ∈ fl, look L f.d = none ∧ f.d < N.n
 rdy : ∀ f ∈ fl, f.i ∈ Region.ready .any ops listed
theorem gO {fl : List Fl} {st : jl} (hst : st.map (·.1) = fl) {p : Fl × Option Value} (hp : p ∈ st) : p.1 ∈ fl := hst ▸ List.mem_map.2 ⟨p, hp, rfl⟩
theorem BW {fl : List Fl} {st : jl} (hst : st.map (·.1) = fl) (hn : (fl.map (·.i)).Nodup) : (st.map (·.1.i)).Nodup := by
 subst hst; simpa [List.map_map, Function.comp_def] using hn
theorem lL {α β : Type} {f : α → β} : ∀ {l : List α}, (l.map f).Nodup → ∀ p ∈ l, ∀ q ∈ l, f p = f q → p = q
  | x :: l, h, p, hp, q, hq, e => by
    simp only [List.map_cons, List.nodup_cons] at h
    rcases List.mem_cons.1 hp with rfl | hp' <;> rcases List.mem_cons.1 hq with rfl | hq'
    · rfl
    · exact absurd (e ▸ List.mem_map.2 ⟨q, hq', rfl⟩) h.1
    · exact absurd (e ▸ List.mem_map.2 ⟨p, hp', rfl⟩) h.1
    · exact lL h.2 p hp' q hq' e
theorem jF : ∀ (st : jl), cu st ≠ 0 → ∃ p ∈ st, p.2 = none
  | [], h => absurd rfl h
  | (f, o) :: st, h => by
    cases o with
    | none => exact ⟨_, List.mem_cons_self, rfl⟩
    | some v =>
      simp only [cu, Option.isSome_some, if_true, Nat.zero_add] at h
      obtain ⟨p, hp, e⟩ := jF st h
      exact ⟨p, List.mem_cons_of_mem _ hp, e⟩
theorem tH {fl : List Fl} {listed : Array Bool} {st : jl} (ok : mF P ops w0 fl listed N L) (hst : st.map (·.1) = fl) {p : Fl × Option Value} (hp : p ∈ st) (hn : p.2 = none) : p.1.i ∈ Region.ready .any ops (aT listed st) :=
 iN st (ok.rdy _ (gO hst hp)) fun q hq hs e => by
  have := lL (BW hst ok.is) q hq p hp e
  rw [this, hn] at hs; cases hs
theorem uu {listed : Array Bool} {i : Nat} : ∀ (st : jl), (∃ p ∈ st, p.2.isSome = true ∧ p.1.i = i) → i ∉ Region.ready .any ops (aT listed st) := by
  intro st ⟨p, hp, hs, hi⟩ hr
  have h1 := (mem_ready.1 hr).1
  have key : ∀ (st : jl), (∃ p ∈ st, p.2.isSome = true ∧ p.1.i = i) → (aT listed st).getD i true = true := by
    intro st
    induction st with
    | nil => rintro ⟨p, hp, _⟩; cases hp
    | cons q st ih =>
      obtain ⟨f, o⟩ := q
      rintro ⟨p, hp, hs, hi⟩
      simp only [aT]
      by_cases e : f.i = i
      · split
        · rw [e]
          rcases Nat.lt_or_ge i (aT listed st).size with h' | h'
          · simp [h']
          · simp [Array.getElem?_eq_none h', h']
        · rename_i ho
          rcases List.mem_cons.1 hp with rfl | hp'
          · exact absurd hs ho
          · exact ih ⟨p, hp', hs, hi⟩
      · have hp' : p ∈ st := by
          rcases List.mem_cons.1 hp with rfl | hp'
          · exact absurd hi e
          · exact hp'
        have := ih ⟨p, hp', hs, hi⟩
        split
        · rw [getD_set_ne true e]; exact this
        · exact this
  rw [key st ⟨p, hp, hs, hi⟩] at h1
  cases h1
theorem DP {fl : List Fl} {n : Nat} {listed : Array Bool} {st : jl} {a : Act} {w1 : World} (ok : mF P ops w0 fl listed N L) (hst : st.map (·.1) = fl) (ha : Fr N L a) (hx : Ext w w1) (hx0 : Ext w0 w1) (hh : va w0 a w1 st) (hap : fu st)
  (ih : ∀ (st' : jl) (a' : Act) (w' : World), cu st' + 1 = cu st → st'.map (·.1) = fl → Fr N L a' → Ext w w' → Ext w0 w' → va w0 a' w' st' → fu st' → Ao P ops Q w0 (n + cu st') (aT listed st') a' w')
  {p : Fl × Option Value} (hp : p ∈ st) (hn : p.2 = none) : wpOp P ops Q p.1.i (fun a' w' => Ext w0 w' ∧ Ao P ops Q w0 (n + (cu st - 1)) ((aT listed st).setIfInBounds p.1.i true) a' w') a w1 := by
 obtain ⟨hs, op, ty, pos, after, hi, hrun⟩ := ok.runs _ (gO hst hp)
 obtain ⟨k, hk⟩ := List.getElem?_of_mem hp
 obtain ⟨f, o⟩ := p
 simp only at hn
 subst hn
 unfold wpOp
 simp only [hi]
 rw [if_pos (by simp [Region.wanted])]
 refine .inl (hrun w1 hx0 a N ha _ _ _ _ _ _ ?_)
 rintro v w' ⟨he, hR, hb⟩
 have hu := mx v st k f hk
 have hsz := hx0.size
 have hsz' := he.size
 refine ⟨hx0.tr he, ?_⟩
 rw [← mw v listed st k f hk (BW hst ok.is), show n + (cu st - 1) = n + cu (gS v st k) by omega]
 have hfd := ok.slot f (gO hst hp)
 refine ih _ _ _ hu (by rw [rn, hst]) (ha.xM hfd.1 v) (hx.tr he) (hx0.tr he) ?_ (nu v st k f hk hap fun q hq u b h1 h2 h3 => ?_)
 ·intro q hq u hu
  rcases mD v st k f hk q hq with rfl | hq'
  ·simp only [Option.some.injEq] at hu
   subst hu
   exact ⟨IX (by rw [ha.size]; exact hfd.2) v, hR, fun b hb' => by have := hb b hb'; omega⟩
  ·obtain ⟨h1, h2, h3⟩ := hh q hq' u hu
   refine ⟨?_, (ok.runs _ (gO hst hq')).1 _ _ _ h2 he, fun b hb' => by have := h3 b hb'; omega⟩
   rw [DF (fun e => ?_) v]
   ·exact h1
   ·have Kv := ok.ds
    have := lL Kv f (gO hst hp) q.1 (gO hst hq') e
    have h5 := lL (BW hst ok.is) (f, none) hp q hq' (by rw [this])
    rw [← h5] at hu; cases hu
 ·have := (hh q hq u h1).2.2 b h2
  have := hb b h3
  omega
theorem vk {fl : List Fl} {listed : Array Bool} {st : jl} (hst : st.map (·.1) = fl) {i : Nat} (hi : i ∈ Region.ready .any ops (aT listed st)) : (∃ p ∈ st, p.2 = none ∧ p.1.i = i) ∨ ((∀ p ∈ st, p.1.i ≠ i) ∧ i ∈ Region.ready .any ops (dC listed fl)) := by
 by_cases h : ∃ p ∈ st, p.1.i = i
 ·left
  obtain ⟨p, hp, e⟩ := h
  refine ⟨p, hp, ?_, e⟩
  cases ho : p.2 with
  | none => rfl
  | some v => exact absurd hi (uu st ⟨p, hp, by rw [ho]; rfl, e⟩)
 ·right
  have h' : ∀ p ∈ st, p.1.i ≠ i := fun p hp e => h ⟨p, hp, e⟩
  exact ⟨h', hst ▸ qE st hi h'⟩
def Ec (P : Program) (ops : Array Oper) (Q : Exit → Act → World → Prop) (w0 : World) (fl : List Fl) (n : Nat) (listed : Array Bool) (N : Nd) (L : List (Nat × Value)) (w : World) (j : Nat) : Prop :=
 (∀ f ∈ fl, f.i ≠ j) ∧ ∃ op ty dst pos after, ops[j]? = some ⟨dst, op, ty, pos, after, none⟩ ∧ (∀ f ∈ fl, dst ≠ some f.d) ∧ gH N dst = true ∧
  ∀ w1, Ext w w1 → Ext w0 w1 → Ef P L w1 op ty fun v w' => Ext w1 w' ∧ WF P ops Q w0 fl n (listed.setIfInBounds j true) N (bL dst v L) w'
theorem uH {fl : List Fl} {n : Nat} {listed : Array Bool} {js : List Nat} (ok : mF P ops w0 fl listed N L) (hr : Region.ready .any ops (dC listed fl) = js) (hne : js ≠ []) (h : ∀ j ∈ js, Ec P ops Q w0 fl n listed N L w j) : WF P ops Q w0 fl (n + 1) listed N L w := by
  have main : ∀ (k : Nat) (st : jl) (a : Act) (w1 : World), cu st = k → st.map (·.1) = fl → Fr N L a → Ext w w1 → Ext w0 w1 → va w0 a w1 st → fu st → Ao P ops Q w0 (n + 1 + cu st) (aT listed st) a w1 := by
    intro k
    induction k with
    | zero =>
      intro st a w1 hk hst ha hx hx0 hh hap
      rw [hk]
      have hl := jm listed st hk
      rw [hst] at hl
      refine ⟨fun h0 => (hne (by rw [← hr, ← hl]; exact h0)).elim, fun j hii => ?_⟩
      rw [hl, hr] at hii
      obtain ⟨hj, op, ty, dst, pos, after, hi, hdst, hd, h⟩ := h j hii
      unfold wpOp
      simp only [hi]
      rw [if_pos (by simp [Region.wanted])]
      refine .inl (h w1 hx hx0 a N ha _ _ _ _ _ _ ?_)
      rintro v w' ⟨he, hw⟩
      refine ⟨hx0.tr he, ?_⟩
      have := hw st (a.put dst v) w' hst (ha.jE hd v) (Ext.refl _) (hx0.tr he) (fun p hp u hu => ?_) hap
      · rw [hk, jf _ _ _ (fun p hp => hj _ (gO hst hp))] at this
        exact this
      · obtain ⟨h1, h2, h3⟩ := hh p hp u hu
        have hz := he.size
        exact ⟨by rw [se (hdst _ (gO hst hp))]; exact h1, (ok.runs _ (gO hst hp)).1 _ _ _ h2 he, fun b hb => by have := h3 b hb; omega⟩
    | succ k ih =>
      intro st a w1 hk hst ha hx hx0 hh hap
      rw [hk]
      refine ⟨fun h0 => ?_, fun i hii => ?_⟩
      · obtain ⟨p, hp, hn⟩ := jF st Om
        have := tH ok hst hp hn
        rw [h0] at this; cases this
      · rcases vk hst hii with ⟨p, hp, hn, rfl⟩ | ⟨_, hia⟩
        · have := DP (n := n + 1) ok hst ha hx hx0 hh hap (fun st' a' w' hu => ih st' a' w' Om) hp hn
          rw [show n + 1 + (cu st - 1) = n + 1 + k by omega] at this
          exact this
        · rw [hr] at hia
          obtain ⟨hj, op, ty, dst, pos, after, hi, hdst, hd, h⟩ := h _ hia
          unfold wpOp
          simp only [hi]
          rw [if_pos (by simp [Region.wanted])]
          refine .inl (h w1 hx hx0 a N ha _ _ _ _ _ _ ?_)
          rintro v w' ⟨he, hw⟩
          refine ⟨hx0.tr he, ?_⟩
          have := hw st (a.put dst v) w' hst (ha.jE hd v) (Ext.refl _) (hx0.tr he) (fun p hp u hu => ?_) hap
          · rw [hk, jf _ _ _ (fun p hp => hj _ (gO hst hp))] at this
            show Ao P ops Q w0 (n + 1 + k) _ _ _
            rw [show n + 1 + k = n + (k + 1) by omega]
            exact this
          · obtain ⟨h1, h2, h3⟩ := hh p hp u hu
            have hz := he.size
            exact ⟨by rw [se (hdst _ (gO hst hp))]; exact h1, (ok.runs _ (gO hst hp)).1 _ _ _ h2 he, fun b hb => by have := h3 b hb; omega⟩
  exact fun st a w1 hst ha hx hx0 hh hap => main _ st a w1 rfl hst ha hx hx0 hh hap
theorem xS {fl : List Fl} {n : Nat} {listed : Array Bool} {j : Nat} {op : Op} {ty : TypeId} {dst : Option Tmp} {pos : String} {after : Array Edge} (ok : mF P ops w0 fl listed N L) (hr : Region.ready .any ops (dC listed fl) = [j]) (hj : ∀ f ∈ fl, f.i ≠ j)
  (hi : ops[j]? = some ⟨dst, op, ty, pos, after, none⟩) (hdst : ∀ f ∈ fl, dst ≠ some f.d) (hd : gH N dst = true)
  (h : ∀ w1, Ext w w1 → Ext w0 w1 → Ef P L w1 op ty fun v w' => Ext w1 w' ∧ WF P ops Q w0 fl n (listed.setIfInBounds j true) N (bL dst v L) w') : WF P ops Q w0 fl (n + 1) listed N L w :=
 uH ok hr (by simp) fun k hk => by rw [List.mem_singleton] at hk; subst hk; exact ⟨hj, _, _, _, _, _, hi, hdst, hd, h⟩
theorem IY {fl : List Fl} {n : Nat} {listed : Array Bool} {i j : Nat} (ok : mF P ops w0 fl listed N L) (hr : Region.ready .any ops (dC listed fl) = [i, j]) (hi : Ec P ops Q w0 fl n listed N L w i) (hj : Ec P ops Q w0 fl n listed N L w j) : WF P ops Q w0 fl (n + 1) listed N L w :=
 uH ok hr (by simp) fun k hk => by
  simp only [List.mem_cons, List.not_mem_nil, or_false] at hk
  rcases hk with rfl | rfl
  ·exact hi
  ·exact hj
def lR : jl → List (Nat × Value)
 | [] => []
 | (f, some v) :: st => (f.d, v) :: lR st
 | (_, none) :: st => lR st
theorem pG {a : Act} (ha : Fr N L a) : ∀ (st : jl), (∀ p ∈ st, ∀ v, p.2 = some v → a.tmps[p.1.d]? = some v) → Fr N (lR st ++ L) a
  | [], _ => ha
  | (f, none) :: st, h => pG ha st fun p hp => h p (List.mem_cons_of_mem _ hp)
  | (f, some v) :: st, h => by
    have ih := pG ha st fun p hp => h p (List.mem_cons_of_mem _ hp)
    refine ⟨ih.size, ih.defers, fun t u hu => ?_⟩
    simp only [lR, List.cons_append] at hu
    unfold look at hu
    cases e : Nat.beq f.d t with
    | true =>
      simp only [e, cond_true, Option.some.injEq] at hu
      subst hu
      rw [← Nat.eq_of_beq_eq_true e]
      exact h _ List.mem_cons_self v rfl
    | false =>
      simp only [e, cond_false] at hu
      exact ih.has t u hu
theorem rI {fl : List Fl} {n : Nat} {listed : Array Bool} (ok : mF P ops w0 fl listed N L) (hr : ∀ f ∈ fl, ∀ j ∈ Region.ready .any ops (dC listed fl), ∃ o, ops[j]? = some o ∧ ∃ e ∈ o.after, Region.binds .any e = true ∧ e.on = f.i)
    (h : ∀ (st : jl) (w1 : World), st.map (·.1) = fl → cu st = 0 → Ext w w1 → (∀ p ∈ st, ∀ v, p.2 = some v → p.1.R v w1 ∧ ∀ b, nK v = some b → w0.heap.size ≤ b) → fu st → WN P ops Q w0 n (dC listed fl) N (lR st ++ L) w1) : WF P ops Q w0 fl n listed N L w := by
  have main : ∀ (k : Nat) (st : jl) (a : Act) (w1 : World), cu st = k → st.map (·.1) = fl → Fr N L a → Ext w w1 → Ext w0 w1 → va w0 a w1 st → fu st → Ao P ops Q w0 (n + cu st) (aT listed st) a w1 := by
    intro k
    induction k with
    | zero =>
      intro st a w1 hk hst ha hx hx0 hh hap
      have hl := jm listed st hk
      rw [hst] at hl
      rw [hk, hl]
      exact h st w1 hst hk hx (fun p hp v hv => ⟨(hh p hp v hv).2.1, fun b hb => ((hh p hp v hv).2.2 b hb).1⟩) hap a (pG ha st fun p hp v hv => (hh p hp v hv).1) hx0
    | succ k ih =>
      intro st a w1 hk hst ha hx hx0 hh hap
      rw [hk]
      obtain ⟨p, hp, hn⟩ := jF st Om
      have hpr := tH ok hst hp hn
      refine ⟨fun h0 => (by rw [h0] at hpr; cases hpr), fun i hii => ?_⟩
      rcases vk hst hii with ⟨q, hq, hn', rfl⟩ | ⟨hne, hia⟩
      · have := DP (n := n) ok hst ha hx hx0 hh hap (fun st' a' w' hu => ih st' a' w' Om) hq hn'
        rw [show n + (cu st - 1) = n + k by omega] at this
        exact this
      · exfalso
        obtain ⟨o, ho, e, he, hb, heq⟩ := hr _ (gO hst hp) i hia
        obtain ⟨_, oj, hoj, hall⟩ := mem_ready.1 hii
        rw [ho] at hoj
        injection hoj with hoj
        subst hoj
        have h1 := hall e he hb
        have h2 := (mem_ready.1 hpr).1
        rw [heq] at h1
        rcases Nat.lt_or_ge p.1.i (aT listed st).size with h' | h'
        · simp [h'] at h1 h2; rw [h1] at h2; cases h2
        · simp [Array.getElem?_eq_none h'] at h1
  exact fun st a w1 hst ha hx hx0 hh hap => main _ st a w1 rfl hst ha hx hx0 hh hap
theorem dd {fl : List Fl} {n m : Nat} {listed : Array Bool} (hm : fl.length = m) (h : WF P ops Q w0 fl n listed N L w) : WN P ops Q w0 (n + m) listed N L w := by
  intro a ha hx0
  have hu : ∀ (fl : List Fl), cu (fl.map fun f => (f, none)) = fl.length ∧ aT listed (fl.map fun f => (f, none)) = listed ∧ fu (fl.map fun f => (f, none)) := by
    intro fl
    induction fl with
    | nil => exact Ls
    | cons f fl ih =>
      refine ⟨by simp [cu, ih.1]; omega, by simpa [aT] using ih.2.1, ?_, ih.2.2⟩
      intro q hq v u b h1; cases h1
  have := h (fl.map fun f => (f, none)) a w (by simp [List.map_map, Function.comp_def]) ha (Ext.refl w) hx0 (fun p hp v hv => by
    obtain ⟨f, _, rfl⟩ := List.mem_map.1 hp
    cases hv) (hu fl).2.2
  rw [(hu fl).1, (hu fl).2.1, hm] at this
  exact this
def DO (ops : Array Oper) (listed : Array Bool) (i : Nat) (is : List Nat) : Bool :=
 ko .any ops listed i && is.all fun k => !(k == i) && !((ey .any ops listed i).getD k false)
theorem GH {fl : List Fl} {n : Nat} {listed : Array Bool} {i : Nat} {oi : Oper} {v : Value} (hi : ops[i]? = some oi) (hf : DO ops listed i (fl.map (·.i)) = true)
    (hy : ∀ a, Fr N L a → YieldsIf P ops (fun w' => Ext w0 w') oi v a) (hd : gH N oi.dst = true) (hdst : ∀ f ∈ fl, oi.dst ≠ some f.d) (h : WF P ops (fW Q) w0 fl n (listed.setIfInBounds i true) N (bL oi.dst v L) w) : WF P ops (fW Q) w0 fl (n + 1) listed N L w := by
  intro st a w1 hst ha hx hx0 hh hap
  simp only [DO, Bool.and_eq_true] at hf
  obtain ⟨hf, hfk⟩ := hf
  unfold ko at hf
  generalize ey .any ops listed i = D at hf hfk
  have hfk' : ∀ p ∈ st, p.1.i ≠ i ∧ D.getD p.1.i false = false := fun p hp => by
    rw [List.all_eq_true] at hfk
    have := hfk p.1.i (hst ▸ (by rw [List.map_map]; exact List.mem_map.2 ⟨p, hp, rfl⟩))
    simpa using this
  simp only [nV, hi, Bool.and_eq_true, List.all_eq_true, List.mem_range, Bool.or_eq_true, beq_iff_eq] at hf
  obtain ⟨⟨h1, h2⟩, h4⟩ := hf
  have key : ∀ j oj, ops[j]? = some oj → j ≠ i → listed.getD j true = false → cond (D.getD j false) (oj.after.any fun e => Region.binds .any e && (e.on == i || (D.getD e.on false && !listed.getD e.on true))) (oi.apart ops oj) = true := fun j oj hj hne hun => by
    have := h2 j (Array.getElem?_eq_some_iff.1 hj).1
    rcases this with h | h | h
    · exact absurd h hne
    · rw [hun] at h; cases h
    · simpa [hj] using h
  have low : ∀ (st : jl) (k : Nat), (aT listed st).getD k true = false → listed.getD k true = false := by
    intro st
    induction st with
    | nil => intro k h; exact h
    | cons p st ih =>
      obtain ⟨f, o⟩ := p
      intro k hk
      simp only [aT] at hk
      split at hk
      · by_cases e : f.i = k
        · subst e
          rcases Nat.lt_or_ge f.i (aT listed st).size with h' | h'
          · simp [h'] at hk
          · simp [Array.getElem?_eq_none h', h'] at hk
        · rw [getD_set_ne true e] at hk; exact ih k hk
      · exact ih k hk
  have same : ∀ (st : jl) (k : Nat), (∀ p ∈ st, p.1.i ≠ k) → (aT listed st).getD k true = listed.getD k true := by
    intro st
    induction st with
    | nil => intro k _; rfl
    | cons p st ih =>
      obtain ⟨f, o⟩ := p
      intro k hk
      have hk' := ih k (fun p hp => hk p (List.mem_cons_of_mem _ hp))
      simp only [aT]
      split
      · rw [getD_set_ne true (hk (f, o) List.mem_cons_self)]; exact hk'
      · exact hk'
  rw [show n + 1 + cu st = (n + cu st) + 1 by omega]
  refine qB (fun j => D.getD j false) hi (Region.noSelect_spec h1) (fun c a w h => h) _ (aT listed st) a w1 hx0 (fun j oj hj hne hun hd => ?_) (fun j oj hj hne hun hd => ?_) (iN st (by simpa using h4) fun p hp _ => (hfk' p hp).1) (hy a ha) ?_
  · have k := key j oj hj hne (low st j hun)
    rw [hd, cond_true] at k
    obtain ⟨e, he, hb⟩ := Array.any_eq_true'.1 k
    simp only [Bool.and_eq_true, Bool.or_eq_true, beq_iff_eq, Bool.not_eq_true'] at hb
    refine ⟨e, he, hb.1, hb.2.imp id fun ⟨h5, h6⟩ => ⟨h5, ?_⟩⟩
    rw [same st e.on fun p hp e' => by
      have := (hfk' p hp).2
      rw [e', h5] at this; cases this]
    exact h6
  · have k := key j oj hj hne (low st j hun)
    rwa [hd, cond_false] at k
  · rw [← jf _ _ _ fun p hp => (hfk' p hp).1]
    exact h st (a.put oi.dst v) w1 hst (ha.jE hd v) hx hx0 (fun p hp u hu => by
      obtain ⟨h5, h6, h7⟩ := hh p hp u hu
      exact ⟨by rw [se (hdst _ (gO hst hp))]; exact h5, h6, h7⟩) hap
theorem av {p : Fl → Prop} : ∀ f ∈ ([] : List Fl), p f := fun _ h => by cases h
theorem aS {p : Fl → Prop} {f : Fl} {fl : List Fl} (h : p f) (h' : ∀ g ∈ fl, p g) : ∀ g ∈ f :: fl, p g := fun g hg => by
 rcases List.mem_cons.1 hg with rfl | hg
 ·exact h
 ·exact h' g hg
theorem aR {l : List Nat} {i : Nat} (h : l.contains i = true) : i ∈ l := by simpa using h
section
variable {fl : List Fl} {n : Nat} {listed : Array Bool} (i : Nat) {op : Op} {ty : TypeId} {v : Value} {dst : Option Tmp} {pos : String} {after : Array Edge} {j : Nat} {b b' : Bool}
theorem mZ (hi : ops[i]? = some ⟨dst, op, ty, pos, after, none⟩) (hf : DO ops listed i (fl.map (·.i)) = true) (h : Y P L w0 op ty v) (hd : gH N dst = true) (hdst : ∀ f ∈ fl, dst ≠ some f.d)
  (hr : WF P ops (fW Q) w0 fl n (listed.setIfInBounds i true) N (bL dst v L) w) : WF P ops (fW Q) w0 fl (n + 1) listed N L w :=
 GH hi hf (fun a ha => .inl ⟨rfl, fun w' e => h a.eval (fun _ _ hx => ha.ev hx) w' e _ _ _ _⟩) hd hdst hr
end
section
variable {f : FuncId} {xs : List Operand} {ats : Array TypeId} {vs : List Value} {fn : Func} {c : Code} {ty : TypeId} {dst : Option Tmp} {pos : String} {after : Array Edge}
theorem EZ {fl : List Fl} {n : Nat} {listed : Array Bool} {j : Nat} (ok : mF P ops w0 fl listed N L) (hr : Region.ready .any ops (dC listed fl) = [j]) (hj : ∀ f ∈ fl, f.i ≠ j)
  (hi : ops[j]? = some ⟨dst, .call { callee := .value (.func f), args := xs.toArray, argTypes := ats }, ty, pos, after, none⟩) (hf : P.funcs[f]? = some fn) (hb : fn.body = some c) (hn : (fn.name == "runtime.NumGoroutine") = false) (hx : lI L xs = some vs) (hdst : ∀ f ∈ fl, dst ≠ some f.d) (hd : gH N dst = true)
  (h : ∀ w1, Ext w w1 → Ext w0 w1 → ∃ R : Ending → World → Prop, Calls P f vs.toArray w1 R ∧ ∀ e w', R e w' → ∃ v, e = .returned v ∧ Ext w1 w' ∧ WF P ops Q w0 fl n (listed.setIfInBounds j true) N (bL dst v L) w') : WF P ops Q w0 fl (n + 1) listed N L w :=
 xS ok hr hj hi hdst hd fun w1 h1 h2 => by
  obtain ⟨R, hc, hR⟩ := h w1 h1 h2
  exact gG hf hb hn hx hc hR
end
section
variable {fl : List Fl} {n : Nat} {listed : Array Bool} (i : Nat) {op : Op} {ty : TypeId} {dst : Option Tmp} {pos : String} {after : Array Edge} {j : Nat} {b b' : Bool} {p : Prop} [Decidable p]
end
def oH (ops : Array Oper) (l : Array Bool) (is : List Nat) : Bool :=
 is.all fun i => (Region.ready .any ops l).all fun j => match ops[j]? with | some o => o.after.any (fun e => Region.binds .any e && e.on == i) | none => false
theorem sX {fl : List Fl} {l : Array Bool} (h : oH ops l (fl.map (·.i)) = true) : ∀ f ∈ fl, ∀ j ∈ Region.ready .any ops l, ∃ o, ops[j]? = some o ∧ ∃ e ∈ o.after, Region.binds .any e = true ∧ e.on = f.i := by
  intro f hf j hj
  simp only [oH, List.all_eq_true] at h
  have := h f.i (List.mem_map.2 ⟨f, hf, rfl⟩) j hj
  cases ho : ops[j]? with
  | none => simp [ho] at this
  | some o =>
    simp only [ho] at this
    obtain ⟨e, he, hb⟩ := Array.any_eq_true'.1 this
    simp only [Bool.and_eq_true, beq_iff_eq] at hb
    exact ⟨o, rfl, e, he, hb.1, hb.2⟩
theorem jO {st : jl} (h : cu st = 0) : ∀ p ∈ st, ∃ v, p.2 = some v := by
  intro p hp
  cases ho : p.2 with
  | some v => exact ⟨v, rfl⟩
  | none =>
    exfalso
    have : ∀ st : jl, (∃ p ∈ st, p.2 = none) → 0 < cu st := by
      intro st
      induction st with
      | nil => rintro ⟨p, hp, _⟩; cases hp
      | cons q st ih =>
        rintro ⟨p, hp, hn⟩
        obtain ⟨f, o⟩ := q
        simp only [cu]
        rcases List.mem_cons.1 hp with rfl | hp
        · simp only at hn; subst hn; simp; omega
        · have := ih ⟨p, hp, hn⟩; omega
    have := this st ⟨p, hp, ho⟩
    omega
abbrev vN (w0 : World) (f : Fl) (v : Value) (w1 : World) : Prop := f.R v w1 ∧ ∀ b, nK v = some b → w0.heap.size ≤ b
abbrev Km (v u : Value) : Prop := ∀ b, nK v = some b → nK u = some b → False
theorem ie {f : Fl} {n : Nat} {listed : Array Bool} (ok : mF P ops w0 [f] listed N L) (hr : oH ops (dC listed [f]) [f.i] = true)
    (h : ∀ v w1, Ext w w1 → vN w0 f v w1 → WN P ops Q w0 n (dC listed [f]) N ((f.d, v) :: L) w1) : WF P ops Q w0 [f] n listed N L w :=
  rI ok (sX hr) fun st w1 hst hu hx hR hap => by
    match st, hst, hu, hR, hap with
    | [(f', some v)], hst, hu, hR, hap =>
      simp only [List.map_cons, List.map_nil, List.cons.injEq, and_true] at hst
      subst hst
      exact h v w1 hx (hR _ List.mem_cons_self v rfl)
    | [(f', none)], hst, hu, _, _ => simp [cu] at hu
theorem fH {f g : Fl} {n : Nat} {listed : Array Bool} (ok : mF P ops w0 [f, g] listed N L) (hr : oH ops (dC listed [f, g]) [f.i, g.i] = true)
    (h : ∀ v u w1, Ext w w1 → vN w0 f v w1 → vN w0 g u w1 → Km v u → WN P ops Q w0 n (dC listed [f, g]) N ((f.d, v) :: (g.d, u) :: L) w1) : WF P ops Q w0 [f, g] n listed N L w :=
  rI ok (sX hr) fun st w1 hst hu hx hR hap => by
    match st, hst, hu, hR, hap with
    | [(f', o1), (g', o2)], hst, hu, hR, hap =>
      simp only [List.map_cons, List.map_nil, List.cons.injEq, and_true] at hst
      obtain ⟨rfl, rfl⟩ := hst
      obtain ⟨v, hv⟩ := jO hu (f', o1) (by simp)
      obtain ⟨u, hu'⟩ := jO hu (g', o2) (by simp)
      simp only at hv hu'
      subst hv; subst hu'
      exact h v u w1 hx (hR (f', some v) (by simp) v rfl) (hR (g', some u) (by simp) u rfl) (fun b h1 h2 => hap.1 (g', some u) (by simp) v u b rfl rfl h1 h2)
def nT (i : Nat) (d : Tmp) (t : TypeId) (Z : Array Value) : Fl := ⟨i, d, fun v w => ∃ g, v = .pointer (some ⟨g, 0, none⟩) ∧ ao w g t Z⟩
theorem bw {i : Nat} {d : Tmp} {t ty : TypeId} {Z : Array Value} {pos : String} {after : Array Edge} (hi : ops[i]? = some ⟨some d, .alloc t, ty, pos, after, none⟩) (hz : (P.info? t).map (fun i => i.zero.map (·.cells)) = some (some Z)) : Fl.Kd P ops w0 L (nT i d t Z) := by
 refine ⟨fun v w1 w2 ⟨g, hv, hB⟩ he => ⟨g, hv, hB.ext he⟩, _, _, _, _, hi, fun w1 _ => (dL (w := w1) hz).mono ?_⟩
 rintro v w2 ⟨g, rfl, hB, hg, he⟩
 refine ⟨he, ⟨g, rfl, hB⟩, fun b hb => ?_⟩
 simp only [nK, Option.some.injEq] at hb
 subst hb
 exact ⟨hg, hB.lt⟩
def NZ (i : Nat) (d : Tmp) (e : TypeId) (n : Nat) (vs : List Value) : Fl := ⟨i, d, fun v w => ∃ g, v = .slice (some ⟨g, 0, none⟩) n n ∧ ao w g e vs.toArray⟩
theorem vh {i : Nat} {d : Tmp} {t ty e : TypeId} {n : Nat} {ps : Array (Nat × Operand)} {vs : List Value} {z : Value} {pos : String} {after : Array Edge} (hi : ops[i]? = some ⟨some d, .buildSlice t n ps, ty, pos, after, none⟩) (hu : P.underlying t = some (.slice e)) (hz : (P.info? e).map (fun i => (i.zero, i.size)) = some (some z, 1)) (h0 : z.cells.size = 1) (hp : JC L 0 ps.toList = some vs) (h1 : vs.all (·.oneCell') = true) (hn : vs.length = n) (hb : Nat.ble n 100 = true) : Fl.Kd P ops w0 L (NZ i d e n vs) := by
 refine ⟨fun v w1 w2 ⟨g, hv, hB⟩ he => ⟨g, hv, hB.ext he⟩, _, _, _, _, hi, fun w1 _ => (aB (w := w1) hu hz h0 hp h1 hn hb).mono ?_⟩
 rintro v w2 ⟨g, rfl, hB, hg, he⟩
 refine ⟨he, ⟨g, rfl, hB⟩, fun b hb => ?_⟩
 simp only [nK, Option.some.injEq] at hb
 subst hb
 exact ⟨hg, hB.lt⟩
end
end
section
variable {P : Program} {ops : Array Oper} {Q : Exit → Act → World → Prop} {N : Nd} {L : List (Nat × Value)} {w : World}
theorem eJ (o s off o' : Nat) {b i : Nat} {x : Operand} {t ty ft : TypeId} {fs : Array Field} (hu : P.underlying t = some (.struct fs)) (hx : ev L x = some (.pointer (some ⟨b, off, none⟩)) := by exact rfl) (hf : (fs[i]?).map (fun f => (f.offset, f.type)) = some (o, ft) := by exact rfl) (hs : (P.info? ft).map (·.size) = some s := by kernel_rfl) (h0 : (s == 0) = false := by exact rfl) (ho : off + o = o' := by exact rfl) :
  Y P L w (.fieldAddr t x i) ty (.pointer (some ⟨b, o', none⟩)) := nB hx hu hf hs h0 ho
end
end Go.Proofs.YtgfafidlkldeaaaGreat
