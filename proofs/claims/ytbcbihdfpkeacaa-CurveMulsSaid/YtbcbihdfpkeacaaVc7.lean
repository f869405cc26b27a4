/- Single operations more: fields, pointers held against nil, parts of blocks, arrays and structs built, functions made and called. -/
import Derived.Test.YtbcbihdfpkeacaaVc6
import Derived.Laws.Pointers
namespace Go.Proofs.Ytbcbihdfpkeacaa
open Go.RowKit
section
variable {P : Program} {L : List (Nat × Value)} {w : World} {ty t t' e : TypeId} {x y : Operand}
theorem Addr.add_plain (b off i : Nat) : (⟨b, off, none⟩ : Addr).add i = ⟨b, off + i, none⟩ := by unfold Addr.add; split <;> simp_all
theorem y_fieldAddr {b off i o o' s : Nat} {fs : Array Field} {ft : TypeId} (hx : ev L x = some (.pointer (some ⟨b, off, none⟩))) (hu : P.underlying t = some (.struct fs)) (hf : (fs[i]?).map (fun f => (f.offset, f.type)) = some (o, ft)) (hs : (P.info? ft).map (·.size) = some s) (h0 : (s == 0) = false) (ho : off + o = o') :
    Y P L w (.fieldAddr t x i) ty (.pointer (some ⟨b, o', none⟩)) := fun ρ hρ w' _ _ _ _ _ => by
  subst ho
  cases hq : fs[i]? with
  | none => simp [hq] at hf
  | some f =>
    simp only [hq, Option.map_some, Option.some.injEq, Prod.mk.injEq] at hf
    obtain ⟨rfl, rfl⟩ := hf
    have hsz := size_of_info hs w'
    have h0' : s ≠ 0 := by simpa using h0
    simp [execOp, hρ _ _ hx, Instr.fieldAt, Instr.sureAddr, run_underlying hu, hq, fieldPlace, hsz, h0', Addr.add_plain]
theorem isAgg_no {d : TypeDesc} (hu : P.underlying t = some d) (hd : (match d with | .struct _ | .array _ _ => false | _ => true) = true) (w' : World) : (isAgg t).run P w' = .ok false w' := by
  cases d <;> simp_all [isAgg, run_underlying hu]
theorem isAgg_yes {d : TypeDesc} (hu : P.underlying t = some d) (hd : (match d with | .struct _ | .array _ _ => true | _ => false) = true) (w' : World) : (isAgg t).run P w' = .ok true w' := by
  cases d <;> simp_all [isAgg, run_underlying hu]
/-- A field of one cell of a struct's value. -/
theorem y_field1 {cs : Array Value} {i o : Nat} {fs : Array Field} {ft : TypeId} {d : TypeDesc} {v : Value} (hx : ev L x = some (.agg cs)) (hu : P.underlying t = some (.struct fs)) (hf : (fs[i]?).map (fun f => (f.offset, f.type)) = some (o, ft)) (he : P.underlying ft = some d) (hd : (match d with | .struct _ | .array _ _ => false | _ => true) = true) (hv : cs[o]? = some v) :
    Y P L w (.field t x i) ty v := fun ρ hρ w' _ _ _ _ _ => by
  cases hq : fs[i]? with
  | none => simp [hq] at hf
  | some f =>
    simp only [hq, Option.map_some, Option.some.injEq, Prod.mk.injEq] at hf
    obtain ⟨rfl, rfl⟩ := hf
    simp [execOp, hρ _ _ hx, Instr.field, run_underlying hu, hq, asAgg, part, isAgg_no he hd w', hv]
/-- A field that is an array or a struct itself. -/
theorem y_fieldw {cs vs : Array Value} {i o s : Nat} {fs : Array Field} {ft : TypeId} {d : TypeDesc} (hx : ev L x = some (.agg cs)) (hu : P.underlying t = some (.struct fs)) (hf : (fs[i]?).map (fun f => (f.offset, f.type)) = some (o, ft)) (he : P.underlying ft = some d) (hd : (match d with | .struct _ | .array _ _ => true | _ => false) = true) (hs : (P.info? ft).map (·.size) = some s) (hv : cs.extract o (o + s) = vs) :
    Y P L w (.field t x i) ty (.agg vs) := fun ρ hρ w' _ _ _ _ _ => by
  subst hv
  cases hq : fs[i]? with
  | none => simp [hq] at hf
  | some f =>
    simp only [hq, Option.map_some, Option.some.injEq, Prod.mk.injEq] at hf
    obtain ⟨rfl, rfl⟩ := hf
    simp [execOp, hρ _ _ hx, Instr.field, run_underlying hu, hq, asAgg, part, isAgg_yes he hd w', size_of_info hs w']
/-- An element of more cells of an array's value. -/
theorem y_ixw {n j s : Nat} {a : Int} {k : IntKind} {cs vs : Array Value} {d : TypeDesc} (hx : ev L x = some (.agg cs)) (hy : ev L y = some (.int k a)) (hu : P.underlying t = some (.array n e)) (he : P.underlying e = some d) (hd : (match d with | .struct _ | .array _ _ => true | _ => false) = true)
    (hs : (P.info? e).map (·.size) = some s) (ha : a = (j : Int)) (hj : j < n) (hv : cs.extract (j * s) (j * s + s) = vs) : Y P L w (.index t x y) ty (.agg vs) := fun ρ hρ w' _ _ _ _ _ => by
  subst ha; subst hv
  have hb : 0 ≤ (j : Int) ∧ (j : Int) < n := by omega
  simp [execOp, hρ _ _ hx, hρ _ _ hy, Instr.index, asIntOf, run_underlying hu, hb, part, isAgg_yes he hd w', size_of_info hs w', hj]
/-- A pointer held against nil. -/
theorem y_eqlp {p : Option Addr} (hx : ev L x = some (.pointer p)) (hy : ev L y = some (.pointer none)) (hu : P.underlying t = some (.pointer e)) : Y P L w (.binOp .eql t x y t') ty (.bool p.isNone) := fun ρ hρ w' _ _ _ _ _ => by
  have h := run_eql_pointer_nil (P := P) w' t p (by simp [Program.pointee, hu])
  simp [execOp, hρ _ _ hx, hρ _ _ hy, eqGuard, h]
theorem y_neqp {p : Option Addr} (hx : ev L x = some (.pointer p)) (hy : ev L y = some (.pointer none)) (hu : P.underlying t = some (.pointer e)) : Y P L w (.binOp .neq t x y t') ty (.bool (!p.isNone)) := fun ρ hρ w' _ _ _ _ _ => by
  have h := run_neq_pointer_nil (P := P) w' t p (by simp [Program.pointee, hu])
  simp [execOp, hρ _ _ hx, hρ _ _ hy, eqGuard, h]
/-- An array or a struct built of parts. -/
def evq (L : List (Nat × Value)) : List (Nat × Operand) → Option (List (Nat × Value))
  | [] => some []
  | p :: ps => match ev L p.2, evq L ps with
    | some v, some vs => some ((p.1, v) :: vs)
    | _, _ => none
theorem evq_map {ρ : Operand → Value} (hρ : ∀ x u, ev L x = some u → ρ x = u) : ∀ (ps : List (Nat × Operand)) {vs : List (Nat × Value)}, evq L ps = some vs → ps.map (fun p => (p.1, ρ p.2)) = vs
  | [], vs, hx => by simp [evq] at hx; simp [hx]
  | p :: ps, vs, hx => by
    simp only [evq] at hx
    cases h1 : ev L p.2 with
    | none => simp [h1] at hx
    | some v =>
      cases h2 : evq L ps with
      | none => simp [h1, h2] at hx
      | some us =>
        simp only [h1, h2, Option.some.injEq] at hx
        subst hx
        rw [List.map_cons, evq_map hρ ps h2, hρ _ _ h1]
theorem y_build {ps : Array (Nat × Operand)} {qs : List (Nat × Value)} {cells : Array Value} (hx : evq L ps.toList = some qs) (h : P.built t qs = some cells) : Y P L w (.build t ps) ty (.agg cells) := fun ρ hρ w' _ _ _ _ _ => by
  have e := evq_map hρ ps.toList hx
  have hr := run_build (P := P) w' t (ps.map fun p => (p.1, ρ p.2)) cells (by rw [Array.toList_map, e]; exact h)
  have e2 : (execOp ρ ⟨‹_›, .build t ps, ty, ‹_›, ‹_›, ‹_›⟩) = (do pure (.value (← Instr.build t (ps.map fun p => (p.1, ρ p.2))))) := rfl
  rw [e2]
  simp [hr]
/-- An array or a struct, read out of a part of a block. -/
theorem y_loadp {ad : Addr} {cs : Array Value} {d : TypeDesc} (hx : ev L x = some (.pointer (some ad))) (hu : P.underlying t = some d) (hd : (match d with | .struct _ | .array _ _ => true | _ => false) = true) (hs : (P.info? t).map (·.size) = some cs.size)
    (hr : ∀ j v, cs[j]? = some v → w.cell? (ad.add j) = some v) : Y P L w (.load t x) ty (.agg cs) := fun ρ hρ w' ex _ _ _ _ => by
  have hl := run_loadCells_list (P := P) w' ad cs.toList fun j v hv => (ex.cell (cell_lt (hr j v (by simpa using hv)))).trans (hr j v (by simpa using hv))
  have hl' : (loadCells ad cs.size).run P w' = .ok cs w' := by simpa using hl
  simp [execOp, hρ _ _ hx, Instr.loadAt, Instr.sureAddr, loadVar, isAgg_yes hu hd w', size_of_info hs w', hl']
/-- Elements of more cells: where they lie. -/
theorem y_ixsp {b off n m j s : Nat} {k : IntKind} {a : Int} (hx : ev L x = some (.slice (some ⟨b, off, none⟩) n m)) (hy : ev L y = some (.int k a)) (hu : P.underlying t = some (.slice e)) (hs : (P.info? e).map (·.size) = some s) (ha : a = (j : Int)) (hj : j < n) :
    Y P L w (.indexAddr t x y) ty (.pointer (some ⟨b, off + j * s, none⟩)) := by
  have h := y_ixs (w := w) (ty := ty) hx hy hu hs ha hj
  rwa [Addr.add_plain] at h
theorem y_ixap {b off n j s : Nat} {k : IntKind} {a : Int} (hx : ev L x = some (.pointer (some ⟨b, off, none⟩))) (hy : ev L y = some (.int k a)) (hu : P.underlying t = some (.array n e)) (hs : (P.info? e).map (·.size) = some s) (ha : a = (j : Int)) (hj : j < n) :
    Y P L w (.indexAddr t x y) ty (.pointer (some ⟨b, off + j * s, none⟩)) := by
  have h := y_ixa (w := w) (ty := ty) hx hy hu hs ha hj
  rwa [Addr.add_plain] at h
/-- An array or a struct, put into a part of a block. -/
theorem ef_storeP {g o : Nat} {old cells : Array Value} (hx : ev L x = some (.pointer (some ⟨g, o, none⟩))) (hy : ev L y = some (.agg cells)) (hs : (P.info? t).map (·.size) = some cells.size) (hg : Blk w g e old) (ho : o + cells.size ≤ old.size) (h1 : cells.all (·.oneCell') = true) :
    Ef P L w (.store t x y) ty fun u w' => u = undef ∧ Blk w' g e (old.toList.take o ++ cells.toList ++ old.toList.drop (o + cells.size)).toArray ∧ Chg w g w' := by
  have h1' : ∀ v ∈ cells.toList, v.oneCell' = true := fun v hv => by
    rw [Array.all_eq_true] at h1
    obtain ⟨i, hi, rfl⟩ := List.getElem_of_mem hv
    simpa using h1 i (by simpa using hi)
  have hst := run_storeCells_at P g o e cells.toList 0 old w hg (by simpa using ho) h1'
  simp only [Nat.add_zero, Array.length_toList] at hst
  exact (Ef.runU (Φ := fun w' => w' = w.setRow g (old.toList.take o ++ cells.toList ++ old.toList.drop (o + cells.size)).toArray) fun ρ hρ => ⟨_, rfl, fun _ _ _ _ => by simp [execOp, hρ _ _ hx, hρ _ _ hy, Instr.storeAt, Instr.sureAddr, storeVar, Value.cells, size_of_info hs w, hst]⟩).mono fun _ w' ⟨hu, hw⟩ => ⟨hu, by subst hw; exact hg.row _, by subst hw; exact chg_setRow w g _⟩
theorem evs_map {ρ : Operand → Value} (hρ : ∀ x u, ev L x = some u → ρ x = u) : ∀ (xs : List Operand) {vs : List Value}, evs L xs = some vs → xs.map ρ = vs
  | [], vs, hx => by simp [evs] at hx; simp [hx]
  | x :: xs, vs, hx => by
    simp only [evs] at hx
    cases h1 : ev L x with
    | none => simp [h1] at hx
    | some v =>
      cases h2 : evs L xs with
      | none => simp [h1, h2] at hx
      | some us =>
        simp only [h1, h2, Option.some.injEq] at hx
        subst hx
        rw [List.map_cons, evs_map hρ xs h2, hρ _ _ h1]
/-- A function's value, and a call of it. -/
theorem y_func {f : FuncId} {xs : List Operand} {vs : List Value} (hx : evs L xs = some vs) : Y P L w (.makeFunc (.func f) #[] xs.toArray) ty (.func (.func f) #[] vs.toArray) := fun ρ hρ w' _ _ _ _ _ => by
  have e : (xs.map ρ) = vs := evs_map hρ xs hx
  simp [execOp, Instr.makeFunc, e]
theorem ef_callv {f : FuncId} {z : Operand} {xs : List Operand} {ats : Array TypeId} {vs us : List Value} {R : Ending → World → Prop} {Φ : Value → World → Prop} {fn : Func} {c : Code} (hz : ev L z = some (.func (.func f) #[] us.toArray)) (hf : P.funcs[f]? = some fn) (hb : fn.body = some c) (hn : (fn.name == "runtime.NumGoroutine") = false)
    (hx : evs L xs = some vs) (h : Calls P f (vs ++ us).toArray w R) (hR : ∀ e w', R e w' → ∃ v, e = .returned v ∧ Φ v w') : Ef P L w (.call { callee := .value z, args := xs.toArray, argTypes := ats }) ty Φ := by
  intro a N ha dst pos after guard K Q hK
  unfold Oper.wp
  have hzz : a.eval z = .func (.func f) #[] us.toArray := ha.ev hz
  have e0 : (execOp a.eval { dst, op := .call { callee := .value z, args := xs.toArray, argTypes := ats }, type := ty, pos, after, guard }) = (do let d ← Deferred.ofValue (a.eval z) (xs.toArray.map a.eval); invoke d.target d.args) := rfl
  rw [e0, hzz]
  have e : #[] ++ xs.toArray.map a.eval ++ us.toArray = (vs ++ us).toArray := by
    have := ha.evs hx
    simp [this]
  have hrun : ((do let d ← Deferred.ofValue (.func (.func f) #[] us.toArray) (xs.toArray.map a.eval); invoke d.target d.args) : Sem Next).run P w = .ok (.enter f (vs ++ us).toArray) w := by
    have hn' : ¬ fn.name = "runtime.NumGoroutine" := by simpa using hn
    simp only [Deferred.ofValue, Sem.run_bind, Sem.run_pure, Result.andThen_ok, invoke]
    rw [e]
    simp [callFunc, hf, hb, hn']
  rw [hrun]
  simp only [Oper.upon]
  refine h.mono fun e w' hr => ?_
  obtain ⟨v, rfl, hΦ⟩ := hR e w' hr
  exact hK v w' hΦ
/-- A call of a function without a body, known by what it yields. -/
theorem ef_ext {f : FuncId} {xs : List Operand} {ats : Array TypeId} {vs : List Value} {v : Value} (hx : evs L xs = some vs) (h : ∀ w' : World, (callFunc f vs.toArray).run P w' = .ok (.value v) w') : Y P L w (.call { callee := .value (.func f), args := xs.toArray, argTypes := ats }) ty v := fun ρ hρ w' _ dst pos after guard => by
  have e : #[] ++ xs.toArray.map ρ ++ #[] = vs.toArray := by simp [evs_map hρ xs hx]
  have e0 : (execOp ρ ⟨dst, .call { callee := .value (.func f), args := xs.toArray, argTypes := ats }, ty, pos, after, guard⟩) = (do let d ← Deferred.ofValue (ρ (.func f)) (xs.toArray.map ρ); invoke d.target d.args) := rfl
  have e1 : ρ (.func f) = .func (.func f) #[] #[] := hρ _ _ rfl
  rw [e0, e1]
  simp only [Deferred.ofValue, Sem.run_bind, Sem.run_pure, Result.andThen_ok, invoke]
  rw [e]
  exact h w'
theorem vc_enterc1 {f : FuncId} {fn : Func} {c : Code} {args : Array Value} {R : Ending → World → Prop} {s : Nat} {d : TypeDesc} (N : Nat) {u : Tmp} (hf : P.funcs[f]? = some fn) (hb : fn.body = some c) (hN : fn.ntmps = N) (hr : fn.results = #[.cell u ty]) (hu : P.underlying ty = some d) (hd : (match d with | .struct _ | .array _ _ => true | _ => false) = true) (hs : (P.info? ty).map (·.size) = some s) (hsz : Nat.ble args.size N = true)
    (h : ∀ Q : Exit → Act → World → Prop, (∀ {N : Nat} {L : List (Nat × Value)} {w : World} {g : Nat} {e : TypeId} {cs : Array Value}, look L u = some (.pointer (some ⟨g, 0, none⟩)) → Blk w g e cs → cs.size = s → R (.returned (.agg cs)) w → WQ Q .ret N L w) → WC P Q c N (slots 0 args.toList) w) : Calls P f args w R :=
  vc_enter N hf hb hN hsz fun Q hQ => h Q fun hv hg hsz' hR a ha => hQ (bodyPost_ret (results_cell_row hr _ _ _ _ _ _ _ (getD_of (ha.has _ _ hv)) hg hu hd (by rw [hsz']; exact hs)) ha.defers hR)
end
end Go.Proofs.Ytbcbihdfpkeacaa
