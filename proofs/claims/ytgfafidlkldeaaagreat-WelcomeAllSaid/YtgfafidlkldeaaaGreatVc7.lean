/- Single operations more: fields, pointers held against nil, parts of blocks, arrays and structs built, functions made and called. More single laws: functions without a body that make memory, cuts with three places, results of two kinds. No conditions: plain lemmas of the model. A region that draws its order, by a base: all that is turned in it was made in it; what makes memory of nothing floats till it is wanted. No conditions: plain lemmas of the model. -/
import Derived.Test.YtgfafidlkldeaaaGreatSl
import Derived.Laws.Pointers
import Derived.Lib.MakeNoZero
import Derived.Laws.Externs
import Derived.Laws.ResultCell
set_option linter.unusedVariables false
set_option linter.unusedSimpArgs false
namespace Go.Proofs.YtgfafidlkldeaaaGreat
variable {a : Act} {ps : Array (Nat × Operand)} {l aa3 : Array Bool} {after : Array Edge} {fs : Array Field} {ops : Array Oper} {ats : Array TypeId} {Z args cells old : Array Value} {b' : Bool} {c : Code} {Q : Exit → Act → aa9 → Prop} {fn : Func} {f : FuncId} {k k2 : IntKind} {L qs : List (Nat × Value)} {xs : List Operand} {us vs : List Value} {b d g i id j m n o off s : Nat} {N : Nd} {A p : Oa} {op : Op} {oi : Oper} {x y z : Operand} {dst : Option Tmp} {P : Program} {pos : String} {e ft t ty : TypeId} {v : Value} {w w0 w1 : aa9}
section
open Go.RowKit
section
variable {t' : TypeId}
theorem Addr.add_plain (b off i : Nat) : (⟨b, off, none⟩ : Addr).add i = ⟨b, off + i, none⟩ := by unfold Addr.add; grind
theorem rV {o' : Nat} (hx : ev L x = some (.pointer (some ⟨b, off, none⟩))) (hu : P.underlying t = some (.struct fs)) (hf : (fs[i]?).map (fun f => (f.offset, f.type)) = some (o, ft)) (hs : (P.info? ft).map (·.size) = some s) (h0 : (s == 0) = false) (ho : off + o = o') :
    Y P L w (.fieldAddr t x i) ty (.pointer (some ⟨b, o', none⟩)) := fun ρ hρ w' _ _ _ _ _ => by
  subst ho
  cases hq : fs[i]? with
  | none => simp [hq] at hf
  | some f =>
    simp only [hq, Option.map_some, Option.some.injEq, Prod.mk.injEq] at hf
    obtain ⟨rfl, rfl⟩ := hf
    have hsz := bz hs w'
    have h0' : s ≠ 0 := by simpa using h0
    simp [execOp, hρ _ _ hx, Instr.fieldAt, Instr.sureAddr, run_underlying hu, hq, fieldPlace, hsz, h0', Addr.add_plain]
theorem NY {d : TypeDesc} (hu : P.underlying t = some d) (hd : (match d with | .struct _ | .array _ _ => false | _ => true) = true) (w' : aa9) : (isAgg t).run P w' = .ok false w' := by
 cases d <;> simp_all [isAgg, run_underlying hu]
theorem nf {d : TypeDesc} (hu : P.underlying t = some d) (hd : (match d with | .struct _ | .array _ _ => true | _ => false) = true) (w' : aa9) : (isAgg t).run P w' = .ok true w' := by
 cases d <;> simp_all [isAgg, run_underlying hu]
theorem MD {cs vs : Array Value} {i o s : Nat} {fs : Array Field} {ft : TypeId} {d : TypeDesc} (hx : ev L x = some (.agg cs)) (hu : P.underlying t = some (.struct fs)) (hf : (fs[i]?).map (fun f => (f.offset, f.type)) = some (o, ft)) (he : P.underlying ft = some d) (hd : (match d with | .struct _ | .array _ _ => true | _ => false) = true) (hs : (P.info? ft).map (·.size) = some s) (hv : cs.extract o (o + s) = vs) :
    Y P L w (.field t x i) ty (.agg vs) := fun ρ hρ w' _ _ _ _ _ => by
  subst hv
  cases hq : fs[i]? with
  | none => simp [hq] at hf
  | some f =>
    simp only [hq, Option.map_some, Option.some.injEq, Prod.mk.injEq] at hf
    obtain ⟨rfl, rfl⟩ := hf
    simp [execOp, hρ _ _ hx, Instr.field, run_underlying hu, hq, asAgg, part, nf he hd w', bz hs w']
theorem UX {n j s : Nat} {a : Int} {k : IntKind} {cs vs : Array Value} {d : TypeDesc} (hx : ev L x = some (.agg cs)) (hy : ev L y = some (.int k a)) (hu : P.underlying t = some (.array n e)) (he : P.underlying e = some d) (hd : (match d with | .struct _ | .array _ _ => true | _ => false) = true)
  (hs : (P.info? e).map (·.size) = some s) (ha : a = (j : Int)) (hj : j < n) (hv : cs.extract (j * s) (j * s + s) = vs) : Y P L w (.index t x y) ty (.agg vs) := fun ρ hρ w' _ _ _ _ _ => by
 subst ha; subst hv;have hb : 0 ≤ (j : Int) ∧ (j : Int) < n := Om
 simp [execOp, hρ _ _ hx, hρ _ _ hy, Instr.index, asIntOf, run_underlying hu, hb, part, nf he hd w', bz hs w', hj]
theorem LL (hx : ev L x = some (.pointer p)) (hy : ev L y = some (.pointer none)) (hu : P.underlying t = some (.pointer e)) : Y P L w (.binOp .eql t x y t') ty (.bool p.isNone) := fun ρ hρ w' _ _ _ _ _ => by have h := run_eql_pointer_nil (P := P) w' t p (by simp [Program.pointee, hu]);simp [execOp, hρ _ _ hx, hρ _ _ hy, eqGuard, h]
def Ss (L : List (Nat × Value)) : List (Nat × Operand) → Option (List (Nat × Value))
  | [] => some []
  | p :: ps => match ev L p.2, Ss L ps with
    | some v, some vs => some ((p.1, v) :: vs)
    | _, _ => none
theorem wT {ρ : Operand → Value} (hρ : ∀ x u, ev L x = some u → ρ x = u) : ∀ (ps : List (Nat × Operand)) {vs : List (Nat × Value)}, Ss L ps = some vs → ps.map (fun p => (p.1, ρ p.2)) = vs
  | [], vs, hx => by simp [Ss] at hx; simp [hx]
  | p :: ps, vs, hx => by
    simp only [Ss] at hx
    cases h1 : ev L p.2 with
    | none => simp [h1] at hx
    | some v =>
      cases h2 : Ss L ps with
      | none => simp [h1, h2] at hx
      | some us =>
        simp only [h1, h2, Option.some.injEq] at hx
        subst hx
        rw [List.map_cons, wT hρ ps h2, hρ _ _ h1]
theorem aA (hx : Ss L ps.toList = some qs) (h : P.built t qs = some cells) : Y P L w (.build t ps) ty (.agg cells) := fun ρ hρ w' _ _ _ _ _ => by have e := wT hρ ps.toList hx;have hr := run_build (P := P) w' t (ps.map fun p => (p.1, ρ p.2)) cells (by simp_all);have e2 : (execOp ρ ⟨‹_›, .build t ps, ty, ‹_›, ‹_›, ‹_›⟩) = (do pure (.value (← Instr.build t (ps.map fun p => (p.1, ρ p.2))))) := rfl;simp_all
theorem ew {ad : Addr} {cs : Array Value} {d : TypeDesc} (hx : ev L x = some (.pointer (some ad))) (hu : P.underlying t = some d) (hd : (match d with | .struct _ | .array _ _ => true | _ => false) = true) (hs : (P.info? t).map (·.size) = some cs.size)
  (hr : ∀ j v, cs[j]? = some v → w.cell? (ad.add j) = some v) : Y P L w (.load t x) ty (.agg cs) := fun ρ hρ w' ex _ _ _ _ => by
 have hl := run_loadCells_list (P := P) w' ad cs.toList fun j v hv => (ex.cell (dR (hr j v (by simpa using hv)))).trans (hr j v (by simpa using hv));have hl' : (loadCells ad cs.size).run P w' = .ok cs w' := by simpa using hl
 simp [execOp, hρ _ _ hx, Instr.loadAt, Instr.sureAddr, loadVar, nf hu hd w', bz hs w', hl']
theorem Mu {a : Int} (hx : ev L x = some (.slice (some ⟨b, off, none⟩) n m)) (hy : ev L y = some (.int k a)) (hu : P.underlying t = some (.slice e)) (hs : (P.info? e).map (·.size) = some s) (ha : a = (j : Int)) (hj : j < n) :
  Y P L w (.indexAddr t x y) ty (.pointer (some ⟨b, off + j * s, none⟩)) := by
 have h := QQ (w := w) (ty := ty) hx hy hu hs ha hj;rwa [Addr.add_plain] at h
theorem xx {a : Int} (hx : ev L x = some (.pointer (some ⟨b, off, none⟩))) (hy : ev L y = some (.int k a)) (hu : P.underlying t = some (.array n e)) (hs : (P.info? e).map (·.size) = some s) (ha : a = (j : Int)) (hj : j < n) :
  Y P L w (.indexAddr t x y) ty (.pointer (some ⟨b, off + j * s, none⟩)) := by
 have h := Ri (w := w) (ty := ty) hx hy hu hs ha hj;rwa [Addr.add_plain] at h
theorem bI (hx : ev L x = some (.pointer (some ⟨g, o, none⟩))) (hy : ev L y = some (.agg cells)) (hs : (P.info? t).map (·.size) = some cells.size) (hg : aq w g e old) (ho : o + cells.size ≤ old.size) (h1 : cells.all (·.oneCell') = true) :
  Ef P L w (.store t x y) ty fun u w' => u = undef ∧ aq w' g e (old.toList.take o ++ cells.toList ++ old.toList.drop (o + cells.size)).toArray ∧ mi w g w' := by
 have h1' : ∀ v ∈ cells.toList, v.oneCell' = true := fun v hv => by rw [Array.all_eq_true] at h1;obtain ⟨i, hi, rfl⟩ := List.getElem_of_mem hv;grind
 have hst := run_storeCells_at P g o e cells.toList 0 old w hg (by simpa using ho) h1';simp only [Nat.add_zero, Array.length_toList] at hst;exact (Ef.RX (Φ := fun w' => w' = w.setRow g (old.toList.take o ++ cells.toList ++ old.toList.drop (o + cells.size)).toArray) fun ρ hρ => ⟨_, rfl, fun _ _ _ _ => by simp [execOp, hρ _ _ hx, hρ _ _ hy, Instr.storeAt, Instr.sureAddr, storeVar, Value.cells, bz hs w, hst]⟩).mono fun _ w' ⟨hu, hw⟩ => ⟨hu, by subst hw; exact hg.row _, by subst hw; exact oW w g _⟩
theorem sB {ρ : Operand → Value} (hρ : ∀ x u, ev L x = some u → ρ x = u) : ∀ (xs : List Operand) {vs : List Value}, oY L xs = some vs → xs.map ρ = vs
  | [], vs, hx => by simp [oY] at hx; simp [hx]
  | x :: xs, vs, hx => by
    simp only [oY] at hx
    cases h1 : ev L x with
    | none => simp [h1] at hx
    | some v =>
      cases h2 : oY L xs with
      | none => simp [h1, h2] at hx
      | some us =>
        simp only [h1, h2, Option.some.injEq] at hx
        subst hx
        rw [List.map_cons, sB hρ xs h2, hρ _ _ h1]
theorem gC (hx : oY L xs = some vs) : Y P L w (.makeFunc (.func f) #[] xs.toArray) ty (.func (.func f) #[] vs.toArray) := fun ρ hρ w' _ _ _ _ _ => by have e : (xs.map ρ) = vs := sB hρ xs hx;simp [execOp, Instr.makeFunc, e]
theorem kD {R : Ending → aa9 → Prop} {Φ : Value → aa9 → Prop} (hz : ev L z = some (.func (.func f) #[] us.toArray)) (hf : P.funcs[f]? = some fn) (hb : fn.body = some c) (hn : (fn.name == "runtime.NumGoroutine") = false)
  (hx : oY L xs = some vs) (h : Calls P f (vs ++ us).toArray w R) (hR : ∀ e w', R e w' → ∃ v, e = .returned v ∧ Φ v w') : Ef P L w (.call { callee := .value z, args := xs.toArray, argTypes := ats }) ty Φ := by
 intro a N ha dst pos after guard K Q hK;unfold Oper.wp;have hzz : a.eval z = .func (.func f) #[] us.toArray := ha.ev hz;have e0 : (execOp a.eval { dst, op := .call { callee := .value z, args := xs.toArray, argTypes := ats }, type := ty, pos, after, guard }) = (do let d ← Deferred.ofValue (a.eval z) (xs.toArray.map a.eval); invoke d.target d.args) := rfl;rw [e0, hzz]
 have e : #[] ++ xs.toArray.map a.eval ++ us.toArray = (vs ++ us).toArray := by have := ha.oY hx;simp [this]
 have aa8 : ((do let d ← Deferred.ofValue (.func (.func f) #[] us.toArray) (xs.toArray.map a.eval); invoke d.target d.args) : Sem Next).run P w = .ok (.enter f (vs ++ us).toArray) w := by
  have hn' : ¬ fn.name = "runtime.NumGoroutine" := by simpa using hn
  simp only [Deferred.ofValue, Sem.run_bind, Sem.run_pure, Result.andThen_ok, invoke];rw [e];simp [callFunc, hf, hb, hn']
 rw [aa8];simp only [Oper.upon];refine h.mono fun e w' hr => ?_;grind
theorem oS (hx : oY L xs = some vs) (h : ∀ w' : World, (callFunc f vs.toArray).run P w' = .ok (.value v) w') : Y P L w (.call { callee := .value (.func f), args := xs.toArray, argTypes := ats }) ty v := fun ρ hρ w' _ dst pos after guard => by
 have e : #[] ++ xs.toArray.map ρ ++ #[] = vs.toArray := by simp [sB hρ xs hx]
 have e0 : (execOp ρ ⟨dst, .call { callee := .value (.func f), args := xs.toArray, argTypes := ats }, ty, pos, after, guard⟩) = (do let d ← Deferred.ofValue (ρ (.func f)) (xs.toArray.map ρ); invoke d.target d.args) := rfl;have e1 : ρ (.func f) = .func (.func f) #[] #[] := hρ _ _ rfl;rw [e0, e1];simp only [Deferred.ofValue, Sem.run_bind, Sem.run_pure, Result.andThen_ok, invoke];grind
theorem aH {f : FuncId} {fn : Func} {c : Code} {args : Array Value} {R : Ending → aa9 → Prop} {s : Nat} {d : TypeDesc} (N : Nat) {u : Tmp} (hf : P.funcs[f]? = some fn) (hb : fn.body = some c) (hN : fn.ntmps = N) (hr : fn.results = #[.cell u ty]) (hu : P.underlying ty = some d) (hd : (match d with | .struct _ | .array _ _ => true | _ => false) = true) (hs : (P.info? ty).map (·.size) = some s) (hsz : Nat.ble args.size N = true)
  (h : ∀ Q : Exit → Act → aa9 → Prop, (∀ {N : Nat} {L : List (Nat × Value)} {w : aa9} {g : Nat} {e : TypeId} {cs : Array Value}, look L u = some (.pointer (cf g)) → aq w g e cs → cs.size = s → R (.returned (.agg cs)) w → WQ Q .ret N L w) → WC P Q c N (gF 0 args.toList) w) : Calls P f args w R :=
 gH N hf hb hN hsz fun Q hQ => h Q fun hv hg hsz' hR a ha => hQ (bodyPost_ret (results_cell_row hr _ _ _ _ _ _ _ (cI (ha.has _ _ hv)) hg hu hd (by grind)) ha.defers hR)
end
section
theorem Qo {Φ : Value → aa9 → Prop} (hx : oY L xs = some vs) (h : ∃ v w', (callFunc f vs.toArray).run P w = .ok (.value v) w' ∧ Φ v w') : Ef P L w (.call { callee := .value (.func f), args := xs.toArray, argTypes := ats }) ty Φ := by
 obtain ⟨v, w', h, hΦ⟩ := h;refine Ef.run fun ρ hρ => ⟨v, w', hΦ, fun dst pos after guard => ?_⟩;have e : #[] ++ xs.toArray.map ρ ++ #[] = vs.toArray := by simp [sB hρ xs hx]
 have e0 : (execOp ρ ⟨dst, .call { callee := .value (.func f), args := xs.toArray, argTypes := ats }, ty, pos, after, guard⟩) = (do let d ← Deferred.ofValue (ρ (.func f)) (xs.toArray.map ρ); invoke d.target d.args) := rfl;have e1 : ρ (.func f) = .func (.func f) #[] #[] := hρ _ _ rfl;rw [e0, e1];simp only [Deferred.ofValue, Sem.run_bind, Sem.run_pure, Result.andThen_ok, invoke];rw [e];exact h
def SB (w : aa9) (e : TypeId) (n : Nat) (v : Value) (w' : aa9) : Prop := ∃ g cs, v = .slice (cf g) n cs.size ∧ aq w' g e cs ∧ n ≤ cs.size ∧ w.heap.size ≤ g ∧ Ext w w'
theorem O9 {c' h : Nat} {a b : Int} (hx : ev L x = some (.slice A n c')) (hy : ev L y = some (.int k a)) (hz : ev L z = some (.int k2 b)) (hu : P.underlying t = some (.slice e)) (hs : (P.info? e).map (·.size) = some s) (ha : a = (h : Int)) (hb' : b = (m : Int)) (hh : h ≤ m) (hm : m ≤ c') :
  Y P L w (.slice t x none (some y) (some z)) ty (.slice A h m) := fun ρ hρ w' _ _ _ _ _ => by
 subst ha; subst hb'
 have hb : ((Instr.sliceBounds true n c' none (some (.int k h)) (some (.int k2 m))).run P w') = .ok (0, h, m) w' := by simp [Instr.sliceBounds, Instr.sliceBound, asIntOf, hh, hm]
 simp [execOp, hρ _ _ hx, hρ _ _ hy, hρ _ _ hz, Instr.sliceAt, Instr.slice, run_underlying hu, hb, bz hs];cases A <;> simp [Addr.add]
end
section
variable {R : Ending → aa9 → Prop}
theorem cF {ty : TypeId} {s : Nat} {d : TypeDesc} (N : Nat) {u t : Tmp} (hf : P.funcs[f]? = some fn) (hb : fn.body = some c) (hN : fn.ntmps = N) (hr : fn.results = #[.cell u ty, .tmp t]) (hu : P.underlying ty = some d) (hd : (match d with | .struct _ | .array _ _ => true | _ => false) = true) (hs : (P.info? ty).map (·.size) = some s) (hsz : Nat.ble args.size N = true)
  (h : ∀ Q : Exit → Act → aa9 → Prop, (∀ {N : Nat} {L : List (Nat × Value)} {w : aa9} {g : Nat} {e : TypeId} {cs : Array Value} {v : Value}, look L u = some (.pointer (cf g)) → look L t = some v → aq w g e cs → cs.size = s → R (.returned (.tuple #[.agg cs, v])) w → WQ Q .ret N L w) → WC P Q c N (gF 0 args.toList) w) : Calls P f args w R :=
 gH N hf hb hN hsz fun Q hQ => h Q fun {N L w g e cs v} hv ht hg hsz' hR a ha => hQ (bodyPost_ret (v := .tuple #[.agg cs, v]) (by
  rw [results_cell_tmp hr, cI (ha.has _ _ hv), cI (ha.has _ _ ht)]
  simp [asAddr, run_loadVar_row w g e ty cs _ d hg hu hd (by grind), Result.andThen]) ha.defers hR)
end
section
variable {rest : List Oper}
theorem GY {t : Tmp} (ha : Fr N L a) (hj : (ops[j]?).bind (·.dst) = some t) (ht : look L t = some undef) :
  Region.wanted ⟨dst, op, ty, pos, after, some (j, b')⟩ (yielded ops a.tmps) = false := by
 have h1 := ha.has t _ ht;simp only [Region.wanted, yielded, hj, Option.bind_some, h1];cases b' <;> rfl
theorem fO (t : Tmp) (hj : (ops[j]?).bind (·.dst) = some t) (ht : look L t = some undef)
  (hd : gV N dst = true) (hr : WL P ops Q rest N (bB dst undef L) w) : WL P ops Q (⟨dst, op, ty, pos, after, some (j, b')⟩ :: rest) N L w := by
 intro a ha;refine wpList_step fun K hK => ?_;rw [if_neg (by rw [GY ha hj ht]; simp)];exact hK _ _ (hr _ (ha.mf hd undef))
end
section
def JQ (J : List (Nat × Value) → aa9 → Prop) (N : Nd) (Q : Exit → Act → aa9 → Prop) : Exit → Act → aa9 → Prop
 | .normal, a, w => ∃ L, Fr N L a ∧ J L w
 | e, a, w => Q e a w
theorem iB (J : List (Nat × Value) → aa9 → Prop) (h1 : WC P (JQ J N Q) c N L w) (h2 : ∀ L' w', J L' w' → WQ Q .normal N L' w') : WC P Q c N L w := fun a ha =>
 wp_mono (h1 a ha) fun e a' w' hq => by
  cases e with
  | normal => obtain ⟨L', ha', hJ⟩ := hq; exact h2 L' w' hJ a' ha'
  | goto l => exact hq
  | exit i => exact hq
  | ret => exact hq
  | panic ch => exact hq
  | outgrown => exact hq
theorem cV {J : List (Nat × Value) → aa9 → Prop} (L' : List (Nat × Value)) (hJ : J L' w) (hin : mC L L') : WQ (JQ J N Q) .normal N L w := fun _ ha => ⟨L', ha.sub hin, hJ⟩
end
section
variable {R : Ending → aa9 → Prop}
theorem uW {p q : Tmp} {ty ty' : TypeId} (h : fn.results = #[.cell p ty, .cell q ty']) (tmps : Array Value) {g g' : Nat} {t t' : TypeId} {cs cs' : Array Value} {d d' : TypeDesc}
  (hp : tmps.getD p undef = .pointer (cf g)) (hq : tmps.getD q undef = .pointer (cf g')) (hg : aq w g t cs) (hg' : aq w g' t' cs') (hu : P.underlying ty = some d) (hd : (match d with | .struct _ | .array _ _ => true | _ => false) = true) (hi : (P.info? ty).map (·.size) = some cs.size)
  (hu' : P.underlying ty' = some d') (hd' : (match d' with | .struct _ | .array _ _ => true | _ => false) = true) (hi' : (P.info? ty').map (·.size) = some cs'.size) : (results fn tmps).run P w = .ok (.tuple #[.agg cs, .agg cs']) w := by
 have hp' : tmps[p]?.getD undef = .pointer (cf g) := by simpa using hp
 have hq' : tmps[q]?.getD undef = .pointer (cf g') := by simpa using hq
 simp [results, h, hp', hq', asAddr, run_loadVar_row w g t ty cs _ d hg hu hd hi, run_loadVar_row w g' t' ty' cs' _ d' hg' hu' hd' hi']
theorem CU {ty ty' : TypeId} {s s' : Nat} {d d' : TypeDesc} (N : Nat) {u t : Tmp} (hf : P.funcs[f]? = some fn) (hb : fn.body = some c) (hN : fn.ntmps = N) (hr : fn.results = #[.cell u ty, .cell t ty']) (hu : P.underlying ty = some d) (hd : (match d with | .struct _ | .array _ _ => true | _ => false) = true) (hs : (P.info? ty).map (·.size) = some s)
  (hu' : P.underlying ty' = some d') (hd' : (match d' with | .struct _ | .array _ _ => true | _ => false) = true) (hs' : (P.info? ty').map (·.size) = some s') (hsz : Nat.ble args.size N = true)
  (h : ∀ Q : Exit → Act → aa9 → Prop, (∀ {N : Nat} {L : List (Nat × Value)} {w : aa9} {g g' : Nat} {e e' : TypeId} {cs cs' : Array Value}, look L u = some (.pointer (cf g)) → look L t = some (.pointer (cf g')) → aq w g e cs → cs.size = s → aq w g' e' cs' → cs'.size = s' → R (.returned (.tuple #[.agg cs, .agg cs'])) w → WQ Q .ret N L w) → WC P Q c N (gF 0 args.toList) w) : Calls P f args w R :=
 gH N hf hb hN hsz fun Q hQ => h Q fun {N L w g g' e e' cs cs'} hv ht hg hz hg' hz' hR a ha => hQ (bodyPost_ret (v := .tuple #[.agg cs, .agg cs']) (uW hr _ (cI (ha.has _ _ hv)) (cI (ha.has _ _ ht)) hg hg' hu hd (by grind) hu' hd' (by grind)) ha.defers hR)
end
def NR (P : Program) (ops : Array Oper) (Q : Exit → Act → aa9 → Prop) (w0 : aa9) : Nat → Array Bool → Act → aa9 → Prop
 | 0, aa3, a, w => Region.ready .any ops aa3 = [] ∧ Q .normal a w
 | n + 1, aa3, a, w => (Region.ready .any ops aa3 = [] → Q .normal a w) ∧
   ∀ i ∈ Region.ready .any ops aa3, wpOp P ops Q i (fun a' w' => Ext w0 w' ∧ NR P ops Q w0 n (aa3.setIfInBounds i true) a' w') a w
theorem ET : ∀ (n : Nat) (aa3 : Array Bool) (a : Act) (w : aa9), NR P ops Q w0 n aa3 a w → wpAny P .any ops Q n aa3 a w
 | 0, _, _, _, h => h
 | n + 1, _, _, _, h => ⟨h.1, fun i hi => wpOp_mono (fun a' w' h' => ET n _ a' w' h'.2) (h.2 i hi)⟩
theorem vK (D : Nat → Bool) (hi : ops[i]? = some oi) (hsel : ∀ (j : Nat) (o : Oper) cs b, ops[j]? = some o → o.op ≠ .select cs b)
    (hQ : ∀ c a w, Q (.panic c) (a.put oi.dst v) w → Q (.panic c) a w) :
    ∀ (n : Nat) (aa3 : Array Bool) (a : Act) (w : aa9), Ext w0 w →
      (∀ j oj, ops[j]? = some oj → j ≠ i → aa3.getD j true = false → D j = true → ∃ e ∈ oj.after, Region.binds .any e = true ∧ (e.on = i ∨ D e.on = true ∧ aa3.getD e.on true = false)) →
      (∀ j oj, ops[j]? = some oj → j ≠ i → aa3.getD j true = false → D j = false → oi.apart ops oj = true) →
      i ∈ Region.ready .any ops aa3 → YieldsIf P ops (fun w' => Ext w0 w') oi v a →
      NR P ops Q w0 n (aa3.setIfInBounds i true) (a.put oi.dst v) w → NR P ops Q w0 (n + 1) aa3 a w := by
  intro n
  induction n with
  | zero =>
    intro aa3 a w hx0 _ _ hr hy H
    refine ⟨fun h => (by grind), fun j hj => ?_⟩
    by_cases hji : j = i
    · subst hji; exact hy.wpOp hi hx0 ⟨hx0, H⟩
    have := ready_mono hj hji
    rw [H.1] at this
    cases this
  | succ n ih =>
    intro aa3 a w hx0 hdep hfree hr hy H
    refine ⟨fun h => (by grind), fun j hj => ?_⟩
    by_cases hji : j = i
    · subst hji; exact hy.wpOp hi hx0 ⟨hx0, H⟩
    have h1 := H.2 j (ready_mono hj hji)
    obtain ⟨hjun, oj, hoj, hall⟩ := mem_ready.1 hj
    have hDj : D j = false := by
      cases hd : D j with
      | false => rfl
      | true =>
        exfalso
        obtain ⟨e, he, hb, hor⟩ := hdep j oj hoj hji hjun hd
        have h1 := hall e he hb
        rcases hor with heq | ⟨_, hun⟩
        · have h0 := (mem_ready.1 hr).1
          grind
        grind
    have hap := hfree j oj hoj hji hjun hDj
    have h2 := wpOp_putIf hoj hap (fun cs b => hsel i oi cs b hi) (fun cs b => hsel j oj cs b hoj) hQ hy h1
    have back : ∀ k, (aa3.setIfInBounds j true).getD k true = false → aa3.getD k true = false := fun k hun => by
      by_cases hjk : j = k
      · grind
      simp_all
    have hdep' : ∀ k ok, ops[k]? = some ok → k ≠ i → (aa3.setIfInBounds j true).getD k true = false → D k = true → ∃ e ∈ ok.after, Region.binds .any e = true ∧ (e.on = i ∨ D e.on = true ∧ (aa3.setIfInBounds j true).getD e.on true = false) := fun k ok hk hki hun hd => by
      obtain ⟨e, he, hb, hor⟩ := hdep k ok hk hki (back k hun) hd;refine ⟨e, he, hb, hor.imp id fun ⟨h3, h4⟩ => ⟨h3, ?_⟩⟩;have hne : j ≠ e.on := by grind
      simp_all
    have hfree' : ∀ k ok, ops[k]? = some ok → k ≠ i → (aa3.setIfInBounds j true).getD k true = false → D k = false → oi.apart ops ok = true := fun k ok hk hki hun hd =>
      hfree k ok hk hki (back k hun) hd
    refine wpOp_mono (fun a' w' h3 => ?_) h2
    obtain ⟨hy', hx, hrest⟩ := h3
    refine ⟨hx, ih (aa3.setIfInBounds j true) a' w' hx hdep' hfree' (ready_mono hr (Ne.symm hji)) hy' ?_⟩
    rw [Array.setIfInBounds_comm _ _ hji]
    exact hrest
def WN (P : Program) (ops : Array Oper) (Q : Exit → Act → aa9 → Prop) (w0 : aa9) (n : Nat) (aa3 : Array Bool) (N : Nd) (L : List (Nat × Value)) (w : aa9) : Prop := ∀ a, Fr N L a → Ext w0 w → NR P ops Q w0 n aa3 a w
theorem dA {l : List Oper} (hm : P.follows .mixedOrders = true) (n : Nat) (hn : l.length = n) (h : ∀ w', Ext w w' → w'.heap = w.heap → WN P l.toArray (fD Q) w' n (Array.replicate n false) N L w') : WC P Q (.region id l.toArray true) N L w := by
 intro a ha;subst hn
 have h1 : (Code.region id l.toArray true).wp P (fD Q) a w := by refine wp_region_any hm (ET (w0 := w.drew) _ _ _ _ ?_);rw [List.size_toArray];exact h _ (Ext.drew w) rfl a ha (Ext.refl _)
 refine wp_mono h1 fun e a w hq => ?_;cases e <;> first | exact hq | exact hq.elim
theorem dM (hr : Region.ready .any ops aa3 = []) (h : WQ Q .normal N L w) : WN P ops Q w0 n aa3 N L w := by
 intro a ha _
 cases n with
 | zero => exact ⟨hr, h a ha⟩
 | succ n => exact ⟨fun _ => h a ha, by rw [hr]; simp⟩
theorem OY (hi : ops[i]? = some oi) (hf : nR .any ops aa3 i = true)
  (hy : ∀ a, Fr N L a → YieldsIf P ops (fun w' => Ext w0 w') oi v a) (hd : gV N oi.dst = true) (h : WN P ops (fD Q) w0 n (aa3.setIfInBounds i true) N (bB oi.dst v L) w) : WN P ops (fD Q) w0 (n + 1) aa3 N L w := by
 intro a ha hx;unfold nR at hf;generalize fU .any ops aa3 i = D at hf;simp only [sI, hi, Bool.and_eq_true, List.all_eq_true, List.mem_range, Bool.or_eq_true, beq_iff_eq] at hf;obtain ⟨⟨h1, h2⟩, h4⟩ := hf
 have key : ∀ j oj, ops[j]? = some oj → j ≠ i → aa3.getD j true = false → cond (D.getD j false) (oj.after.any fun e => Region.binds .any e && (e.on == i || (D.getD e.on false && !aa3.getD e.on true))) (oi.apart ops oj) = true := fun j oj hj hne hun => by grind
 refine vK (fun j => D.getD j false) hi (Region.noSelect_spec h1) (fun c a w h => h) n aa3 a w hx (fun j oj hj hne hun hd => ?_) (fun j oj hj hne hun hd => ?_) (by simpa using h4) (hy a ha) (h _ (ha.mf hd v) hx)
 ·grind
 grind
section
variable (i : Nat) {b : Bool}
theorem dz (hi : ops[i]? = some ⟨dst, op, ty, pos, after, none⟩) (hf : nR .any ops aa3 i = true) (h : Y P L w0 op ty v) (hd : gV N dst = true)
  (hr : WN P ops (fD Q) w0 n (aa3.setIfInBounds i true) N (bB dst v L) w) : WN P ops (fD Q) w0 (n + 1) aa3 N L w :=
 OY hi hf (fun a ha => .inl ⟨rfl, fun w' e => h a.eval (fun _ _ hx => ha.ev hx) w' e _ _ _ _⟩) hd hr
end
def db (P : Program) (ops : Array Oper) (Q : Exit → Act → aa9 → Prop) (w0 : aa9) (n : Nat) (aa3 : Array Bool) (i : Nat) (N : Nd) (L : List (Nat × Value)) (w : aa9) : Prop :=
 ∀ a, Fr N L a → Ext w0 w → wpOp P ops Q i (fun a' w' => Ext w0 w' ∧ NR P ops Q w0 n (aa3.setIfInBounds i true) a' w') a w
theorem Su (rs : List Nat) (hr : Region.ready .any ops aa3 = rs) (hne : rs.isEmpty = false) (h : ∀ i ∈ rs, db P ops Q w0 n aa3 i N L w) : WN P ops Q w0 (n + 1) aa3 N L w := by intro a ha hx;refine ⟨fun h0 => ?_, fun i hi => h i (hr ▸ hi) a ha hx⟩;grind
theorem cY (i : Nat) (hr : Region.ready .any ops aa3 = [i]) (h : db P ops Q w0 n aa3 i N L w) : WN P ops Q w0 (n + 1) aa3 N L w :=
 Su [i] hr rfl (fun k hk => by grind)
theorem er {Φ : Value → aa9 → Prop} (hi : ops[i]? = some ⟨dst, op, ty, pos, after, none⟩) (h : Ef P L w op ty Φ) (hd : gV N dst = true)
  (hr : ∀ v w', Φ v w' → Ext w0 w' ∧ WN P ops Q w0 n (aa3.setIfInBounds i true) N (bB dst v L) w') : db P ops Q w0 n aa3 i N L w := by
 intro a ha hx;unfold wpOp;simp only [hi];rw [if_pos (by simp [Region.wanted])];exact .inl (h a N ha _ _ _ _ _ _ fun v w' hv => ⟨(hr v w' hv).1, (hr v w' hv).2 _ (ha.mf hd v) (hr v w' hv).1⟩)
section
variable {R : Ending → aa9 → Prop}
theorem Ft (hi : ops[i]? = some ⟨dst, .call { callee := .value (.func f), args := xs.toArray, argTypes := ats }, ty, pos, after, none⟩) (hf : P.funcs[f]? = some fn) (hb : fn.body = some c) (hn : (fn.name == "runtime.NumGoroutine") = false) (hx : oY L xs = some vs) (h : Calls P f vs.toArray w R) (hd : gV N dst = true)
  (hr : ∀ e w', R e w' → ∃ v, e = .returned v ∧ Ext w0 w' ∧ WN P ops Q w0 n (aa3.setIfInBounds i true) N (bB dst v L) w') : db P ops Q w0 n aa3 i N L w :=
 er hi (jD hf hb hn hx h hr) hd fun _ _ hv => hv
end
/-! What floats: operations that make memory of nothing, ready from the beginning, taken in where they are wanted. -/
def sa : Value → Option Nat
 | .pointer (some A) => some A.block
 | .slice (some A) _ _ => some A.block
 | _ => none
structure Fl where
 i : Nat
 d : Tmp
 R : Value → aa9 → Prop
def Fl.Uf (P : Program) (ops : Array Oper) (w0 : aa9) (L : List (Nat × Value)) (f : Fl) : Prop :=
 (∀ v w1 w2, f.R v w1 → Ext w1 w2 → f.R v w2) ∧
 ∃ op ty pos after, ops[f.i]? = some ⟨some f.d, op, ty, pos, after, none⟩ ∧ ∀ w1, Ext w0 w1 → Ef P L w1 op ty fun v w2 => Ext w1 w2 ∧ f.R v w2 ∧ ∀ b, sa v = some b → w1.heap.size ≤ b ∧ b < w2.heap.size
abbrev mj := List (Fl × Option Value)
def aW (aa3 : Array Bool) : mj → Array Bool
 | [] => aa3
 | (f, o) :: st => if o.isSome then (aW aa3 st).setIfInBounds f.i true else aW aa3 st
def ey (aa3 : Array Bool) : List Fl → Array Bool
 | [] => aa3
 | f :: fl => (ey aa3 fl).setIfInBounds f.i true
def cU : mj → Nat
 | [] => 0
 | (_, o) :: st => (if o.isSome then 0 else 1) + cU st
def Bc (w0 : aa9) (a : Act) (w : aa9) (st : mj) : Prop := ∀ p ∈ st, ∀ v, p.2 = some v → a.tmps[p.1.d]? = some v ∧ p.1.R v w ∧ ∀ b, sa v = some b → w0.heap.size ≤ b ∧ b < w.heap.size
def iw : mj → Prop
 | [] => True
 | p :: st => (∀ q ∈ st, ∀ v u b, p.2 = some v → q.2 = some u → sa v = some b → sa u = some b → False) ∧ iw st
def WF (P : Program) (ops : Array Oper) (Q : Exit → Act → aa9 → Prop) (w0 : aa9) (fl : List Fl) (n : Nat) (aa3 : Array Bool) (N : Nd) (L : List (Nat × Value)) (w : aa9) : Prop :=
 ∀ (st : mj) (a : Act) (w1 : aa9), st.map (·.1) = fl → Fr N L a → Ext w w1 → Ext w0 w1 → Bc w0 a w1 st → iw st → NR P ops Q w0 (n + cU st) (aW aa3 st) a w1
theorem kV (aa3 : Array Bool) (j : Nat) : ∀ (st : mj), (∀ p ∈ st, p.1.i ≠ j) → aW (aa3.setIfInBounds j true) st = (aW aa3 st).setIfInBounds j true
  | [], _ => rfl
  | (f, o) :: st, h => by
    have ih := kV aa3 j st (fun p hp => h p (List.mem_cons_of_mem _ hp));have hne := h (f, o) List.mem_cons_self;simp only [aW];split
    · rw [ih, Array.setIfInBounds_comm _ _ (Ne.symm hne)]
    exact ih
theorem mW (aa3 : Array Bool) : ∀ (st : mj), cU st = 0 → aW aa3 st = ey aa3 (st.map (·.1))
  | [], _ => rfl
  | (f, o) :: st, h => by
    simp only [cU] at h
    have ho : o.isSome = true := by
      cases e : o.isSome with
      | true => rfl
      | false => simp [e] at h
    simp only [aW, ho, if_true, List.map_cons, ey];rw [mW aa3 st Om]
theorem rq (h : i ∈ Region.ready .any ops aa3) (hne : i ≠ j) : i ∈ Region.ready .any ops (aa3.setIfInBounds j true) := ready_mono h hne
theorem ln {aa3 : Array Bool} {i : Nat} : ∀ (st : mj), i ∈ Region.ready .any ops aa3 → (∀ p ∈ st, p.2.isSome = true → p.1.i ≠ i) → i ∈ Region.ready .any ops (aW aa3 st)
  | [], h, _ => h
  | (f, o) :: st, h, hne => by
    have ih := ln st h (fun p hp => hne p (List.mem_cons_of_mem _ hp));simp only [aW];split
    · rename_i ho
      exact rq ih (Ne.symm (hne (f, o) List.mem_cons_self ho))
    exact ih
theorem vu {aa3 : Array Bool} {i : Nat} : ∀ (st : mj), i ∈ Region.ready .any ops (aW aa3 st) → (∀ p ∈ st, p.1.i ≠ i) → i ∈ Region.ready .any ops (ey aa3 (st.map (·.1)))
  | [], h, _ => h
  | (f, o) :: st, h, hne => by
    have hne' := fun p hp => hne p (List.mem_cons_of_mem _ hp);have h0 := hne (f, o) List.mem_cons_self;simp only [List.map_cons, ey];simp only [aW] at h;split at h
    · -- it is on both RK: one less
      have key : ∀ (st : mj) (l : Array Bool), (∀ p ∈ st, p.1.i ≠ i) → i ∈ Region.ready .any ops (aW l st) → i ∈ Region.ready .any ops (ey l (st.map (·.1))) := by
        intro st
        induction st with
        | nil => intro l _ h; exact h
        | cons p st ih =>
          obtain ⟨g, u⟩ := p
          intro l hl h
          have hl' := fun p hp => hl p (List.mem_cons_of_mem _ hp)
          have hg := hl (g, u) List.mem_cons_self
          simp only [List.map_cons, ey]
          simp only [aW] at h
          have comm : ∀ (l : Array Bool) (k : Nat) (fl : List Fl), (ey l fl).setIfInBounds k true = ey (l.setIfInBounds k true) fl := by
            intro l k fl
            induction fl with
            | nil => rfl
            | cons f fl ihf =>
              simp only [ey]
              rw [← ihf]
              by_cases e : f.i = k
              · subst e; rfl
              exact Array.setIfInBounds_comm _ _ e
          have comm2 : ∀ (l : Array Bool) (k : Nat) (st : mj), (aW l st).setIfInBounds k true = aW (l.setIfInBounds k true) st := by
            intro l k st
            induction st with
            | nil => rfl
            | cons f st ihf =>
              obtain ⟨f, o⟩ := f
              simp only [aW]
              split
              · rw [← ihf]
                by_cases e : f.i = k
                · subst e; rfl
                exact Array.setIfInBounds_comm _ _ e
              exact ihf
          rw [comm]
          split at h
          · rw [comm2] at h
            exact ih _ hl' h
          refine ih _ hl' ?_
          rw [← comm2]
          exact rq h (Ne.symm hg)
      have := key ((f, o) :: st) aa3 hne (by simp only [aW]; rw [if_pos (by assumption)]; exact h);simpa only [List.map_cons, ey] using this
    exact rq (vu st h hne') (Ne.symm h0)
def jN (v : Value) : mj → Nat → mj
 | [], _ => []
 | (f, o) :: st, 0 => (f, some v) :: st
 | p :: st, k + 1 => p :: jN v st k
theorem vD (v : Value) : ∀ (st : mj) (k : Nat), (jN v st k).map (·.1) = st.map (·.1)
 | [], _ => rfl
 | (_, _) :: _, 0 => rfl
 | p :: st, k + 1 => by simp only [jN, List.map_cons, vD v st k]
theorem pq (v : Value) : ∀ (st : mj) (k : Nat) (f : Fl), st[k]? = some (f, none) → cU (jN v st k) + 1 = cU st
  | [], _, _, h => by simp at h
  | (g, o) :: st, 0, f, h => by simp only [List.getElem?_cons_zero, Option.some.injEq, Prod.mk.injEq] at h;obtain ⟨rfl, rfl⟩ := h;simp [jN, cU]; omega
  | p :: st, k + 1, f, h => by simp only [List.getElem?_cons_succ] at h;have := pq v st k f h;obtain ⟨g, o⟩ := p;simp only [jN, cU]; omega
theorem pe (v : Value) (aa3 : Array Bool) : ∀ (st : mj) (k : Nat) (f : Fl), st[k]? = some (f, none) → (st.map (·.1.i)).Nodup → aW aa3 (jN v st k) = (aW aa3 st).setIfInBounds f.i true
  | [], _, _, h, _ => by simp at h
  | (g, o) :: st, 0, f, h, _ => by simp only [List.getElem?_cons_zero, Option.some.injEq, Prod.mk.injEq] at h;obtain ⟨rfl, rfl⟩ := h;simp [jN, aW]
  | (g, o) :: st, k + 1, f, h, hn => by
    simp only [List.getElem?_cons_succ] at h;simp only [List.map_cons, List.nodup_cons] at hn;have ih := pe v aa3 st k f h hn.2;simp only [jN, aW];have hmem : f.i ∈ st.map (·.1.i) := List.mem_map.2 ⟨(f, none), List.mem_of_getElem? h, rfl⟩;have hne : g.i ≠ f.i := fun e => hn.1 (e ▸ hmem);split
    · rw [ih, Array.setIfInBounds_comm _ _ (Ne.symm hne)]
    exact ih
theorem rj (v : Value) : ∀ (st : mj) (k : Nat) (f : Fl), st[k]? = some (f, none) → ∀ p ∈ jN v st k, p = (f, some v) ∨ p ∈ st
  | [], _, _, h, _, _ => by simp at h
  | (g, o) :: st, 0, f, h, p, hp => by simp only [List.getElem?_cons_zero, Option.some.injEq, Prod.mk.injEq] at h;obtain ⟨rfl, rfl⟩ := h;simp only [jN, List.mem_cons] at hp;exact hp.imp id (fun h => List.mem_cons_of_mem _ h)
  | (g, o) :: st, k + 1, f, h, p, hp => by
    simp only [List.getElem?_cons_succ] at h;simp only [jN, List.mem_cons] at hp;rcases hp with rfl | hp
    · exact .inr List.mem_cons_self
    exact (rj v st k f h p hp).imp id (fun h => List.mem_cons_of_mem _ h)
theorem rA (v : Value) : ∀ (st : mj) (k : Nat) (f : Fl), st[k]? = some (f, none) → iw st → (∀ q ∈ st, ∀ u b, q.2 = some u → sa u = some b → sa v = some b → False) → iw (jN v st k)
  | [], _, _, h, _, _ => by simp at h
  | (g, o) :: st, 0, f, h, ha, hv => by refine ⟨fun q hq v' u b h1 h2 h3 h4 => ?_, ha.2⟩;simp only [Option.some.injEq] at h1;subst h1;exact hv q (List.mem_cons_of_mem _ hq) u b h2 h4 h3
  | (g, o) :: st, k + 1, f, h, ha, hv => by
    simp only [List.getElem?_cons_succ] at h;refine ⟨fun q hq v' u b h1 h2 h3 h4 => ?_, rA v st k f h ha.2 (fun q hq => hv q (List.mem_cons_of_mem _ hq))⟩;rcases rj v st k f h q hq with rfl | hq
    · simp only [Option.some.injEq] at h2
      subst h2;exact hv (g, o) List.mem_cons_self v' b h1 h3 h4
    exact ha.1 q hq v' u b h1 h2 h3 h4
theorem Fr.Fq (h : Fr N L a) (hd : look L d = none) (v : Value) : Fr N L (a.put (some d) v) := by
 refine ⟨by simp [Act.put, h.size], h.defers, fun t u hu => ?_⟩;have hne : d ≠ t := fun e => by grind
 simp only [Act.put];rw [Array.getElem?_setIfInBounds_ne hne];exact h.has t u hu
theorem Ur (hd : d < a.tmps.size) (v : Value) : (a.put (some d) v).tmps[d]? = some v := by simp [Act.put, hd]
theorem Mk {t : Nat} (hne : d ≠ t) (v : Value) : (a.put (some d) v).tmps[t]? = a.tmps[t]? := by simp only [Act.put]; rw [Array.getElem?_setIfInBounds_ne hne]
theorem xY {t : Nat} (hne : dst ≠ some t) (v : Value) : (a.put dst v).tmps[t]? = a.tmps[t]? := by
 cases dst with
 | none => rfl
 | some d => exact Mk (fun e => hne (by rw [e])) v
structure qK (P : Program) (ops : Array Oper) (w0 : aa9) (fl : List Fl) (aa3 : Array Bool) (N : Nd) (L : List (Nat × Value)) : Prop where
 runs : ∀ f ∈ fl, Fl.Uf P ops w0 L f
 is : (fl.map (·.i)).Nodup
 ds : (fl.map (·.d)).Nodup
 slot : ∀ f ∈ fl, look L f.d = none ∧ f.d < N.n
 rdy : ∀ f ∈ fl, f.i ∈ Region.ready .any ops aa3
theorem jO {fl : List Fl} {st : mj} (hst : st.map (·.1) = fl) {p : Fl × Option Value} (hp : p ∈ st) : p.1 ∈ fl := hst ▸ List.mem_map.2 ⟨p, hp, rfl⟩
theorem NX {fl : List Fl} {st : mj} (hst : st.map (·.1) = fl) (hn : (fl.map (·.i)).Nodup) : (st.map (·.1.i)).Nodup := by grind
theorem qh {α β : Type} {f : α → β} : ∀ {l : List α}, (l.map f).Nodup → ∀ p ∈ l, ∀ q ∈ l, f p = f q → p = q
  | x :: l, h, p, hp, q, hq, e => by
    simp only [List.map_cons, List.nodup_cons] at h;rcases List.mem_cons.1 hp with rfl | hp' <;> rcases List.mem_cons.1 hq with rfl | hq'
    · rfl
    · exact absurd (e ▸ List.mem_map.2 ⟨q, hq', rfl⟩) h.1
    · exact absurd (e ▸ List.mem_map.2 ⟨p, hp', rfl⟩) h.1
    exact qh h.2 p hp' q hq' e
theorem mB : ∀ (st : mj), cU st ≠ 0 → ∃ p ∈ st, p.2 = none
  | [], h => absurd rfl h
  | (f, o) :: st, h => by
    cases o with
    | none => exact ⟨_, List.mem_cons_self, rfl⟩
    | some v =>
      simp only [cU, Option.isSome_some, if_true, Nat.zero_add] at h
      obtain ⟨p, hp, e⟩ := mB st h
      exact ⟨p, List.mem_cons_of_mem _ hp, e⟩
theorem zA {fl : List Fl} {st : mj} (ok : qK P ops w0 fl aa3 N L) (hst : st.map (·.1) = fl) {p : Fl × Option Value} (hp : p ∈ st) (hn : p.2 = none) : p.1.i ∈ Region.ready .any ops (aW aa3 st) :=
 ln st (ok.rdy _ (jO hst hp)) fun q hq hs e => by have := qh (NX hst ok.is) q hq p hp e;grind
theorem Ba : ∀ (st : mj), (∃ p ∈ st, p.2.isSome = true ∧ p.1.i = i) → i ∉ Region.ready .any ops (aW aa3 st) := by
  intro st ⟨p, hp, hs, hi⟩ hr;have h1 := (mem_ready.1 hr).1
  have key : ∀ (st : mj), (∃ p ∈ st, p.2.isSome = true ∧ p.1.i = i) → (aW aa3 st).getD i true = true := by
    intro st
    induction st with
    | nil => grind
    | cons q st ih =>
      obtain ⟨f, o⟩ := q
      rintro ⟨p, hp, hs, hi⟩
      simp only [aW]
      by_cases e : f.i = i
      · split
        · simp_all
        grind
      have hp' : p ∈ st := by grind
      have := ih ⟨p, hp', hs, hi⟩
      split
      · simp_all
      exact this
  grind
theorem KG {fl : List Fl} {st : mj} (ok : qK P ops w0 fl aa3 N L) (hst : st.map (·.1) = fl) (ha : Fr N L a) (hx : Ext w w1) (hx0 : Ext w0 w1) (hh : Bc w0 a w1 st) (hap : iw st)
  (ih : ∀ (st' : mj) (a' : Act) (w' : aa9), cU st' + 1 = cU st → st'.map (·.1) = fl → Fr N L a' → Ext w w' → Ext w0 w' → Bc w0 a' w' st' → iw st' → NR P ops Q w0 (n + cU st') (aW aa3 st') a' w')
  {p : Fl × Option Value} (hp : p ∈ st) (hn : p.2 = none) : wpOp P ops Q p.1.i (fun a' w' => Ext w0 w' ∧ NR P ops Q w0 (n + (cU st - 1)) ((aW aa3 st).setIfInBounds p.1.i true) a' w') a w1 := by
 obtain ⟨hs, op, ty, pos, after, hi, aa8⟩ := ok.runs _ (jO hst hp);obtain ⟨k, hk⟩ := List.getElem?_of_mem hp;obtain ⟨f, o⟩ := p;simp only at hn;subst hn;unfold wpOp;simp only [hi];rw [if_pos (by simp [Region.wanted])];refine .inl (aa8 w1 hx0 a N ha _ _ _ _ _ _ ?_);rintro v w' ⟨he, hR, hb⟩;have hu := pq v st k f hk;have hsz := hx0.size;have hsz' := he.size;refine ⟨hx0.tr he, ?_⟩;rw [← pe v aa3 st k f hk (NX hst ok.is), show n + (cU st - 1) = n + cU (jN v st k) by omega];have hfd := ok.slot f (jO hst hp);refine ih _ _ _ hu (by rw [vD, hst]) (ha.Fq hfd.1 v) (hx.tr he) (hx0.tr he) ?_ (rA v st k f hk hap fun q hq u b h1 h2 h3 => ?_)
 ·intro q hq u hu;rcases rj v st k f hk q hq with rfl | hq'
  ·simp only [Option.some.injEq] at hu;subst hu;exact ⟨Ur (by rw [ha.size]; exact hfd.2) v, hR, fun b hb' => by grind⟩
  obtain ⟨h1, h2, h3⟩ := hh q hq' u hu;refine ⟨?_, (ok.runs _ (jO hst hq')).1 _ _ _ h2 he, fun b hb' => by grind⟩;rw [Mk (fun e => ?_) v]
  ·exact h1
  have RQ := ok.ds;have := qh RQ f (jO hst hp) q.1 (jO hst hq') e;have h5 := qh (NX hst ok.is) (f, none) hp q hq' (by rw [this]);grind
 have := (hh q hq u h1).2.2 b h2;grind
theorem BN {fl : List Fl} {st : mj} (hst : st.map (·.1) = fl) (hi : i ∈ Region.ready .any ops (aW aa3 st)) : (∃ p ∈ st, p.2 = none ∧ p.1.i = i) ∨ ((∀ p ∈ st, p.1.i ≠ i) ∧ i ∈ Region.ready .any ops (ey aa3 fl)) := by
 by_cases h : ∃ p ∈ st, p.1.i = i
 ·left;obtain ⟨p, hp, e⟩ := h;refine ⟨p, hp, ?_, e⟩
  cases ho : p.2 with
  | none => rfl
  | some v => exact absurd hi (Ba st ⟨p, hp, by rw [ho]; rfl, e⟩)
 right;have h' : ∀ p ∈ st, p.1.i ≠ i := fun p hp e => h ⟨p, hp, e⟩;exact ⟨h', hst ▸ vu st hi h'⟩
def NC (P : Program) (ops : Array Oper) (Q : Exit → Act → aa9 → Prop) (w0 : aa9) (fl : List Fl) (n : Nat) (aa3 : Array Bool) (N : Nd) (L : List (Nat × Value)) (w : aa9) (j : Nat) : Prop :=
 (∀ f ∈ fl, f.i ≠ j) ∧ ∃ op ty dst pos after, ops[j]? = some ⟨dst, op, ty, pos, after, none⟩ ∧ (∀ f ∈ fl, dst ≠ some f.d) ∧ gV N dst = true ∧
  ∀ w1, Ext w w1 → Ext w0 w1 → Ef P L w1 op ty fun v w' => Ext w1 w' ∧ WF P ops Q w0 fl n (aa3.setIfInBounds j true) N (bB dst v L) w'
theorem Bj {fl : List Fl} {js : List Nat} (ok : qK P ops w0 fl aa3 N L) (hr : Region.ready .any ops (ey aa3 fl) = js) (hne : js ≠ []) (h : ∀ j ∈ js, NC P ops Q w0 fl n aa3 N L w j) : WF P ops Q w0 fl (n + 1) aa3 N L w := by
  have main : ∀ (k : Nat) (st : mj) (a : Act) (w1 : aa9), cU st = k → st.map (·.1) = fl → Fr N L a → Ext w w1 → Ext w0 w1 → Bc w0 a w1 st → iw st → NR P ops Q w0 (n + 1 + cU st) (aW aa3 st) a w1 := by
    intro k
    induction k with
    | zero =>
      intro st a w1 hk hst ha hx hx0 hh hap
      rw [hk]
      have hl := mW aa3 st hk
      rw [hst] at hl
      refine ⟨fun h0 => (hne (by grind)).elim, fun j hii => ?_⟩
      rw [hl, hr] at hii
      obtain ⟨hj, op, ty, dst, pos, after, hi, hdst, hd, h⟩ := h j hii
      unfold wpOp
      simp only [hi]
      rw [if_pos (by simp [Region.wanted])]
      refine .inl (h w1 hx hx0 a N ha _ _ _ _ _ _ ?_)
      rintro v w' ⟨he, hw⟩
      refine ⟨hx0.tr he, ?_⟩
      have := hw st (a.put dst v) w' hst (ha.mf hd v) (Ext.refl _) (hx0.tr he) (fun p hp u hu => ?_) hap
      · rw [hk, kV _ _ _ (fun p hp => hj _ (jO hst hp))] at this
        exact this
      obtain ⟨h1, h2, h3⟩ := hh p hp u hu
      have hz := he.size
      exact ⟨by rw [xY (hdst _ (jO hst hp))]; exact h1, (ok.runs _ (jO hst hp)).1 _ _ _ h2 he, fun b hb => by grind⟩
    | succ k ih =>
      intro st a w1 hk hst ha hx hx0 hh hap
      rw [hk]
      refine ⟨fun h0 => ?_, fun i hii => ?_⟩
      · obtain ⟨p, hp, hn⟩ := mB st Om
        have := zA ok hst hp hn
        grind
      rcases BN hst hii with ⟨p, hp, hn, rfl⟩ | ⟨_, hia⟩
      · have := KG (n := n + 1) ok hst ha hx hx0 hh hap (fun st' a' w' hu => ih st' a' w' Om) hp hn
        grind
      rw [hr] at hia
      obtain ⟨hj, op, ty, dst, pos, after, hi, hdst, hd, h⟩ := h _ hia
      unfold wpOp
      simp only [hi]
      rw [if_pos (by simp [Region.wanted])]
      refine .inl (h w1 hx hx0 a N ha _ _ _ _ _ _ ?_)
      rintro v w' ⟨he, hw⟩
      refine ⟨hx0.tr he, ?_⟩
      have := hw st (a.put dst v) w' hst (ha.mf hd v) (Ext.refl _) (hx0.tr he) (fun p hp u hu => ?_) hap
      · rw [hk, kV _ _ _ (fun p hp => hj _ (jO hst hp))] at this
        grind
      obtain ⟨h1, h2, h3⟩ := hh p hp u hu
      have hz := he.size
      exact ⟨by rw [xY (hdst _ (jO hst hp))]; exact h1, (ok.runs _ (jO hst hp)).1 _ _ _ h2 he, fun b hb => by grind⟩
  exact fun st a w1 hst ha hx hx0 hh hap => main _ st a w1 rfl hst ha hx hx0 hh hap
theorem EW {fl : List Fl} (ok : qK P ops w0 fl aa3 N L) (hr : Region.ready .any ops (ey aa3 fl) = [j]) (hj : ∀ f ∈ fl, f.i ≠ j)
  (hi : ops[j]? = some ⟨dst, op, ty, pos, after, none⟩) (hdst : ∀ f ∈ fl, dst ≠ some f.d) (hd : gV N dst = true)
  (h : ∀ w1, Ext w w1 → Ext w0 w1 → Ef P L w1 op ty fun v w' => Ext w1 w' ∧ WF P ops Q w0 fl n (aa3.setIfInBounds j true) N (bB dst v L) w') : WF P ops Q w0 fl (n + 1) aa3 N L w :=
 Bj ok hr (by simp) fun k hk => by rw [List.mem_singleton] at hk; subst hk; exact ⟨hj, _, _, _, _, _, hi, hdst, hd, h⟩
theorem Th {fl : List Fl} (ok : qK P ops w0 fl aa3 N L) (hr : Region.ready .any ops (ey aa3 fl) = [i, j]) (hi : NC P ops Q w0 fl n aa3 N L w i) (hj : NC P ops Q w0 fl n aa3 N L w j) : WF P ops Q w0 fl (n + 1) aa3 N L w :=
 Bj ok hr (by simp) fun k hk => by grind
def qk : mj → List (Nat × Value)
 | [] => []
 | (f, some v) :: st => (f.d, v) :: qk st
 | (_, none) :: st => qk st
theorem tR {a : Act} (ha : Fr N L a) : ∀ (st : mj), (∀ p ∈ st, ∀ v, p.2 = some v → a.tmps[p.1.d]? = some v) → Fr N (qk st ++ L) a
  | [], _ => ha
  | (f, none) :: st, h => tR ha st fun p hp => h p (List.mem_cons_of_mem _ hp)
  | (f, some v) :: st, h => by
    have ih := tR ha st fun p hp => h p (List.mem_cons_of_mem _ hp);refine ⟨ih.size, ih.defers, fun t u hu => ?_⟩;simp only [qk, List.cons_append] at hu;unfold look at hu
    cases e : Nat.beq f.d t with
    | true =>
      simp only [e, cond_true, Option.some.injEq] at hu
      subst hu
      rw [← Nat.eq_of_beq_eq_true e]
      exact h _ List.mem_cons_self v rfl
    | false =>
      simp only [e, cond_false] at hu
      exact ih.has t u hu
theorem xu {fl : List Fl} (ok : qK P ops w0 fl aa3 N L) (hr : ∀ f ∈ fl, ∀ j ∈ Region.ready .any ops (ey aa3 fl), ∃ o, ops[j]? = some o ∧ ∃ e ∈ o.after, Region.binds .any e = true ∧ e.on = f.i)
    (h : ∀ (st : mj) (w1 : aa9), st.map (·.1) = fl → cU st = 0 → Ext w w1 → (∀ p ∈ st, ∀ v, p.2 = some v → p.1.R v w1 ∧ ∀ b, sa v = some b → w0.heap.size ≤ b) → iw st → WN P ops Q w0 n (ey aa3 fl) N (qk st ++ L) w1) : WF P ops Q w0 fl n aa3 N L w := by
  have main : ∀ (k : Nat) (st : mj) (a : Act) (w1 : aa9), cU st = k → st.map (·.1) = fl → Fr N L a → Ext w w1 → Ext w0 w1 → Bc w0 a w1 st → iw st → NR P ops Q w0 (n + cU st) (aW aa3 st) a w1 := by
    intro k
    induction k with
    | zero =>
      intro st a w1 hk hst ha hx hx0 hh hap
      have hl := mW aa3 st hk
      rw [hst] at hl
      rw [hk, hl]
      exact h st w1 hst hk hx (fun p hp v hv => ⟨(hh p hp v hv).2.1, fun b hb => ((hh p hp v hv).2.2 b hb).1⟩) hap a (tR ha st fun p hp v hv => (hh p hp v hv).1) hx0
    | succ k ih =>
      intro st a w1 hk hst ha hx hx0 hh hap
      rw [hk]
      obtain ⟨p, hp, hn⟩ := mB st Om
      have hpr := zA ok hst hp hn
      refine ⟨fun h0 => (by grind), fun i hii => ?_⟩
      rcases BN hst hii with ⟨q, hq, hn', rfl⟩ | ⟨hne, hia⟩
      · have := KG (n := n) ok hst ha hx hx0 hh hap (fun st' a' w' hu => ih st' a' w' Om) hq hn'
        grind
      exfalso
      obtain ⟨o, ho, e, he, hb, heq⟩ := hr _ (jO hst hp) i hia
      obtain ⟨_, oj, hoj, hall⟩ := mem_ready.1 hii
      rw [ho] at hoj
      injection hoj with hoj
      subst hoj
      have h1 := hall e he hb
      have h2 := (mem_ready.1 hpr).1
      grind
  exact fun st a w1 hst ha hx hx0 hh hap => main _ st a w1 rfl hst ha hx hx0 hh hap
theorem dx {fl : List Fl} (hm : fl.length = m) (h : WF P ops Q w0 fl n aa3 N L w) : WN P ops Q w0 (n + m) aa3 N L w := by
  intro a ha hx0
  have hu : ∀ (fl : List Fl), cU (fl.map fun f => (f, none)) = fl.length ∧ aW aa3 (fl.map fun f => (f, none)) = aa3 ∧ iw (fl.map fun f => (f, none)) := by
    intro fl
    induction fl with
    | nil => exact Ls
    | cons f fl ih =>
      refine ⟨by simp [cU, ih.1]; omega, by simpa [aW] using ih.2.1, ?_, ih.2.2⟩
      grind
  have := h (fl.map fun f => (f, none)) a w (by simp [List.map_map, Function.comp_def]) ha (Ext.refl w) hx0 (fun p hp v hv => by
    grind) (hu fl).2.2
  grind
def NK (ops : Array Oper) (aa3 : Array Bool) (i : Nat) (is : List Nat) : Bool :=
 nR .any ops aa3 i && is.all fun k => !(k == i) && !((fU .any ops aa3 i).getD k false)
theorem Qb {fl : List Fl} (hi : ops[i]? = some oi) (hf : NK ops aa3 i (fl.map (·.i)) = true)
    (hy : ∀ a, Fr N L a → YieldsIf P ops (fun w' => Ext w0 w') oi v a) (hd : gV N oi.dst = true) (hdst : ∀ f ∈ fl, oi.dst ≠ some f.d) (h : WF P ops (fD Q) w0 fl n (aa3.setIfInBounds i true) N (bB oi.dst v L) w) : WF P ops (fD Q) w0 fl (n + 1) aa3 N L w := by
  intro st a w1 hst ha hx hx0 hh hap;simp only [NK, Bool.and_eq_true] at hf;obtain ⟨hf, hfk⟩ := hf;unfold nR at hf;generalize fU .any ops aa3 i = D at hf hfk
  have hfk' : ∀ p ∈ st, p.1.i ≠ i ∧ D.getD p.1.i false = false := fun p hp => by grind
  simp only [sI, hi, Bool.and_eq_true, List.all_eq_true, List.mem_range, Bool.or_eq_true, beq_iff_eq] at hf;obtain ⟨⟨h1, h2⟩, h4⟩ := hf
  have key : ∀ j oj, ops[j]? = some oj → j ≠ i → aa3.getD j true = false → cond (D.getD j false) (oj.after.any fun e => Region.binds .any e && (e.on == i || (D.getD e.on false && !aa3.getD e.on true))) (oi.apart ops oj) = true := fun j oj hj hne hun => by grind
  have low : ∀ (st : mj) (k : Nat), (aW aa3 st).getD k true = false → aa3.getD k true = false := by
    intro st
    induction st with
    | nil => intro k h; exact h
    | cons p st ih =>
      obtain ⟨f, o⟩ := p
      intro k hk
      simp only [aW] at hk
      split at hk
      · by_cases e : f.i = k
        · simp_all
        simp_all
      grind
  have same : ∀ (st : mj) (k : Nat), (∀ p ∈ st, p.1.i ≠ k) → (aW aa3 st).getD k true = aa3.getD k true := by
    intro st
    induction st with
    | nil => intro k _; rfl
    | cons p st ih =>
      obtain ⟨f, o⟩ := p
      intro k hk
      have hk' := ih k (fun p hp => hk p (List.mem_cons_of_mem _ hp))
      simp only [aW]
      split
      · simp_all
      exact hk'
  rw [show n + 1 + cU st = (n + cU st) + 1 by omega];refine vK (fun j => D.getD j false) hi (Region.noSelect_spec h1) (fun c a w h => h) _ (aW aa3 st) a w1 hx0 (fun j oj hj hne hun hd => ?_) (fun j oj hj hne hun hd => ?_) (ln st (by simpa using h4) fun p hp _ => (hfk' p hp).1) (hy a ha) ?_
  · grind
  · grind
  rw [← kV _ _ _ fun p hp => (hfk' p hp).1]
  exact h st (a.put oi.dst v) w1 hst (ha.mf hd v) hx hx0 (fun p hp u hu => by
    obtain ⟨h5, h6, h7⟩ := hh p hp u hu
    exact ⟨by rw [xY (hdst _ (jO hst hp))]; exact h5, h6, h7⟩) hap
theorem av {p : Fl → Prop} : ∀ f ∈ ([] : List Fl), p f := fun _ h => by cases h
theorem aN {p : Fl → Prop} {f : Fl} {fl : List Fl} (h : p f) (h' : ∀ g ∈ fl, p g) : ∀ g ∈ f :: fl, p g := fun g hg => by grind
theorem aQ {l : List Nat} (h : l.contains i = true) : i ∈ l := by simpa using h
section
variable {fl : List Fl} (i : Nat) {b : Bool}
theorem ju (hi : ops[i]? = some ⟨dst, op, ty, pos, after, none⟩) (hf : NK ops aa3 i (fl.map (·.i)) = true) (h : Y P L w0 op ty v) (hd : gV N dst = true) (hdst : ∀ f ∈ fl, dst ≠ some f.d)
  (hr : WF P ops (fD Q) w0 fl n (aa3.setIfInBounds i true) N (bB dst v L) w) : WF P ops (fD Q) w0 fl (n + 1) aa3 N L w :=
 Qb hi hf (fun a ha => .inl ⟨rfl, fun w' e => h a.eval (fun _ _ hx => ha.ev hx) w' e _ _ _ _⟩) hd hdst hr
end
section
theorem OE {fl : List Fl} (ok : qK P ops w0 fl aa3 N L) (hr : Region.ready .any ops (ey aa3 fl) = [j]) (hj : ∀ f ∈ fl, f.i ≠ j)
  (hi : ops[j]? = some ⟨dst, .call { callee := .value (.func f), args := xs.toArray, argTypes := ats }, ty, pos, after, none⟩) (hf : P.funcs[f]? = some fn) (hb : fn.body = some c) (hn : (fn.name == "runtime.NumGoroutine") = false) (hx : oY L xs = some vs) (hdst : ∀ f ∈ fl, dst ≠ some f.d) (hd : gV N dst = true)
  (h : ∀ w1, Ext w w1 → Ext w0 w1 → ∃ R : Ending → aa9 → Prop, Calls P f vs.toArray w1 R ∧ ∀ e w', R e w' → ∃ v, e = .returned v ∧ Ext w1 w' ∧ WF P ops Q w0 fl n (aa3.setIfInBounds j true) N (bB dst v L) w') : WF P ops Q w0 fl (n + 1) aa3 N L w :=
 EW ok hr hj hi hdst hd fun w1 h1 h2 => by obtain ⟨R, hc, hR⟩ := h w1 h1 h2;exact jD hf hb hn hx hc hR
end
def sX (ops : Array Oper) (l : Array Bool) (is : List Nat) : Bool :=
 is.all fun i => (Region.ready .any ops l).all fun j => match ops[j]? with | some o => o.after.any (fun e => Region.binds .any e && e.on == i) | none => false
theorem xc {fl : List Fl} (h : sX ops l (fl.map (·.i)) = true) : ∀ f ∈ fl, ∀ j ∈ Region.ready .any ops l, ∃ o, ops[j]? = some o ∧ ∃ e ∈ o.after, Region.binds .any e = true ∧ e.on = f.i := by intro f hf j hj;simp only [sX, List.all_eq_true] at h;have := h f.i (List.mem_map.2 ⟨f, hf, rfl⟩) j hj;grind
theorem m7 {st : mj} (h : cU st = 0) : ∀ p ∈ st, ∃ v, p.2 = some v := by
  intro p hp
  cases ho : p.2 with
  | some v => grind
  | none =>
    exfalso
    have : ∀ st : mj, (∃ p ∈ st, p.2 = none) → 0 < cU st := by
      intro st
      induction st with
      | nil => grind
      | cons q st ih =>
        rintro ⟨p, hp, hn⟩
        obtain ⟨f, o⟩ := q
        simp only [cU]
        rcases List.mem_cons.1 hp with rfl | hp
        · grind
        have := ih ⟨p, hp, hn⟩; omega
    grind
abbrev Ek (w0 : aa9) (f : Fl) (v : Value) (w1 : aa9) : Prop := f.R v w1 ∧ ∀ b, sa v = some b → w0.heap.size ≤ b
abbrev Sw (v u : Value) : Prop := ∀ b, sa v = some b → sa u = some b → False
theorem gR {f : Fl} (ok : qK P ops w0 [f] aa3 N L) (hr : sX ops (ey aa3 [f]) [f.i] = true)
    (h : ∀ v w1, Ext w w1 → Ek w0 f v w1 → WN P ops Q w0 n (ey aa3 [f]) N ((f.d, v) :: L) w1) : WF P ops Q w0 [f] n aa3 N L w :=
  xu ok (xc hr) fun st w1 hst hu hx hR hap => by
    match st, hst, hu, hR, hap with
    | [(f', some v)], hst, hu, hR, hap =>
      simp only [List.map_cons, List.map_nil, List.cons.injEq, and_true] at hst
      subst hst
      exact h v w1 hx (hR _ List.mem_cons_self v rfl)
    | [(f', none)], hst, hu, _, _ => simp [cU] at hu
theorem jK {f g : Fl} (ok : qK P ops w0 [f, g] aa3 N L) (hr : sX ops (ey aa3 [f, g]) [f.i, g.i] = true)
    (h : ∀ v u w1, Ext w w1 → Ek w0 f v w1 → Ek w0 g u w1 → Sw v u → WN P ops Q w0 n (ey aa3 [f, g]) N ((f.d, v) :: (g.d, u) :: L) w1) : WF P ops Q w0 [f, g] n aa3 N L w :=
  xu ok (xc hr) fun st w1 hst hu hx hR hap => by
    match st, hst, hu, hR, hap with
    | [(f', o1), (g', o2)], hst, hu, hR, hap =>
      simp only [List.map_cons, List.map_nil, List.cons.injEq, and_true] at hst
      obtain ⟨rfl, rfl⟩ := hst
      obtain ⟨v, hv⟩ := m7 hu (f', o1) (by simp)
      obtain ⟨u, hu'⟩ := m7 hu (g', o2) (by simp)
      simp only at hv hu'
      subst hv; subst hu'
      exact h v u w1 hx (hR (f', some v) (by simp) v rfl) (hR (g', some u) (by simp) u rfl) (fun b h1 h2 => hap.1 (g', some u) (by simp) v u b rfl rfl h1 h2)
def sj (i : Nat) (d : Tmp) (t : TypeId) (Z : Array Value) : Fl := ⟨i, d, fun v w => ∃ g, v = .pointer (cf g) ∧ aq w g t Z⟩
theorem br {d : Tmp} (hi : ops[i]? = some ⟨some d, .alloc t, ty, pos, after, none⟩) (hz : (P.info? t).map (fun i => i.zero.map (·.cells)) = some (some Z)) : Fl.Uf P ops w0 L (sj i d t Z) := by refine ⟨fun v w1 w2 ⟨g, hv, hB⟩ he => ⟨g, hv, hB.ext he⟩, _, _, _, _, hi, fun w1 _ => (dG (w := w1) hz).mono ?_⟩;rintro v w2 ⟨g, rfl, hB, hg, he⟩;refine ⟨he, ⟨g, rfl, hB⟩, fun b hb => ?_⟩;simp only [sa, Option.some.injEq] at hb;subst hb;exact ⟨hg, hB.lt⟩
def XX (i : Nat) (d : Tmp) (e : TypeId) (n : Nat) (vs : List Value) : Fl := ⟨i, d, fun v w => ∃ g, v = .slice (cf g) n n ∧ aq w g e vs.toArray⟩
theorem Au {d : Tmp} {z : Value} (hi : ops[i]? = some ⟨some d, .buildSlice t n ps, ty, pos, after, none⟩) (hu : P.underlying t = some (.slice e)) (hz : (P.info? e).map (fun i => (i.zero, i.size)) = some (some z, 1)) (h0 : z.cells.size = 1) (hp : Re L 0 ps.toList = some vs) (h1 : vs.all (·.oneCell') = true) (hn : vs.length = n) (hb : Nat.ble n 100 = true) : Fl.Uf P ops w0 L (XX i d e n vs) := by refine ⟨fun v w1 w2 ⟨g, hv, hB⟩ he => ⟨g, hv, hB.ext he⟩, _, _, _, _, hi, fun w1 _ => (aF (w := w1) hu hz h0 hp h1 hn hb).mono ?_⟩;rintro v w2 ⟨g, rfl, hB, hg, he⟩;refine ⟨he, ⟨g, rfl, hB⟩, fun b hb => ?_⟩;simp only [sa, Option.some.injEq] at hb;subst hb;exact ⟨hg, hB.lt⟩
end
theorem eW (o s off o' : Nat) (hu : P.underlying t = some (.struct fs)) (hx : ev L x = some (.pointer (some ⟨b, off, none⟩)) := by exact rfl) (hf : (fs[i]?).map (fun f => (f.offset, f.type)) = some (o, ft) := by exact rfl) (hs : (P.info? ft).map (·.size) = some s := by kernel_rfl) (h0 : (s == 0) = false := by exact rfl) (ho : off + o = o' := by exact rfl) :
  Y P L w (.fieldAddr t x i) ty (.pointer (some ⟨b, o', none⟩)) := rV hx hu hf hs h0 ho
end Go.Proofs.YtgfafidlkldeaaaGreat
