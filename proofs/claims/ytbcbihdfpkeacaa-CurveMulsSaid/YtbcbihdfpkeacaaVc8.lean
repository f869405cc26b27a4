/- More single laws: functions without a body that make memory, cuts with three places, results of two kinds. No conditions: plain lemmas of the model. -/
import Derived.Test.YtbcbihdfpkeacaaVc7
import Derived.Lib.MakeNoZero
import Derived.Laws.Externs
import Derived.Laws.ResultCell
namespace Go.Proofs.Ytbcbihdfpkeacaa
open Go.RowKit
section
variable {P : Program} {L : List (Nat × Value)} {w : World} {ty t e : TypeId} {x y : Operand}
/-- A call of a function without a body, known by what it yields and leaves. -/
theorem ef_extM {f : FuncId} {xs : List Operand} {ats : Array TypeId} {vs : List Value} {Φ : Value → World → Prop} (hx : evs L xs = some vs) (h : ∃ v w', (callFunc f vs.toArray).run P w = .ok (.value v) w' ∧ Φ v w') : Ef P L w (.call { callee := .value (.func f), args := xs.toArray, argTypes := ats }) ty Φ := by
  obtain ⟨v, w', h, hΦ⟩ := h
  refine Ef.run fun ρ hρ => ⟨v, w', hΦ, fun dst pos after guard => ?_⟩
  have e : #[] ++ xs.toArray.map ρ ++ #[] = vs.toArray := by simp [evs_map hρ xs hx]
  have e0 : (execOp ρ ⟨dst, .call { callee := .value (.func f), args := xs.toArray, argTypes := ats }, ty, pos, after, guard⟩) = (do let d ← Deferred.ofValue (ρ (.func f)) (xs.toArray.map ρ); invoke d.target d.args) := rfl
  have e1 : ρ (.func f) = .func (.func f) #[] #[] := hρ _ _ rfl
  rw [e0, e1]
  simp only [Deferred.ofValue, Sem.run_bind, Sem.run_pure, Result.andThen_ok, invoke]
  rw [e]
  exact h
/-- A row of whatever cells. -/
def NewRaw (w : World) (e : TypeId) (n : Nat) (v : Value) (w' : World) : Prop := ∃ g cs, v = .slice (some ⟨g, 0, none⟩) n cs.size ∧ Blk w' g e cs ∧ n ≤ cs.size ∧ w.heap.size ≤ g ∧ Ext w w'
theorem y_cuthm {z : Operand} {A : Option Addr} {n c' h m s : Nat} {k k2 : IntKind} {a b : Int} (hx : ev L x = some (.slice A n c')) (hy : ev L y = some (.int k a)) (hz : ev L z = some (.int k2 b)) (hu : P.underlying t = some (.slice e)) (hs : (P.info? e).map (·.size) = some s) (ha : a = (h : Int)) (hb' : b = (m : Int)) (hh : h ≤ m) (hm : m ≤ c') :
    Y P L w (.slice t x none (some y) (some z)) ty (.slice A h m) := fun ρ hρ w' _ _ _ _ _ => by
  subst ha; subst hb'
  have hb : ((Instr.sliceBounds true n c' none (some (.int k h)) (some (.int k2 m))).run P w') = .ok (0, h, m) w' := by
    simp [Instr.sliceBounds, Instr.sliceBound, asIntOf, hh, hm]
  simp [execOp, hρ _ _ hx, hρ _ _ hy, hρ _ _ hz, Instr.sliceAt, Instr.slice, run_underlying hu, hb, size_of_info hs]
  cases A <;> simp [Addr.add]
end
section
variable {P : Program} {f : FuncId} {fn : Func} {c : Code} {args : Array Value} {R : Ending → World → Prop} {w : World}
theorem vc_enterct {ty : TypeId} {s : Nat} {d : TypeDesc} (N : Nat) {u t : Tmp} (hf : P.funcs[f]? = some fn) (hb : fn.body = some c) (hN : fn.ntmps = N) (hr : fn.results = #[.cell u ty, .tmp t]) (hu : P.underlying ty = some d) (hd : (match d with | .struct _ | .array _ _ => true | _ => false) = true) (hs : (P.info? ty).map (·.size) = some s) (hsz : Nat.ble args.size N = true)
    (h : ∀ Q : Exit → Act → World → Prop, (∀ {N : Nat} {L : List (Nat × Value)} {w : World} {g : Nat} {e : TypeId} {cs : Array Value} {v : Value}, look L u = some (.pointer (some ⟨g, 0, none⟩)) → look L t = some v → Blk w g e cs → cs.size = s → R (.returned (.tuple #[.agg cs, v])) w → WQ Q .ret N L w) → WC P Q c N (slots 0 args.toList) w) : Calls P f args w R :=
  vc_enter N hf hb hN hsz fun Q hQ => h Q fun {N L w g e cs v} hv ht hg hsz' hR a ha => hQ (bodyPost_ret (v := .tuple #[.agg cs, v]) (by
    rw [results_cell_tmp hr, getD_of (ha.has _ _ hv), getD_of (ha.has _ _ ht)]
    simp [asAddr, run_loadVar_row w g e ty cs _ d hg hu hd (by rw [hsz']; exact hs), Result.andThen]) ha.defers hR)
end
section
variable {P : Program} {ops : Array Oper} {Q : Exit → Act → World → Prop} {rest : List Oper} {N : Nd} {L : List (Nat × Value)} {w : World}
/-- A guard that was passed over itself: what hangs on it is, too. -/
theorem wanted_un {j : Nat} {t : Tmp} {b' : Bool} {op : Op} {ty : TypeId} {dst : Option Tmp} {pos : String} {after : Array Edge} {a : Act} (ha : Fr N L a) (hj : (ops[j]?).bind (·.dst) = some t) (ht : look L t = some undef) :
    Region.wanted ⟨dst, op, ty, pos, after, some (j, b')⟩ (yielded ops a.tmps) = false := by
  have h1 := ha.has t _ ht
  simp only [Region.wanted, yielded, hj, Option.bind_some, h1]
  cases b' <;> rfl
theorem wl_gun {op : Op} {ty : TypeId} {dst : Option Tmp} {pos : String} {after : Array Edge} {j : Nat} {b' : Bool} (t : Tmp) (hj : (ops[j]?).bind (·.dst) = some t) (ht : look L t = some undef)
    (hd : dOk N dst = true) (hr : WL P ops Q rest N (pushd dst undef L) w) : WL P ops Q (⟨dst, op, ty, pos, after, some (j, b')⟩ :: rest) N L w := by
  intro a ha
  refine wpList_step fun K hK => ?_
  rw [if_neg (by rw [wanted_un ha hj ht]; simp)]
  exact hK _ _ (hr _ (ha.putd hd undef))
theorem wm_gun {n : Nat} {listed : Array Bool} (i : Nat) {op : Op} {ty : TypeId} {dst : Option Tmp} {pos : String} {after : Array Edge} {j : Nat} {b' : Bool} (hi : ops[i]? = some ⟨dst, op, ty, pos, after, some (j, b')⟩) (hf : freeOf .any ops listed i = true)
    (t : Tmp) (hj : (ops[j]?).bind (·.dst) = some t) (ht : look L t = some undef) (hd : dOk N dst = true)
    (hr : WM P ops (NoP Q) n (listed.setIfInBounds i true) N (pushd dst undef L) w) : WM P ops (NoP Q) (n + 1) listed N L w :=
  wm_take hi hf (fun a ha => .inr ⟨wanted_un ha hj ht, rfl⟩) hd hr
end
section
variable {P : Program} {Q : Exit → Act → World → Prop} {N : Nd} {L : List (Nat × Value)} {w : World} {c : Code}
/-- Ways that meet: what stands behind is walked once. -/
def JQ (J : List (Nat × Value) → World → Prop) (N : Nd) (Q : Exit → Act → World → Prop) : Exit → Act → World → Prop
  | .normal, a, w => ∃ L, Fr N L a ∧ J L w
  | e, a, w => Q e a w
theorem wc_join (J : List (Nat × Value) → World → Prop) (h1 : WC P (JQ J N Q) c N L w) (h2 : ∀ L' w', J L' w' → WQ Q .normal N L' w') : WC P Q c N L w := fun a ha =>
  wp_mono (h1 a ha) fun e a' w' hq => by
    cases e with
    | normal => obtain ⟨L', ha', hJ⟩ := hq; exact h2 L' w' hJ a' ha'
    | goto l => exact hq
    | exit i => exact hq
    | ret => exact hq
    | panic ch => exact hq
    | outgrown => exact hq
theorem wq_join {J : List (Nat × Value) → World → Prop} (L' : List (Nat × Value)) (hJ : J L' w) (hin : allIn L L') : WQ (JQ J N Q) .normal N L w := fun _ ha => ⟨L', ha.sub hin, hJ⟩
end
section
variable {P : Program} {f : FuncId} {fn : Func} {c : Code} {args : Array Value} {R : Ending → World → Prop} {w : World}
theorem results_cell2 {p q : Tmp} {ty ty' : TypeId} (h : fn.results = #[.cell p ty, .cell q ty']) (tmps : Array Value) {g g' : Nat} {t t' : TypeId} {cs cs' : Array Value} {d d' : TypeDesc}
    (hp : tmps.getD p undef = .pointer (some ⟨g, 0, none⟩)) (hq : tmps.getD q undef = .pointer (some ⟨g', 0, none⟩)) (hg : Blk w g t cs) (hg' : Blk w g' t' cs') (hu : P.underlying ty = some d) (hd : (match d with | .struct _ | .array _ _ => true | _ => false) = true) (hi : (P.info? ty).map (·.size) = some cs.size)
    (hu' : P.underlying ty' = some d') (hd' : (match d' with | .struct _ | .array _ _ => true | _ => false) = true) (hi' : (P.info? ty').map (·.size) = some cs'.size) : (results fn tmps).run P w = .ok (.tuple #[.agg cs, .agg cs']) w := by
  have hp' : tmps[p]?.getD undef = .pointer (some ⟨g, 0, none⟩) := by simpa using hp
  have hq' : tmps[q]?.getD undef = .pointer (some ⟨g', 0, none⟩) := by simpa using hq
  simp [results, h, hp', hq', asAddr, run_loadVar_row w g t ty cs _ d hg hu hd hi, run_loadVar_row w g' t' ty' cs' _ d' hg' hu' hd' hi']
theorem vc_entercc {ty ty' : TypeId} {s s' : Nat} {d d' : TypeDesc} (N : Nat) {u t : Tmp} (hf : P.funcs[f]? = some fn) (hb : fn.body = some c) (hN : fn.ntmps = N) (hr : fn.results = #[.cell u ty, .cell t ty']) (hu : P.underlying ty = some d) (hd : (match d with | .struct _ | .array _ _ => true | _ => false) = true) (hs : (P.info? ty).map (·.size) = some s)
    (hu' : P.underlying ty' = some d') (hd' : (match d' with | .struct _ | .array _ _ => true | _ => false) = true) (hs' : (P.info? ty').map (·.size) = some s') (hsz : Nat.ble args.size N = true)
    (h : ∀ Q : Exit → Act → World → Prop, (∀ {N : Nat} {L : List (Nat × Value)} {w : World} {g g' : Nat} {e e' : TypeId} {cs cs' : Array Value}, look L u = some (.pointer (some ⟨g, 0, none⟩)) → look L t = some (.pointer (some ⟨g', 0, none⟩)) → Blk w g e cs → cs.size = s → Blk w g' e' cs' → cs'.size = s' → R (.returned (.tuple #[.agg cs, .agg cs'])) w → WQ Q .ret N L w) → WC P Q c N (slots 0 args.toList) w) : Calls P f args w R :=
  vc_enter N hf hb hN hsz fun Q hQ => h Q fun {N L w g g' e e' cs cs'} hv ht hg hz hg' hz' hR a ha => hQ (bodyPost_ret (v := .tuple #[.agg cs, .agg cs']) (results_cell2 hr _ (getD_of (ha.has _ _ hv)) (getD_of (ha.has _ _ ht)) hg hg' hu hd (by rw [hz]; exact hs) hu' hd' (by rw [hz']; exact hs')) ha.defers hR)
end
end Go.Proofs.Ytbcbihdfpkeacaa
