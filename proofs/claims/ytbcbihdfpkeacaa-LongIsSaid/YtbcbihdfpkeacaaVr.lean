/- A range over a function whose body is one region: a law for the small judgements. No conditions: plain lemmas of the model. -/
import Derived.Test.YtbcbihdfpkeacaaVc9
import Derived.RangeFuncNested
import Derived.RangeFuncBound
import Derived.RangeFuncCalls
import Derived.RangeFuncLeaves
namespace Go.Proofs.Ytbcbihdfpkeacaa
open Go.RowKit
section
variable {P : Program} {ops : Array Oper} {Q : Exit → Act → World → Prop} {n k : Nat} {a : Act} {w : World}
theorem rows_in {row : String} {args : Array Value} {R : Value → World → Prop} (h : Rows P row args w R) : RowsIn Fence.wide n P row args w R :=
  fun c cs _ => let ⟨v, w', r, s⟩ := h c cs; ⟨v, w', r, stepsIn_wide.2 s⟩
theorem upon_in {o : Oper} {next next' : Act → World → Prop} (hn : ∀ a w, next a w → next' a w) : ∀ {r : Result Next}, o.upon P a next Q r → o.uponIn (Fence.wide.inRound k) n P a next' Q r
  | .ok (.value v) w', h => hn _ _ h
  | .ok .skip w', h => hn _ _ h
  | .ok (.defer d) w', h => hn _ _ h
  | .ok (.enter f args) w', h => by
    refine ⟨fun e => by simp [Fence.wide] at e, CallsIn.inRound k (callsIn_wide.2 (Calls.mono h ?_))⟩
    intro e w'' hr
    cases e with
    | returned v => exact hn _ _ hr
    | panicked c => exact hr
    | outgrown => exact hr
  | .ok (.row row args) w', h => ⟨fun e => by simp [Fence.wide] at e, (rows_in (h.mono fun v w'' hr => hn _ _ hr) : RowsIn Fence.wide (n - 1) P row args w' _)⟩
  | .halt (.panic v) w', h => h
theorem list_in (hQ : ¬ LetsOut Q) : ∀ {l : List Oper} {a : Act} {w : World}, (∀ o ∈ l, ∀ c, o.op ≠ .defer c) → wpList P ops Q l a w → wpListIn (Fence.wide.inRound k) n P ops Q l a w
  | [], a, w, _, h => h
  | o :: l, a, w, hd, h => by
    have ih := fun a w => @list_in hQ l a w (fun o ho => hd o (List.mem_cons_of_mem _ ho))
    unfold wpList at h
    unfold wpListIn
    split at h
    · rename_i hw
      rw [if_pos hw]
      rcases h with h | h
      · refine ⟨fun _ _ => trivial, ?_⟩
        rw [show (Fence.wide.inRound k).round = some k from rfl, Oper.semAt_some k a.eval o (hd o (List.mem_cons_self ..))]
        exact upon_in ih h
      · exact absurd h.2 hQ
    · rename_i hw
      rw [if_neg hw]
      exact ⟨fun _ _ => trivial, ih _ _ h⟩
end
def noDefer : Op → Bool
  | .defer _ => false
  | _ => true
section
variable {P : Program} {Q : Exit → Act → World → Prop} {N : Nd} {L : List (Nat × Value)} {w : World} {n : Nat}
theorem no_let_own {α : Type} {B b : Nat} {Kp : World → World → Prop} {I : List α → World → Prop} {Ix : Code → List α → World → Prop} {xs : List α} {W : World} : ¬ LetsOut (Exit.inBlock b (ownPostG B Kp I Ix xs W)) := fun ⟨_, _, h⟩ => h
theorem no_let_then {K : Act → World → Prop} : ¬ LetsOut (Exit.then K fun _ _ _ => False) := fun ⟨_, _, h⟩ => h
/-- A range over a function whose body is one region. -/
theorem wc_range {α : Type} {g : Operand} {p x r0 r1 b gf M : Nat} {ty0 : TypeId} {pos0 : String} {after0 : Array Edge} {lb : Array Value} {l : List Oper} {enc : α → Value} {Kp : World → World → Prop} {S Sp : List α → Prop}
    (hn : 1 ≤ n) (hg : ev L g = some (.func (.func gf) #[] lb)) (eg : ∀ args w, (callFunc gf args).run P w = .ok (.enter gf args) w)
    (hseq : SeqStopsK Fence.wide (n - 1) P gf lb (fun v => #[enc v]) Kp S Sp M w)
    (hKt : ∀ {A B C : World}, Kp A B → Kp B C → Kp A C) (hKb : ∀ (W : World) (l : Nat) (o o' : Obj), w.heap.size ≤ l → W.heap[l]? = some o → o.isCells = false → o.isWalk = false → Kp W (W.putObj l o'))
    (I : List α → World → Prop) (hI : OwnFrom w.heap.size I) (h0 : I [] w) (hp : Nat.ble (p + 1) N.n = true) (hx : Nat.ble (x + 1) N.n = true) (hdl : l.all (fun o => noDefer o.op) = true)
    (hbody : ∀ (Q' : Exit → Act → World → Prop) (pre : List α) (v : α) (W : World), I pre W → pre.length < M → (∀ {N' : Nd} {L' : List (Nat × Value)} {W' : World}, KeepsFrom w.heap.size W W' → Kp W W' → I (pre ++ [v]) W' → WQ Q' .normal N' L' W') → WL P l.toArray Q' l ⟨N.n, []⟩ ((x, enc v) :: (p, enc v) :: L) W)
    (hdone : ∀ (D : Nat) (xs : List α) (W : World), w.heap.size ≤ D → S xs → I xs W → W.heap[D]? = some (.deferred (some [])) → WQ Q .normal ⟨N.n, { target := .collected D, args := #[] } :: N.ds⟩ L W) :
    WC P Q (.rangeFunc g #[p] (.region r0 #[⟨some x, .assign (.tmp p), ty0, pos0, after0, none⟩] false) (.block b (.region r1 l.toArray false))) N L w := by
  intro a ha
  rw [← wpIn_wide (n := n)]
  have hp' : p < a.tmps.size := by rw [ha.size]; exact Nat.le_of_ble_eq_true hp
  have hx' : x < a.tmps.size := by rw [ha.size]; exact Nat.le_of_ble_eq_true hx
  have fr : ∀ v, Fr ⟨N.n, []⟩ ((x, enc v) :: (p, enc v) :: L) { tmps := (a.tmps.setIfInBounds p (enc v)).setIfInBounds x (enc v), defers := [] } := fun v => by
    have h1 : Fr ⟨N.n, []⟩ L { tmps := a.tmps, defers := [] } := ⟨ha.size, rfl, ha.has⟩
    exact (h1.put hp (enc v)).put hx (enc v)
  refine wpIn_rangeFunc_ownG rfl hn (ha.ev hg) trivial eg hseq hKt hKb (Below.refl _ _) (fun _ => rfl) I (fun _ _ _ => False) hI (fun _ _ _ _ _ hs _ _ => hs) h0 (fun v => { tmps := (a.tmps.setIfInBounds p (enc v)).setIfInBounds x (enc v), defers := [] }) ?_ ?_ ?_ ?_
  · intro k v W K hK
    refine wpIn_region_list ?_
    refine wpListIn_plain rfl fun K' hK' => ?_
    refine ⟨fun _ _ => trivial, ?_⟩
    rw [show (Fence.wide.inRound k).round = some k from rfl, Oper.semAt_some k _ _ (fun c e => by cases e)]
    have e : ∀ ρ : Operand → Value, (execOp ρ ⟨some x, .assign (.tmp p), ty0, pos0, after0, none⟩).run P W = .ok (.value (ρ (.tmp p))) W := fun ρ => by simp [execOp]
    rw [e]
    refine hK' _ _ ?_
    simpa [wpListIn, Act.put, Act.eval, hp', Exit.then] using hK
  · intro k pre v W hI' hl
    refine wpIn_block (wpIn_region_lit (list_in no_let_own ?_ ?_))
    · intro o ho c e
      have := List.all_eq_true.1 hdl o ho
      rw [e] at this
      cases this
    · exact hbody _ pre v W hI' hl (fun h1 h2 h3 _ _ => ⟨h1, h2, h3⟩) _ (fr v)
  · intro D xs W hD hS hI' hK
    exact hdone D xs W hD hS hI' hK _ ⟨ha.size, by rw [ha.defers], ha.has⟩
  · intro D c pre W _ _ h _
    exact h.elim
end
/-! A function that holds such a loop: what it owes where it returns. -/
section
variable {P : Program} {w : World} {f : FuncId} {fn : Func} {c : Code} {args : Array Value} {R : Ending → World → Prop}
theorem vc_enterM (n N : Nat) (hf : P.funcs[f]? = some fn) (hb : fn.body = some c) (hN : fn.ntmps = N) (hsz : Nat.ble args.size N = true)
    (h : ∀ Q : Exit → Act → World → Prop, (∀ {e : Exit} {a : Act} {w : World}, bodyPostM Fence.wide n P fn R e a w → Q e a w) → WC P Q c ⟨N, []⟩ (slots 0 args.toList) w) : Calls P f args w R := by
  subst hN
  exact (callsIn_wide (n := n)).1 (callsIn_of_wp_marks hf hb trivial (wpIn_wide.2 (h _ (fun h => h) _ (fr_enter hsz))))
/-- One result in a slot. -/
theorem vc_enterM1 (n N : Nat) {t : Tmp} (hf : P.funcs[f]? = some fn) (hb : fn.body = some c) (hN : fn.ntmps = N) (hr : fn.results = #[.tmp t]) (hsz : Nat.ble args.size N = true)
    (h : ∀ Q : Exit → Act → World → Prop, (∀ {N : Nat} {L : List (Nat × Value)} {w : World} {v : Value}, look L t = some v → R (.returned v) w → WQ Q .ret (⟨N, []⟩ : Nd) L w) →
      (∀ {N D : Nat} {L : List (Nat × Value)} {w : World} {v : Value}, look L t = some v → w.heap[D]? = some (.deferred (some [])) → R (.returned v) (w.putObj D (.deferred none)) → WQ Q .ret (⟨N, [{ target := .collected D, args := #[] }]⟩ : Nd) L w) → WC P Q c ⟨N, []⟩ (slots 0 args.toList) w) : Calls P f args w R :=
  vc_enterM n N hf hb hN hsz fun Q hQ => h Q
    (fun hv hR a ha => hQ (by
      show LeavesInM _ _ _ _ _ _ a.defers _ _
      rw [ha.defers]
      exact ⟨_, results_tmp hr _ _ _, by rw [getD_of (ha.has _ _ hv)]; exact hR⟩))
    (fun hv hK hR a ha => hQ (by
      show LeavesInM _ _ _ _ _ _ a.defers _ _
      rw [ha.defers]
      refine ⟨by simp, .inl ⟨_, _, rfl, run_takeDeferred hK, ?_⟩⟩
      exact ⟨_, results_tmp hr _ _ _, by rw [getD_of (ha.has _ _ hv)]; exact hR⟩))
end
/-- An array or a struct in a cell. -/
theorem vc_enterMc1 {P : Program} {w : World} {f : FuncId} {fn : Func} {c : Code} {args : Array Value} {R : Ending → World → Prop} {ty : TypeId} {s : Nat} {d : TypeDesc} (n N : Nat) {u : Tmp} (hf : P.funcs[f]? = some fn) (hb : fn.body = some c) (hN : fn.ntmps = N) (hr : fn.results = #[.cell u ty]) (hu : P.underlying ty = some d)
    (hd : (match d with | .struct _ | .array _ _ => true | _ => false) = true) (hs : (P.info? ty).map (·.size) = some s) (hsz : Nat.ble args.size N = true)
    (h : ∀ Q : Exit → Act → World → Prop, (∀ {N D : Nat} {L : List (Nat × Value)} {w : World} {g : Nat} {e : TypeId} {cs : Array Value}, look L u = some (.pointer (some ⟨g, 0, none⟩)) → w.heap[D]? = some (.deferred (some [])) → Blk w g e cs → cs.size = s → R (.returned (.agg cs)) (w.putObj D (.deferred none)) →
      WQ Q .ret (⟨N, [{ target := .collected D, args := #[] }]⟩ : Nd) L w) → WC P Q c ⟨N, []⟩ (slots 0 args.toList) w) : Calls P f args w R :=
  vc_enterM n N hf hb hN hsz fun Q hQ => h Q
    (fun {N D L w g e cs} hv hK hg hz hR a ha => hQ (by
      show LeavesInM _ _ _ _ _ _ a.defers _ _
      rw [ha.defers]
      refine ⟨by simp, .inl ⟨_, _, rfl, run_takeDeferred hK, ?_⟩⟩
      have hne : g ≠ D := fun e' => by subst e'; rw [show w.heap[g]? = _ from hg] at hK; cases hK
      have hg' : Blk (w.putObj D (.deferred none)) g e cs := (World.putObj_heap_other hne).trans hg
      exact ⟨_, results_cell_row hr _ _ _ _ _ _ _ (getD_of (ha.has _ _ hv)) hg' hu hd (by rw [hz]; exact hs), hR⟩))
/-! An iterator's region that calls yield. -/
section
variable {P : Program} {ops : Array Oper} {Q : Exit → Act → World → Prop} {rest : List Oper} {N : Nd} {L : List (Nat × Value)} {w : World} {n : Nat}
def WLI (n : Nat) (P : Program) (ops : Array Oper) (Q : Exit → Act → World → Prop) (l : List Oper) (N : Nd) (L : List (Nat × Value)) (w : World) : Prop := ∀ a, Fr N L a → wpListIn Fence.wide n P ops Q l a w
theorem wci_region (n : Nat) {id : Nat} {l : List Oper} (h : WLI n P l.toArray Q l N L w) : WC P Q (.region id l.toArray false) N L w := fun a ha => (wpIn_wide (n := n)).1 (wpIn_region_lit (h a ha))
theorem wli_nil (h : WQ Q .normal N L w) : WLI n P ops Q [] N L w := h
theorem wli_y {op : Op} {ty : TypeId} {v : Value} {d : Tmp} {pos : String} {after : Array Edge} (h : Y P L w op ty v) (hd : Nat.ble (d + 1) N.n = true) (hr : WLI n P ops Q rest N ((d, v) :: L) w) :
    WLI n P ops Q (⟨some d, op, ty, pos, after, none⟩ :: rest) N L w := by
  intro a ha
  refine wpListIn_plain rfl fun K hK => ⟨fun _ _ => trivial, ?_⟩
  rw [show Fence.wide.round = none from rfl, Oper.semAt_none, h a.eval (fun _ _ hx => ha.ev hx) w (Ext.refl w)]
  exact hK _ _ (hr _ (ha.put hd v))
theorem wli_yield {x y : Operand} {ats : Array TypeId} {ty : TypeId} {u : Value} {lp : Nat} {R : Ending → World → Prop} {d : Tmp} {pos : String} {after : Array Edge} (hx : ev L x = some (.func (.yield lp) #[] #[])) (hy : ev L y = some u)
    (h : YieldAt Fence.wide (n - 1) P lp #[u] w R) (hd : Nat.ble (d + 1) N.n = true) (hr : ∀ e w', R e w' → ∃ v, e = .returned v ∧ WLI n P ops Q rest N ((d, v) :: L) w') :
    WLI n P ops Q (⟨some d, .call { callee := .value x, args := #[y], argTypes := ats }, ty, pos, after, none⟩ :: rest) N L w := by
  intro a ha
  refine wpListIn_plain rfl fun K hK => ⟨fun _ _ => trivial, ?_⟩
  obtain ⟨fn, tmps, assign, body, hy', hR⟩ := h
  rw [show Fence.wide.round = none from rfl, Oper.semAt_none]
  have e : (execOp a.eval ⟨some d, .call { callee := .value x, args := #[y], argTypes := ats }, ty, pos, after, none⟩).run P w = .ok (.round lp fn tmps assign body) w := by
    simp [execOp, resolve, invoke, Deferred.ofValue, ha.ev hx, ha.ev hy, hy']
  rw [e]
  refine ⟨fun e => by simp [Fence.wide] at e, hR.mono ?_⟩
  intro e w' hr'
  obtain ⟨v, rfl, hv⟩ := hr e w' hr'
  exact hK _ _ (hv _ (ha.put hd v))
end
theorem yield_bool {F : Fence} {m : Nat} {P : Program} {l : Nat} {args : Array Value} {W : World} {Rt Rf : World → Prop} (h : YieldAt F m P l args W fun e W' => (e = .returned (.bool true) ∧ Rt W') ∨ (e = .returned (.bool false) ∧ Rf W')) :
    YieldAt F m P l args W fun e W' => ∃ b, e = .returned (.bool b) ∧ (b = true → Rt W') ∧ (b = false → Rf W') := by
  obtain ⟨fn, tmps, assign, body, hy, hR⟩ := h
  refine ⟨fn, tmps, assign, body, hy, hR.mono ?_⟩
  rintro e w' (⟨rfl, h⟩ | ⟨rfl, h⟩)
  · exact ⟨true, rfl, fun _ => h, fun e => by cases e⟩
  · exact ⟨false, rfl, fun e => (by cases e), fun _ => h⟩
theorem y_cutlhm {P : Program} {L : List (Nat × Value)} {w : World} {t ty e : TypeId} {x y z u : Operand} {g o n c' j h m s : Nat} {k k2 k3 : IntKind} {a b d : Int} (hx : ev L x = some (.slice (some ⟨g, o, none⟩) n c')) (hy : ev L y = some (.int k a)) (hz : ev L z = some (.int k2 b)) (hv : ev L u = some (.int k3 d)) (hu : P.underlying t = some (.slice e)) (hs : (P.info? e).map (·.size) = some s) (ha : a = (j : Int)) (hb' : b = (h : Int)) (hd : d = (m : Int)) (hj : j ≤ h) (hh : h ≤ m) (hm : m ≤ c') (hjm : j < m) :
    Y P L w (.slice t x (some y) (some z) (some u)) ty (.slice (some ⟨g, o + j * s, none⟩) (h - j) (m - j)) := fun ρ hρ w' _ _ _ _ _ => by
  subst ha; subst hb'; subst hd
  have hb : ((Instr.sliceBounds true n c' (some (.int k j)) (some (.int k2 h)) (some (.int k3 m))).run P w') = .ok (j, h, m) w' := by
    simp [Instr.sliceBounds, Instr.sliceBound, asIntOf, hj, hh, hm]
  have hne : ¬ (m = j) := by omega
  simp [execOp, hρ _ _ hx, hρ _ _ hy, hρ _ _ hz, hρ _ _ hv, Instr.sliceAt, Instr.slice, run_underlying hu, hb, size_of_info hs, hne, Addr.add]
end Go.Proofs.Ytbcbihdfpkeacaa
