/- A region that draws its order, by a base: all that is turned in it was made in it; what makes memory of nothing floats till it is wanted. No conditions: plain lemmas of the model. -/
import Derived.Test.YtbcbihdfpkeacaaVc8
namespace Go.Proofs.Ytbcbihdfpkeacaa
open Go.RowKit
section
variable {P : Program} {ops : Array Oper} {Q : Exit → Act → World → Prop} {N : Nd} {L : List (Nat × Value)} {w w0 : World}

/-- Whatever order is picked from here on; all that was there at the base stays. -/
def wpN (P : Program) (ops : Array Oper) (Q : Exit → Act → World → Prop) (w0 : World) : Nat → Array Bool → Act → World → Prop
  | 0, listed, a, w => Region.ready .any ops listed = [] ∧ Q .normal a w
  | n + 1, listed, a, w => (Region.ready .any ops listed = [] → Q .normal a w) ∧
      ∀ i ∈ Region.ready .any ops listed, wpOp P ops Q i (fun a' w' => Ext w0 w' ∧ wpN P ops Q w0 n (listed.setIfInBounds i true) a' w') a w
theorem wpN_any : ∀ (n : Nat) (listed : Array Bool) (a : Act) (w : World), wpN P ops Q w0 n listed a w → wpAny P .any ops Q n listed a w
  | 0, _, _, _, h => h
  | n + 1, _, _, _, h => ⟨h.1, fun i hi => wpOp_mono (fun a' w' h' => wpN_any n _ a' w' h'.2) (h.2 i hi)⟩

theorem wpN_first {i : Nat} {oi : Oper} {v : Value} (D : Nat → Bool) (hi : ops[i]? = some oi) (hsel : ∀ (j : Nat) (o : Oper) cs b, ops[j]? = some o → o.op ≠ .select cs b)
    (hQ : ∀ c a w, Q (.panic c) (a.put oi.dst v) w → Q (.panic c) a w) :
    ∀ (n : Nat) (listed : Array Bool) (a : Act) (w : World), Ext w0 w →
      (∀ j oj, ops[j]? = some oj → j ≠ i → listed.getD j true = false → D j = true → ∃ e ∈ oj.after, Region.binds .any e = true ∧ (e.on = i ∨ D e.on = true ∧ listed.getD e.on true = false)) →
      (∀ j oj, ops[j]? = some oj → j ≠ i → listed.getD j true = false → D j = false → oi.apart ops oj = true) →
      i ∈ Region.ready .any ops listed → YieldsIf P ops (fun w' => Ext w0 w') oi v a →
      wpN P ops Q w0 n (listed.setIfInBounds i true) (a.put oi.dst v) w → wpN P ops Q w0 (n + 1) listed a w := by
  intro n
  induction n with
  | zero =>
    intro listed a w hx0 _ _ hr hy H
    refine ⟨fun h => (by rw [h] at hr; cases hr), fun j hj => ?_⟩
    by_cases hji : j = i
    · subst hji; exact hy.wpOp hi hx0 ⟨hx0, H⟩
    · have := ready_mono hj hji
      rw [H.1] at this
      cases this
  | succ n ih =>
    intro listed a w hx0 hdep hfree hr hy H
    refine ⟨fun h => (by rw [h] at hr; cases hr), fun j hj => ?_⟩
    by_cases hji : j = i
    · subst hji; exact hy.wpOp hi hx0 ⟨hx0, H⟩
    · have h1 := H.2 j (ready_mono hj hji)
      obtain ⟨hjun, oj, hoj, hall⟩ := mem_ready.1 hj
      have hDj : D j = false := by
        cases hd : D j with
        | false => rfl
        | true =>
          exfalso
          obtain ⟨e, he, hb, hor⟩ := hdep j oj hoj hji hjun hd
          have h1 := hall e he hb
          rcases hor with heq | ⟨_, hun⟩
          · have h0 := (mem_ready.1 hr).1
            rw [heq] at h1
            rcases Nat.lt_or_ge i listed.size with h' | h'
            · simp [h'] at h0 h1; rw [h0] at h1; cases h1
            · simp [Array.getElem?_eq_none h'] at h1
          · rcases Nat.lt_or_ge e.on listed.size with h' | h'
            · simp [h'] at hun h1; rw [hun] at h1; cases h1
            · simp [Array.getElem?_eq_none h'] at h1
      have hap := hfree j oj hoj hji hjun hDj
      have h2 := wpOp_putIf hoj hap (fun cs b => hsel i oi cs b hi) (fun cs b => hsel j oj cs b hoj) hQ hy h1
      have back : ∀ k, (listed.setIfInBounds j true).getD k true = false → listed.getD k true = false := fun k hun => by
        by_cases hjk : j = k
        · subst hjk; exact hjun
        · rwa [getD_set_ne true hjk] at hun
      have hdep' : ∀ k ok, ops[k]? = some ok → k ≠ i → (listed.setIfInBounds j true).getD k true = false → D k = true → ∃ e ∈ ok.after, Region.binds .any e = true ∧ (e.on = i ∨ D e.on = true ∧ (listed.setIfInBounds j true).getD e.on true = false) := fun k ok hk hki hun hd => by
        obtain ⟨e, he, hb, hor⟩ := hdep k ok hk hki (back k hun) hd
        refine ⟨e, he, hb, hor.imp id fun ⟨h3, h4⟩ => ⟨h3, ?_⟩⟩
        have hne : j ≠ e.on := by rintro rfl; rw [hDj] at h3; cases h3
        rw [getD_set_ne true hne]; exact h4
      have hfree' : ∀ k ok, ops[k]? = some ok → k ≠ i → (listed.setIfInBounds j true).getD k true = false → D k = false → oi.apart ops ok = true := fun k ok hk hki hun hd =>
        hfree k ok hk hki (back k hun) hd
      refine wpOp_mono (fun a' w' h3 => ?_) h2
      obtain ⟨hy', hx, hrest⟩ := h3
      refine ⟨hx, ih (listed.setIfInBounds j true) a' w' hx hdep' hfree' (ready_mono hr (Ne.symm hji)) hy' ?_⟩
      rw [Array.setIfInBounds_comm _ _ hji]
      exact hrest

/-- The judgement: n operations are still to come. -/
def WN (P : Program) (ops : Array Oper) (Q : Exit → Act → World → Prop) (w0 : World) (n : Nat) (listed : Array Bool) (N : Nd) (L : List (Nat × Value)) (w : World) : Prop := ∀ a, Fr N L a → Ext w0 w → wpN P ops Q w0 n listed a w

theorem wc_drawB {id : Nat} {l : List Oper} (hm : P.follows .mixedOrders = true) (n : Nat) (hn : l.length = n) (h : ∀ w', Ext w w' → w'.heap = w.heap → WN P l.toArray (NoP Q) w' n (Array.replicate n false) N L w') : WC P Q (.region id l.toArray true) N L w := by
  intro a ha
  subst hn
  have h1 : (Code.region id l.toArray true).wp P (NoP Q) a w := by
    refine wp_region_any hm (wpN_any (w0 := w.drew) _ _ _ _ ?_)
    rw [List.size_toArray]
    exact h _ (Ext.drew w) rfl a ha (Ext.refl _)
  refine wp_mono h1 fun e a w hq => ?_
  cases e <;> first | exact hq | exact hq.elim
theorem wn_done {n : Nat} {listed : Array Bool} (hr : Region.ready .any ops listed = []) (h : WQ Q .normal N L w) : WN P ops Q w0 n listed N L w := by
  intro a ha _
  cases n with
  | zero => exact ⟨hr, h a ha⟩
  | succ n => exact ⟨fun _ => h a ha, by rw [hr]; simp⟩
theorem wn_take {n : Nat} {listed : Array Bool} {i : Nat} {oi : Oper} {v : Value} (hi : ops[i]? = some oi) (hf : freeZ .any ops listed i = true)
    (hy : ∀ a, Fr N L a → YieldsIf P ops (fun w' => Ext w0 w') oi v a) (hd : dOk N oi.dst = true) (h : WN P ops (NoP Q) w0 n (listed.setIfInBounds i true) N (pushd oi.dst v L) w) : WN P ops (NoP Q) w0 (n + 1) listed N L w := by
  intro a ha hx
  unfold freeZ at hf
  generalize depSet .any ops listed i = D at hf
  simp only [freeByZ, hi, Bool.and_eq_true, List.all_eq_true, List.mem_range, Bool.or_eq_true, beq_iff_eq] at hf
  obtain ⟨⟨h1, h2⟩, h4⟩ := hf
  have key : ∀ j oj, ops[j]? = some oj → j ≠ i → listed.getD j true = false → cond (D.getD j false) (oj.after.any fun e => Region.binds .any e && (e.on == i || (D.getD e.on false && !listed.getD e.on true))) (oi.apart ops oj) = true := fun j oj hj hne hun => by
    have := h2 j (Array.getElem?_eq_some_iff.1 hj).1
    rcases this with h | h | h
    · exact absurd h hne
    · rw [hun] at h; cases h
    · simpa [hj] using h
  refine wpN_first (fun j => D.getD j false) hi (Region.noSelect_spec h1) (fun c a w h => h) n listed a w hx (fun j oj hj hne hun hd => ?_) (fun j oj hj hne hun hd => ?_) (by simpa using h4) (hy a ha) (h _ (ha.putd hd v) hx)
  · have k := key j oj hj hne hun
    rw [hd, cond_true] at k
    obtain ⟨e, he, hb⟩ := Array.any_eq_true'.1 k
    simp only [Bool.and_eq_true, Bool.or_eq_true, beq_iff_eq, Bool.not_eq_true'] at hb
    exact ⟨e, he, hb.1, hb.2⟩
  · have k := key j oj hj hne hun
    rwa [hd, cond_false] at k
section
variable {n : Nat} {listed : Array Bool} (i : Nat) {op : Op} {ty : TypeId} {v : Value} {dst : Option Tmp} {pos : String} {after : Array Edge} {j : Nat} {b b' : Bool}
theorem wn_y (hi : ops[i]? = some ⟨dst, op, ty, pos, after, none⟩) (hf : freeZ .any ops listed i = true) (h : Y P L w0 op ty v) (hd : dOk N dst = true)
    (hr : WN P ops (NoP Q) w0 n (listed.setIfInBounds i true) N (pushd dst v L) w) : WN P ops (NoP Q) w0 (n + 1) listed N L w :=
  wn_take hi hf (fun a ha => .inl ⟨rfl, fun w' e => h a.eval (fun _ _ hx => ha.ev hx) w' e _ _ _ _⟩) hd hr
theorem wn_gy (hi : ops[i]? = some ⟨dst, op, ty, pos, after, some (j, b)⟩) (hf : freeZ .any ops listed i = true)
    (t : Tmp) (hj : (ops[j]?).bind (·.dst) = some t) (ht : look L t = some (.bool b)) (h : Y P L w0 op ty v) (hd : dOk N dst = true)
    (hr : WN P ops (NoP Q) w0 n (listed.setIfInBounds i true) N (pushd dst v L) w) : WN P ops (NoP Q) w0 (n + 1) listed N L w :=
  wn_take hi hf (fun a ha => .inl ⟨by rw [wanted_of ha hj ht]; simp, fun w' e => h a.eval (fun _ _ hx => ha.ev hx) w' e _ _ _ _⟩) hd hr
theorem wn_gno (hi : ops[i]? = some ⟨dst, op, ty, pos, after, some (j, b')⟩) (hf : freeZ .any ops listed i = true)
    (t : Tmp) (hj : (ops[j]?).bind (·.dst) = some t) (ht : look L t = some (.bool b)) (hb : (b == b') = false) (hd : dOk N dst = true)
    (hr : WN P ops (NoP Q) w0 n (listed.setIfInBounds i true) N (pushd dst undef L) w) : WN P ops (NoP Q) w0 (n + 1) listed N L w :=
  wn_take hi hf (fun a ha => .inr ⟨by rw [wanted_of ha hj ht, hb], rfl⟩) hd hr
theorem wn_gun (hi : ops[i]? = some ⟨dst, op, ty, pos, after, some (j, b')⟩) (hf : freeZ .any ops listed i = true)
    (t : Tmp) (hj : (ops[j]?).bind (·.dst) = some t) (ht : look L t = some undef) (hd : dOk N dst = true)
    (hr : WN P ops (NoP Q) w0 n (listed.setIfInBounds i true) N (pushd dst undef L) w) : WN P ops (NoP Q) w0 (n + 1) listed N L w :=
  wn_take hi hf (fun a ha => .inr ⟨wanted_un ha hj ht, rfl⟩) hd hr
end
/-- One of those that may come up: what it does. -/
def OpN (P : Program) (ops : Array Oper) (Q : Exit → Act → World → Prop) (w0 : World) (n : Nat) (listed : Array Bool) (i : Nat) (N : Nd) (L : List (Nat × Value)) (w : World) : Prop :=
  ∀ a, Fr N L a → Ext w0 w → wpOp P ops Q i (fun a' w' => Ext w0 w' ∧ wpN P ops Q w0 n (listed.setIfInBounds i true) a' w') a w
theorem wn_all {n : Nat} {listed : Array Bool} (rs : List Nat) (hr : Region.ready .any ops listed = rs) (hne : rs.isEmpty = false) (h : ∀ i ∈ rs, OpN P ops Q w0 n listed i N L w) : WN P ops Q w0 (n + 1) listed N L w := by
  intro a ha hx
  refine ⟨fun h0 => ?_, fun i hi => h i (hr ▸ hi) a ha hx⟩
  rw [hr] at h0
  rw [h0] at hne
  cases hne
theorem wn_one {n : Nat} {listed : Array Bool} (i : Nat) (hr : Region.ready .any ops listed = [i]) (h : OpN P ops Q w0 n listed i N L w) : WN P ops Q w0 (n + 1) listed N L w :=
  wn_all [i] hr rfl (fun k hk => by simp only [List.mem_singleton] at hk; subst hk; exact h)
theorem wn_two {n : Nat} {listed : Array Bool} (i j : Nat) (hr : Region.ready .any ops listed = [i, j]) (h : OpN P ops Q w0 n listed i N L w) (h' : OpN P ops Q w0 n listed j N L w) : WN P ops Q w0 (n + 1) listed N L w :=
  wn_all [i, j] hr rfl (fun k hk => by
    simp only [List.mem_cons, List.not_mem_nil, or_false] at hk
    rcases hk with hk | hk <;> subst hk
    · exact h
    · exact h')
theorem on_ef {n : Nat} {listed : Array Bool} {i : Nat} {op : Op} {ty : TypeId} {Φ : Value → World → Prop} {dst : Option Tmp} {pos : String} {after : Array Edge} (hi : ops[i]? = some ⟨dst, op, ty, pos, after, none⟩) (h : Ef P L w op ty Φ) (hd : dOk N dst = true)
    (hr : ∀ v w', Φ v w' → Ext w0 w' ∧ WN P ops Q w0 n (listed.setIfInBounds i true) N (pushd dst v L) w') : OpN P ops Q w0 n listed i N L w := by
  intro a ha hx
  unfold wpOp
  simp only [hi]
  rw [if_pos (by simp [Region.wanted])]
  exact .inl (h a N ha _ _ _ _ _ _ fun v w' hv => ⟨(hr v w' hv).1, (hr v w' hv).2 _ (ha.putd hd v) (hr v w' hv).1⟩)
theorem on_gef {n : Nat} {listed : Array Bool} {i : Nat} {op : Op} {ty : TypeId} {Φ : Value → World → Prop} {dst : Option Tmp} {pos : String} {after : Array Edge} {j : Nat} {b : Bool} (hi : ops[i]? = some ⟨dst, op, ty, pos, after, some (j, b)⟩)
    (t : Tmp) (hj : (ops[j]?).bind (·.dst) = some t) (ht : look L t = some (.bool b)) (h : Ef P L w op ty Φ) (hd : dOk N dst = true)
    (hr : ∀ v w', Φ v w' → Ext w0 w' ∧ WN P ops Q w0 n (listed.setIfInBounds i true) N (pushd dst v L) w') : OpN P ops Q w0 n listed i N L w := by
  intro a ha hx
  unfold wpOp
  simp only [hi]
  rw [if_pos (by rw [wanted_of ha hj ht]; simp)]
  exact .inl (h a N ha _ _ _ _ _ _ fun v w' hv => ⟨(hr v w' hv).1, (hr v w' hv).2 _ (ha.putd hd v) (hr v w' hv).1⟩)
section
variable {f : FuncId} {xs : List Operand} {ats : Array TypeId} {vs : List Value} {R : Ending → World → Prop} {fn : Func} {c : Code} {ty : TypeId} {dst : Option Tmp} {pos : String} {after : Array Edge}
theorem on_call {n : Nat} {listed : Array Bool} {i : Nat} (hi : ops[i]? = some ⟨dst, .call { callee := .value (.func f), args := xs.toArray, argTypes := ats }, ty, pos, after, none⟩) (hf : P.funcs[f]? = some fn) (hb : fn.body = some c) (hn : (fn.name == "runtime.NumGoroutine") = false) (hx : evs L xs = some vs) (h : Calls P f vs.toArray w R) (hd : dOk N dst = true)
    (hr : ∀ e w', R e w' → ∃ v, e = .returned v ∧ Ext w0 w' ∧ WN P ops Q w0 n (listed.setIfInBounds i true) N (pushd dst v L) w') : OpN P ops Q w0 n listed i N L w :=
  on_ef hi (ef_of_call hf hb hn hx h hr) hd fun _ _ hv => hv
theorem on_gcall {n : Nat} {listed : Array Bool} {i : Nat} {j : Nat} {b : Bool} (hi : ops[i]? = some ⟨dst, .call { callee := .value (.func f), args := xs.toArray, argTypes := ats }, ty, pos, after, some (j, b)⟩) (t : Tmp) (hj : (ops[j]?).bind (·.dst) = some t) (ht : look L t = some (.bool b)) (hf : P.funcs[f]? = some fn) (hb : fn.body = some c) (hn : (fn.name == "runtime.NumGoroutine") = false) (hx : evs L xs = some vs) (h : Calls P f vs.toArray w R) (hd : dOk N dst = true)
    (hr : ∀ e w', R e w' → ∃ v, e = .returned v ∧ Ext w0 w' ∧ WN P ops Q w0 n (listed.setIfInBounds i true) N (pushd dst v L) w') : OpN P ops Q w0 n listed i N L w :=
  on_gef hi t hj ht (ef_of_call hf hb hn hx h hr) hd fun _ _ hv => hv
end
/-! What floats: operations that make memory of nothing, ready from the beginning, taken in where they are wanted. -/
/-- The block that a value points into. -/
def vblk : Value → Option Nat
  | .pointer (some A) => some A.block
  | .slice (some A) _ _ => some A.block
  | _ => none
structure Fl where
  i : Nat
  d : Tmp
  R : Value → World → Prop
/-- It can be run in any world behind the base, and leaves what stays. -/
def Fl.Runs (P : Program) (ops : Array Oper) (w0 : World) (f : Fl) : Prop :=
  (∀ v w1 w2, f.R v w1 → Ext w1 w2 → f.R v w2) ∧
  ∃ op ty pos after, ops[f.i]? = some ⟨some f.d, op, ty, pos, after, none⟩ ∧ ∀ w1, Ext w0 w1 → Ef P [] w1 op ty fun v w2 => Ext w1 w2 ∧ f.R v w2 ∧ ∀ b, vblk v = some b → w1.heap.size ≤ b ∧ b < w2.heap.size
/-- Some have been run. -/
abbrev FlS := List (Fl × Option Value)
def listedOf (listed : Array Bool) : FlS → Array Bool
  | [] => listed
  | (f, o) :: st => if o.isSome then (listedOf listed st).setIfInBounds f.i true else listedOf listed st
def allOf (listed : Array Bool) : List Fl → Array Bool
  | [] => listed
  | f :: fl => (allOf listed fl).setIfInBounds f.i true
def undone : FlS → Nat
  | [] => 0
  | (_, o) :: st => (if o.isSome then 0 else 1) + undone st
def flHas (w0 : World) (a : Act) (w : World) (st : FlS) : Prop := ∀ p ∈ st, ∀ v, p.2 = some v → a.tmps[p.1.d]? = some v ∧ p.1.R v w ∧ ∀ b, vblk v = some b → w0.heap.size ≤ b ∧ b < w.heap.size
def flApart : FlS → Prop
  | [] => True
  | p :: st => (∀ q ∈ st, ∀ v u b, p.2 = some v → q.2 = some u → vblk v = some b → vblk u = some b → False) ∧ flApart st
/-- Where it stands: whatever has been run of what floats. -/
def WF (P : Program) (ops : Array Oper) (Q : Exit → Act → World → Prop) (w0 : World) (fl : List Fl) (n : Nat) (listed : Array Bool) (N : Nd) (L : List (Nat × Value)) (w : World) : Prop :=
  ∀ (st : FlS) (a : Act) (w1 : World), st.map (·.1) = fl → Fr N L a → Ext w w1 → Ext w0 w1 → flHas w0 a w1 st → flApart st → wpN P ops Q w0 (n + undone st) (listedOf listed st) a w1
theorem listed_set (listed : Array Bool) (j : Nat) : ∀ (st : FlS), (∀ p ∈ st, p.1.i ≠ j) → listedOf (listed.setIfInBounds j true) st = (listedOf listed st).setIfInBounds j true
  | [], _ => rfl
  | (f, o) :: st, h => by
    have ih := listed_set listed j st (fun p hp => h p (List.mem_cons_of_mem _ hp))
    have hne := h (f, o) List.mem_cons_self
    simp only [listedOf]
    split
    · rw [ih, Array.setIfInBounds_comm _ _ (Ne.symm hne)]
    · exact ih
theorem listed_full (listed : Array Bool) : ∀ (st : FlS), undone st = 0 → listedOf listed st = allOf listed (st.map (·.1))
  | [], _ => rfl
  | (f, o) :: st, h => by
    simp only [undone] at h
    have ho : o.isSome = true := by
      cases e : o.isSome with
      | true => rfl
      | false => simp [e] at h
    simp only [listedOf, ho, if_true, List.map_cons, allOf]
    rw [listed_full listed st (by omega)]
theorem ready_set {listed : Array Bool} {i j : Nat} (h : i ∈ Region.ready .any ops listed) (hne : i ≠ j) : i ∈ Region.ready .any ops (listed.setIfInBounds j true) := ready_mono h hne
theorem ready_listed {listed : Array Bool} {i : Nat} : ∀ (st : FlS), i ∈ Region.ready .any ops listed → (∀ p ∈ st, p.2.isSome = true → p.1.i ≠ i) → i ∈ Region.ready .any ops (listedOf listed st)
  | [], h, _ => h
  | (f, o) :: st, h, hne => by
    have ih := ready_listed st h (fun p hp => hne p (List.mem_cons_of_mem _ hp))
    simp only [listedOf]
    split
    · rename_i ho
      exact ready_set ih (Ne.symm (hne (f, o) List.mem_cons_self ho))
    · exact ih
theorem ready_all {listed : Array Bool} {i : Nat} : ∀ (st : FlS), i ∈ Region.ready .any ops (listedOf listed st) → (∀ p ∈ st, p.1.i ≠ i) → i ∈ Region.ready .any ops (allOf listed (st.map (·.1)))
  | [], h, _ => h
  | (f, o) :: st, h, hne => by
    have hne' := fun p hp => hne p (List.mem_cons_of_mem _ hp)
    have h0 := hne (f, o) List.mem_cons_self
    simp only [List.map_cons, allOf]
    simp only [listedOf] at h
    split at h
    · -- it is on both sides: one less
      have key : ∀ (st : FlS) (l : Array Bool), (∀ p ∈ st, p.1.i ≠ i) → i ∈ Region.ready .any ops (listedOf l st) → i ∈ Region.ready .any ops (allOf l (st.map (·.1))) := by
        intro st
        induction st with
        | nil => intro l _ h; exact h
        | cons p st ih =>
          obtain ⟨g, u⟩ := p
          intro l hl h
          have hl' := fun p hp => hl p (List.mem_cons_of_mem _ hp)
          have hg := hl (g, u) List.mem_cons_self
          simp only [List.map_cons, allOf]
          simp only [listedOf] at h
          have comm : ∀ (l : Array Bool) (k : Nat) (fl : List Fl), (allOf l fl).setIfInBounds k true = allOf (l.setIfInBounds k true) fl := by
            intro l k fl
            induction fl with
            | nil => rfl
            | cons f fl ihf =>
              simp only [allOf]
              rw [← ihf]
              by_cases e : f.i = k
              · subst e; rfl
              · exact Array.setIfInBounds_comm _ _ e
          have comm2 : ∀ (l : Array Bool) (k : Nat) (st : FlS), (listedOf l st).setIfInBounds k true = listedOf (l.setIfInBounds k true) st := by
            intro l k st
            induction st with
            | nil => rfl
            | cons f st ihf =>
              obtain ⟨f, o⟩ := f
              simp only [listedOf]
              split
              · rw [← ihf]
                by_cases e : f.i = k
                · subst e; rfl
                · exact Array.setIfInBounds_comm _ _ e
              · exact ihf
          rw [comm]
          split at h
          · rw [comm2] at h
            exact ih _ hl' h
          · refine ih _ hl' ?_
            rw [← comm2]
            exact ready_set h (Ne.symm hg)
      have := key ((f, o) :: st) listed hne (by simp only [listedOf]; rw [if_pos (by assumption)]; exact h)
      simpa only [List.map_cons, allOf] using this
    · exact ready_set (ready_all st h hne') (Ne.symm h0)
/-- One more is run. -/
def flPut (v : Value) : FlS → Nat → FlS
  | [], _ => []
  | (f, o) :: st, 0 => (f, some v) :: st
  | p :: st, k + 1 => p :: flPut v st k
theorem flPut_map (v : Value) : ∀ (st : FlS) (k : Nat), (flPut v st k).map (·.1) = st.map (·.1)
  | [], _ => rfl
  | (_, _) :: _, 0 => rfl
  | p :: st, k + 1 => by simp only [flPut, List.map_cons, flPut_map v st k]
theorem flPut_undone (v : Value) : ∀ (st : FlS) (k : Nat) (f : Fl), st[k]? = some (f, none) → undone (flPut v st k) + 1 = undone st
  | [], _, _, h => by simp at h
  | (g, o) :: st, 0, f, h => by
    simp only [List.getElem?_cons_zero, Option.some.injEq, Prod.mk.injEq] at h
    obtain ⟨rfl, rfl⟩ := h
    simp [flPut, undone]; omega
  | p :: st, k + 1, f, h => by
    simp only [List.getElem?_cons_succ] at h
    have := flPut_undone v st k f h
    obtain ⟨g, o⟩ := p
    simp only [flPut, undone]; omega
theorem flPut_listed (v : Value) (listed : Array Bool) : ∀ (st : FlS) (k : Nat) (f : Fl), st[k]? = some (f, none) → (st.map (·.1.i)).Nodup → listedOf listed (flPut v st k) = (listedOf listed st).setIfInBounds f.i true
  | [], _, _, h, _ => by simp at h
  | (g, o) :: st, 0, f, h, _ => by
    simp only [List.getElem?_cons_zero, Option.some.injEq, Prod.mk.injEq] at h
    obtain ⟨rfl, rfl⟩ := h
    simp [flPut, listedOf]
  | (g, o) :: st, k + 1, f, h, hn => by
    simp only [List.getElem?_cons_succ] at h
    simp only [List.map_cons, List.nodup_cons] at hn
    have ih := flPut_listed v listed st k f h hn.2
    simp only [flPut, listedOf]
    have hmem : f.i ∈ st.map (·.1.i) := List.mem_map.2 ⟨(f, none), List.mem_of_getElem? h, rfl⟩
    have hne : g.i ≠ f.i := fun e => hn.1 (e ▸ hmem)
    split
    · rw [ih, Array.setIfInBounds_comm _ _ (Ne.symm hne)]
    · exact ih
theorem flPut_mem (v : Value) : ∀ (st : FlS) (k : Nat) (f : Fl), st[k]? = some (f, none) → ∀ p ∈ flPut v st k, p = (f, some v) ∨ p ∈ st
  | [], _, _, h, _, _ => by simp at h
  | (g, o) :: st, 0, f, h, p, hp => by
    simp only [List.getElem?_cons_zero, Option.some.injEq, Prod.mk.injEq] at h
    obtain ⟨rfl, rfl⟩ := h
    simp only [flPut, List.mem_cons] at hp
    exact hp.imp id (fun h => List.mem_cons_of_mem _ h)
  | (g, o) :: st, k + 1, f, h, p, hp => by
    simp only [List.getElem?_cons_succ] at h
    simp only [flPut, List.mem_cons] at hp
    rcases hp with rfl | hp
    · exact .inr List.mem_cons_self
    · exact (flPut_mem v st k f h p hp).imp id (fun h => List.mem_cons_of_mem _ h)
theorem flPut_apart (v : Value) : ∀ (st : FlS) (k : Nat) (f : Fl), st[k]? = some (f, none) → flApart st → (∀ q ∈ st, ∀ u b, q.2 = some u → vblk u = some b → vblk v = some b → False) → flApart (flPut v st k)
  | [], _, _, h, _, _ => by simp at h
  | (g, o) :: st, 0, f, h, ha, hv => by
    refine ⟨fun q hq v' u b h1 h2 h3 h4 => ?_, ha.2⟩
    simp only [Option.some.injEq] at h1
    subst h1
    exact hv q (List.mem_cons_of_mem _ hq) u b h2 h4 h3
  | (g, o) :: st, k + 1, f, h, ha, hv => by
    simp only [List.getElem?_cons_succ] at h
    refine ⟨fun q hq v' u b h1 h2 h3 h4 => ?_, flPut_apart v st k f h ha.2 (fun q hq => hv q (List.mem_cons_of_mem _ hq))⟩
    rcases flPut_mem v st k f h q hq with rfl | hq
    · simp only [Option.some.injEq] at h2
      subst h2
      exact hv (g, o) List.mem_cons_self v' b h1 h3 h4
    · exact ha.1 q hq v' u b h1 h2 h3 h4
theorem Fr.far {a : Act} (h : Fr N L a) {d : Nat} (hd : look L d = none) (v : Value) : Fr N L (a.put (some d) v) := by
  refine ⟨by simp [Act.put, h.size], h.defers, fun t u hu => ?_⟩
  have hne : d ≠ t := fun e => by subst e; rw [hd] at hu; cases hu
  simp only [Act.put]
  rw [Array.getElem?_setIfInBounds_ne hne]
  exact h.has t u hu
theorem put_at {a : Act} {d : Nat} (hd : d < a.tmps.size) (v : Value) : (a.put (some d) v).tmps[d]? = some v := by
  simp [Act.put, hd]
theorem put_ne {a : Act} {d t : Nat} (hne : d ≠ t) (v : Value) : (a.put (some d) v).tmps[t]? = a.tmps[t]? := by
  simp only [Act.put]; rw [Array.getElem?_setIfInBounds_ne hne]
theorem putd_ne {a : Act} {dst : Option Tmp} {t : Nat} (hne : dst ≠ some t) (v : Value) : (a.put dst v).tmps[t]? = a.tmps[t]? := by
  cases dst with
  | none => rfl
  | some d => exact put_ne (fun e => hne (by rw [e])) v
/-- What is said of the list of what floats. -/
structure FlOk (P : Program) (ops : Array Oper) (w0 : World) (fl : List Fl) (listed : Array Bool) (N : Nd) (L : List (Nat × Value)) : Prop where
  runs : ∀ f ∈ fl, Fl.Runs P ops w0 f
  is : (fl.map (·.i)).Nodup
  ds : (fl.map (·.d)).Nodup
  slot : ∀ f ∈ fl, look L f.d = none ∧ f.d < N.n
  rdy : ∀ f ∈ fl, f.i ∈ Region.ready .any ops listed
theorem fl_at {fl : List Fl} {st : FlS} (hst : st.map (·.1) = fl) {p : Fl × Option Value} (hp : p ∈ st) : p.1 ∈ fl := hst ▸ List.mem_map.2 ⟨p, hp, rfl⟩
theorem fl_is {fl : List Fl} {st : FlS} (hst : st.map (·.1) = fl) (hn : (fl.map (·.i)).Nodup) : (st.map (·.1.i)).Nodup := by
  subst hst; simpa [List.map_map, Function.comp_def] using hn
theorem nodup_at {α β : Type} {f : α → β} : ∀ {l : List α}, (l.map f).Nodup → ∀ p ∈ l, ∀ q ∈ l, f p = f q → p = q
  | x :: l, h, p, hp, q, hq, e => by
    simp only [List.map_cons, List.nodup_cons] at h
    rcases List.mem_cons.1 hp with rfl | hp' <;> rcases List.mem_cons.1 hq with rfl | hq'
    · rfl
    · exact absurd (e ▸ List.mem_map.2 ⟨q, hq', rfl⟩) h.1
    · exact absurd (e ▸ List.mem_map.2 ⟨p, hp', rfl⟩) h.1
    · exact nodup_at h.2 p hp' q hq' e
theorem undone_some : ∀ (st : FlS), undone st ≠ 0 → ∃ p ∈ st, p.2 = none
  | [], h => absurd rfl h
  | (f, o) :: st, h => by
    cases o with
    | none => exact ⟨_, List.mem_cons_self, rfl⟩
    | some v =>
      simp only [undone, Option.isSome_some, if_true, Nat.zero_add] at h
      obtain ⟨p, hp, e⟩ := undone_some st h
      exact ⟨p, List.mem_cons_of_mem _ hp, e⟩
theorem fl_ready {fl : List Fl} {listed : Array Bool} {st : FlS} (ok : FlOk P ops w0 fl listed N L) (hst : st.map (·.1) = fl) {p : Fl × Option Value} (hp : p ∈ st) (hn : p.2 = none) : p.1.i ∈ Region.ready .any ops (listedOf listed st) :=
  ready_listed st (ok.rdy _ (fl_at hst hp)) fun q hq hs e => by
    have := nodup_at (fl_is hst ok.is) q hq p hp e
    rw [this, hn] at hs; cases hs
theorem listed_done {listed : Array Bool} {i : Nat} : ∀ (st : FlS), (∃ p ∈ st, p.2.isSome = true ∧ p.1.i = i) → i ∉ Region.ready .any ops (listedOf listed st) := by
  intro st ⟨p, hp, hs, hi⟩ hr
  have h1 := (mem_ready.1 hr).1
  have hsz : ∀ (st : FlS), (listedOf listed st).size = listed.size := by
    intro st
    induction st with
    | nil => rfl
    | cons q st ih =>
      obtain ⟨f, o⟩ := q
      simp only [listedOf]
      split
      · rw [Array.size_setIfInBounds, ih]
      · exact ih
  have key : ∀ (st : FlS), (∃ p ∈ st, p.2.isSome = true ∧ p.1.i = i) → (listedOf listed st).getD i true = true := by
    intro st
    induction st with
    | nil => rintro ⟨p, hp, _⟩; cases hp
    | cons q st ih =>
      obtain ⟨f, o⟩ := q
      rintro ⟨p, hp, hs, hi⟩
      simp only [listedOf]
      by_cases e : f.i = i
      · split
        · rw [e]
          rcases Nat.lt_or_ge i (listedOf listed st).size with h' | h'
          · simp [h']
          · simp [Array.getElem?_eq_none h', h']
        · rename_i ho
          rcases List.mem_cons.1 hp with rfl | hp'
          · exact absurd hs ho
          · exact ih ⟨p, hp', hs, hi⟩
      · have hp' : p ∈ st := by
          rcases List.mem_cons.1 hp with rfl | hp'
          · exact absurd hi e
          · exact hp'
        have := ih ⟨p, hp', hs, hi⟩
        split
        · rw [getD_set_ne true e]; exact this
        · exact this
  rw [key st ⟨p, hp, hs, hi⟩] at h1
  cases h1
/-- One that floats is run now. -/
theorem fl_run {fl : List Fl} {n : Nat} {listed : Array Bool} {st : FlS} {a : Act} {w1 : World} (ok : FlOk P ops w0 fl listed N L) (hst : st.map (·.1) = fl) (ha : Fr N L a) (hx : Ext w w1) (hx0 : Ext w0 w1) (hh : flHas w0 a w1 st) (hap : flApart st)
    (ih : ∀ (st' : FlS) (a' : Act) (w' : World), undone st' + 1 = undone st → st'.map (·.1) = fl → Fr N L a' → Ext w w' → Ext w0 w' → flHas w0 a' w' st' → flApart st' → wpN P ops Q w0 (n + undone st') (listedOf listed st') a' w')
    {p : Fl × Option Value} (hp : p ∈ st) (hn : p.2 = none) : wpOp P ops Q p.1.i (fun a' w' => Ext w0 w' ∧ wpN P ops Q w0 (n + (undone st - 1)) ((listedOf listed st).setIfInBounds p.1.i true) a' w') a w1 := by
  obtain ⟨hs, op, ty, pos, after, hi, hrun⟩ := ok.runs _ (fl_at hst hp)
  obtain ⟨k, hk⟩ := List.getElem?_of_mem hp
  obtain ⟨f, o⟩ := p
  simp only at hn
  subst hn
  unfold wpOp
  simp only [hi]
  rw [if_pos (by simp [Region.wanted])]
  refine .inl (hrun w1 hx0 a N (ha.weak (fun t v hv => by cases hv)) _ _ _ _ _ _ ?_)
  rintro v w' ⟨he, hR, hb⟩
  have hu := flPut_undone v st k f hk
  have hsz := hx0.size
  have hsz' := he.size
  refine ⟨hx0.tr he, ?_⟩
  rw [← flPut_listed v listed st k f hk (fl_is hst ok.is), show n + (undone st - 1) = n + undone (flPut v st k) by omega]
  have hfd := ok.slot f (fl_at hst hp)
  refine ih _ _ _ hu (by rw [flPut_map, hst]) (ha.far hfd.1 v) (hx.tr he) (hx0.tr he) ?_ (flPut_apart v st k f hk hap fun q hq u b h1 h2 h3 => ?_)
  · intro q hq u hu
    rcases flPut_mem v st k f hk q hq with rfl | hq'
    · simp only [Option.some.injEq] at hu
      subst hu
      exact ⟨put_at (by rw [ha.size]; exact hfd.2) v, hR, fun b hb' => by have := hb b hb'; omega⟩
    · obtain ⟨h1, h2, h3⟩ := hh q hq' u hu
      refine ⟨?_, (ok.runs _ (fl_at hst hq')).1 _ _ _ h2 he, fun b hb' => by have := h3 b hb'; omega⟩
      rw [put_ne (fun e => ?_) v]
      · exact h1
      · have hds := ok.ds
        have := nodup_at hds f (fl_at hst hp) q.1 (fl_at hst hq') e
        have h5 := nodup_at (fl_is hst ok.is) (f, none) hp q hq' (by rw [this])
        rw [← h5] at hu; cases hu
  · have := (hh q hq u h1).2.2 b h2
    have := hb b h3
    omega
theorem fl_cases {fl : List Fl} {listed : Array Bool} {st : FlS} (hst : st.map (·.1) = fl) {i : Nat} (hi : i ∈ Region.ready .any ops (listedOf listed st)) : (∃ p ∈ st, p.2 = none ∧ p.1.i = i) ∨ ((∀ p ∈ st, p.1.i ≠ i) ∧ i ∈ Region.ready .any ops (allOf listed fl)) := by
  by_cases h : ∃ p ∈ st, p.1.i = i
  · left
    obtain ⟨p, hp, e⟩ := h
    refine ⟨p, hp, ?_, e⟩
    cases ho : p.2 with
    | none => rfl
    | some v => exact absurd hi (listed_done st ⟨p, hp, by rw [ho]; rfl, e⟩)
  · right
    have h' : ∀ p ∈ st, p.1.i ≠ i := fun p hp e => h ⟨p, hp, e⟩
    exact ⟨h', hst ▸ ready_all st hi h'⟩
theorem wf_step {fl : List Fl} {n : Nat} {listed : Array Bool} {j : Nat} {op : Op} {ty : TypeId} {dst : Option Tmp} {pos : String} {after : Array Edge} (ok : FlOk P ops w0 fl listed N L) (hr : Region.ready .any ops (allOf listed fl) = [j]) (hj : ∀ f ∈ fl, f.i ≠ j)
    (hi : ops[j]? = some ⟨dst, op, ty, pos, after, none⟩) (hdst : ∀ f ∈ fl, dst ≠ some f.d) (hd : dOk N dst = true)
    (h : ∀ w1, Ext w w1 → Ext w0 w1 → Ef P L w1 op ty fun v w' => Ext w1 w' ∧ WF P ops Q w0 fl n (listed.setIfInBounds j true) N (pushd dst v L) w') : WF P ops Q w0 fl (n + 1) listed N L w := by
  have main : ∀ (k : Nat) (st : FlS) (a : Act) (w1 : World), undone st = k → st.map (·.1) = fl → Fr N L a → Ext w w1 → Ext w0 w1 → flHas w0 a w1 st → flApart st → wpN P ops Q w0 (n + 1 + undone st) (listedOf listed st) a w1 := by
    intro k
    induction k with
    | zero =>
      intro st a w1 hk hst ha hx hx0 hh hap
      rw [hk]
      have hl := listed_full listed st hk
      rw [hst] at hl
      refine ⟨fun h0 => (by rw [hl, hr] at h0; cases h0), fun i hii => ?_⟩
      rw [hl, hr, List.mem_singleton] at hii
      subst hii
      unfold wpOp
      simp only [hi]
      rw [if_pos (by simp [Region.wanted])]
      refine .inl (h w1 hx hx0 a N ha _ _ _ _ _ _ ?_)
      rintro v w' ⟨he, hw⟩
      refine ⟨hx0.tr he, ?_⟩
      have := hw st (a.put dst v) w' hst (ha.putd hd v) (Ext.refl _) (hx0.tr he) (fun p hp u hu => ?_) hap
      · rw [hk, listed_set _ _ _ (fun p hp => hj _ (fl_at hst hp))] at this
        exact this
      · obtain ⟨h1, h2, h3⟩ := hh p hp u hu
        have hz := he.size
        exact ⟨by rw [putd_ne (hdst _ (fl_at hst hp))]; exact h1, (ok.runs _ (fl_at hst hp)).1 _ _ _ h2 he, fun b hb => by have := h3 b hb; omega⟩
    | succ k ih =>
      intro st a w1 hk hst ha hx hx0 hh hap
      rw [hk]
      refine ⟨fun h0 => ?_, fun i hii => ?_⟩
      · obtain ⟨p, hp, hn⟩ := undone_some st (by omega)
        have := fl_ready ok hst hp hn
        rw [h0] at this; cases this
      · rcases fl_cases hst hii with ⟨p, hp, hn, rfl⟩ | ⟨hne, hia⟩
        · have := fl_run (n := n + 1) ok hst ha hx hx0 hh hap (fun st' a' w' hu => ih st' a' w' (by omega)) hp hn
          rw [show n + 1 + (undone st - 1) = n + 1 + k by omega] at this
          exact this
        · rw [hr, List.mem_singleton] at hia
          subst hia
          unfold wpOp
          simp only [hi]
          rw [if_pos (by simp [Region.wanted])]
          refine .inl (h w1 hx hx0 a N ha _ _ _ _ _ _ ?_)
          rintro v w' ⟨he, hw⟩
          refine ⟨hx0.tr he, ?_⟩
          have := hw st (a.put dst v) w' hst (ha.putd hd v) (Ext.refl _) (hx0.tr he) (fun p hp u hu => ?_) hap
          · rw [hk, listed_set _ _ _ (fun p hp => hj _ (fl_at hst hp))] at this
            show wpN P ops Q w0 (n + 1 + k) _ _ _
            rw [show n + 1 + k = n + (k + 1) by omega]
            exact this
          · obtain ⟨h1, h2, h3⟩ := hh p hp u hu
            have hz := he.size
            exact ⟨by rw [putd_ne (hdst _ (fl_at hst hp))]; exact h1, (ok.runs _ (fl_at hst hp)).1 _ _ _ h2 he, fun b hb => by have := h3 b hb; omega⟩
  exact fun st a w1 hst ha hx hx0 hh hap => main _ st a w1 rfl hst ha hx hx0 hh hap
def flSlots : FlS → List (Nat × Value)
  | [] => []
  | (f, some v) :: st => (f.d, v) :: flSlots st
  | (_, none) :: st => flSlots st
theorem fr_slots {a : Act} (ha : Fr N L a) : ∀ (st : FlS), (∀ p ∈ st, ∀ v, p.2 = some v → a.tmps[p.1.d]? = some v) → Fr N (flSlots st ++ L) a
  | [], _ => ha
  | (f, none) :: st, h => fr_slots ha st fun p hp => h p (List.mem_cons_of_mem _ hp)
  | (f, some v) :: st, h => by
    have ih := fr_slots ha st fun p hp => h p (List.mem_cons_of_mem _ hp)
    refine ⟨ih.size, ih.defers, fun t u hu => ?_⟩
    simp only [flSlots, List.cons_append] at hu
    unfold look at hu
    cases e : Nat.beq f.d t with
    | true =>
      simp only [e, cond_true, Option.some.injEq] at hu
      subst hu
      rw [← Nat.eq_of_beq_eq_true e]
      exact h _ List.mem_cons_self v rfl
    | false =>
      simp only [e, cond_false] at hu
      exact ih.has t u hu
/-- All that floats is taken in. -/
theorem wf_land {fl : List Fl} {n : Nat} {listed : Array Bool} (ok : FlOk P ops w0 fl listed N L) (hr : ∀ f ∈ fl, ∀ j ∈ Region.ready .any ops (allOf listed fl), ∃ o, ops[j]? = some o ∧ ∃ e ∈ o.after, Region.binds .any e = true ∧ e.on = f.i)
    (h : ∀ (st : FlS) (w1 : World), st.map (·.1) = fl → undone st = 0 → Ext w w1 → (∀ p ∈ st, ∀ v, p.2 = some v → p.1.R v w1 ∧ ∀ b, vblk v = some b → w0.heap.size ≤ b) → flApart st → WN P ops Q w0 n (allOf listed fl) N (flSlots st ++ L) w1) : WF P ops Q w0 fl n listed N L w := by
  have main : ∀ (k : Nat) (st : FlS) (a : Act) (w1 : World), undone st = k → st.map (·.1) = fl → Fr N L a → Ext w w1 → Ext w0 w1 → flHas w0 a w1 st → flApart st → wpN P ops Q w0 (n + undone st) (listedOf listed st) a w1 := by
    intro k
    induction k with
    | zero =>
      intro st a w1 hk hst ha hx hx0 hh hap
      have hl := listed_full listed st hk
      rw [hst] at hl
      rw [hk, hl]
      exact h st w1 hst hk hx (fun p hp v hv => ⟨(hh p hp v hv).2.1, fun b hb => ((hh p hp v hv).2.2 b hb).1⟩) hap a (fr_slots ha st fun p hp v hv => (hh p hp v hv).1) hx0
    | succ k ih =>
      intro st a w1 hk hst ha hx hx0 hh hap
      rw [hk]
      obtain ⟨p, hp, hn⟩ := undone_some st (by omega)
      have hpr := fl_ready ok hst hp hn
      refine ⟨fun h0 => (by rw [h0] at hpr; cases hpr), fun i hii => ?_⟩
      rcases fl_cases hst hii with ⟨q, hq, hn', rfl⟩ | ⟨hne, hia⟩
      · have := fl_run (n := n) ok hst ha hx hx0 hh hap (fun st' a' w' hu => ih st' a' w' (by omega)) hq hn'
        rw [show n + (undone st - 1) = n + k by omega] at this
        exact this
      · exfalso
        obtain ⟨o, ho, e, he, hb, heq⟩ := hr _ (fl_at hst hp) i hia
        obtain ⟨_, oj, hoj, hall⟩ := mem_ready.1 hii
        rw [ho] at hoj
        injection hoj with hoj
        subst hoj
        have h1 := hall e he hb
        have h2 := (mem_ready.1 hpr).1
        rw [heq] at h1
        rcases Nat.lt_or_ge p.1.i (listedOf listed st).size with h' | h'
        · simp [h'] at h1 h2; rw [h1] at h2; cases h2
        · simp [Array.getElem?_eq_none h'] at h1
  exact fun st a w1 hst ha hx hx0 hh hap => main _ st a w1 rfl hst ha hx hx0 hh hap
theorem wf_start {fl : List Fl} {n m : Nat} {listed : Array Bool} (hm : fl.length = m) (h : WF P ops Q w0 fl n listed N L w) : WN P ops Q w0 (n + m) listed N L w := by
  intro a ha hx0
  have hu : ∀ (fl : List Fl), undone (fl.map fun f => (f, none)) = fl.length ∧ listedOf listed (fl.map fun f => (f, none)) = listed ∧ flApart (fl.map fun f => (f, none)) := by
    intro fl
    induction fl with
    | nil => exact ⟨rfl, rfl, trivial⟩
    | cons f fl ih =>
      refine ⟨by simp [undone, ih.1]; omega, by simpa [listedOf] using ih.2.1, ?_, ih.2.2⟩
      intro q hq v u b h1; cases h1
  have := h (fl.map fun f => (f, none)) a w (by simp [List.map_map, Function.comp_def]) ha (Ext.refl w) hx0 (fun p hp v hv => by
    obtain ⟨f, _, rfl⟩ := List.mem_map.1 hp
    cases hv) (hu fl).2.2
  rw [(hu fl).1, (hu fl).2.1, hm] at this
  exact this
/-- What only reads is taken while others float. -/
def freeF (ops : Array Oper) (listed : Array Bool) (i : Nat) (is : List Nat) : Bool :=
  freeZ .any ops listed i && is.all fun k => !(k == i) && !((depSet .any ops listed i).getD k false)
theorem wf_take {fl : List Fl} {n : Nat} {listed : Array Bool} {i : Nat} {oi : Oper} {v : Value} (hi : ops[i]? = some oi) (hf : freeF ops listed i (fl.map (·.i)) = true)
    (hy : ∀ a, Fr N L a → YieldsIf P ops (fun w' => Ext w0 w') oi v a) (hd : dOk N oi.dst = true) (hdst : ∀ f ∈ fl, oi.dst ≠ some f.d) (h : WF P ops (NoP Q) w0 fl n (listed.setIfInBounds i true) N (pushd oi.dst v L) w) : WF P ops (NoP Q) w0 fl (n + 1) listed N L w := by
  intro st a w1 hst ha hx hx0 hh hap
  simp only [freeF, Bool.and_eq_true] at hf
  obtain ⟨hf, hfk⟩ := hf
  unfold freeZ at hf
  generalize depSet .any ops listed i = D at hf hfk
  have hfk' : ∀ p ∈ st, p.1.i ≠ i ∧ D.getD p.1.i false = false := fun p hp => by
    rw [List.all_eq_true] at hfk
    have := hfk p.1.i (hst ▸ (by rw [List.map_map]; exact List.mem_map.2 ⟨p, hp, rfl⟩))
    simpa using this
  simp only [freeByZ, hi, Bool.and_eq_true, List.all_eq_true, List.mem_range, Bool.or_eq_true, beq_iff_eq] at hf
  obtain ⟨⟨h1, h2⟩, h4⟩ := hf
  have key : ∀ j oj, ops[j]? = some oj → j ≠ i → listed.getD j true = false → cond (D.getD j false) (oj.after.any fun e => Region.binds .any e && (e.on == i || (D.getD e.on false && !listed.getD e.on true))) (oi.apart ops oj) = true := fun j oj hj hne hun => by
    have := h2 j (Array.getElem?_eq_some_iff.1 hj).1
    rcases this with h | h | h
    · exact absurd h hne
    · rw [hun] at h; cases h
    · simpa [hj] using h
  have low : ∀ (st : FlS) (k : Nat), (listedOf listed st).getD k true = false → listed.getD k true = false := by
    intro st
    induction st with
    | nil => intro k h; exact h
    | cons p st ih =>
      obtain ⟨f, o⟩ := p
      intro k hk
      simp only [listedOf] at hk
      split at hk
      · by_cases e : f.i = k
        · subst e
          rcases Nat.lt_or_ge f.i (listedOf listed st).size with h' | h'
          · simp [h'] at hk
          · simp [Array.getElem?_eq_none h', h'] at hk
        · rw [getD_set_ne true e] at hk; exact ih k hk
      · exact ih k hk
  have same : ∀ (st : FlS) (k : Nat), (∀ p ∈ st, p.1.i ≠ k) → (listedOf listed st).getD k true = listed.getD k true := by
    intro st
    induction st with
    | nil => intro k _; rfl
    | cons p st ih =>
      obtain ⟨f, o⟩ := p
      intro k hk
      have hk' := ih k (fun p hp => hk p (List.mem_cons_of_mem _ hp))
      simp only [listedOf]
      split
      · rw [getD_set_ne true (hk (f, o) List.mem_cons_self)]; exact hk'
      · exact hk'
  rw [show n + 1 + undone st = (n + undone st) + 1 by omega]
  refine wpN_first (fun j => D.getD j false) hi (Region.noSelect_spec h1) (fun c a w h => h) _ (listedOf listed st) a w1 hx0 (fun j oj hj hne hun hd => ?_) (fun j oj hj hne hun hd => ?_) (ready_listed st (by simpa using h4) fun p hp _ => (hfk' p hp).1) (hy a ha) ?_
  · have k := key j oj hj hne (low st j hun)
    rw [hd, cond_true] at k
    obtain ⟨e, he, hb⟩ := Array.any_eq_true'.1 k
    simp only [Bool.and_eq_true, Bool.or_eq_true, beq_iff_eq, Bool.not_eq_true'] at hb
    refine ⟨e, he, hb.1, hb.2.imp id fun ⟨h5, h6⟩ => ⟨h5, ?_⟩⟩
    rw [same st e.on fun p hp e' => by
      have := (hfk' p hp).2
      rw [e', h5] at this; cases this]
    exact h6
  · have k := key j oj hj hne (low st j hun)
    rwa [hd, cond_false] at k
  · rw [← listed_set _ _ _ fun p hp => (hfk' p hp).1]
    exact h st (a.put oi.dst v) w1 hst (ha.putd hd v) hx hx0 (fun p hp u hu => by
      obtain ⟨h5, h6, h7⟩ := hh p hp u hu
      exact ⟨by rw [putd_ne (hdst _ (fl_at hst hp))]; exact h5, h6, h7⟩) hap
theorem fall_nil {p : Fl → Prop} : ∀ f ∈ ([] : List Fl), p f := fun _ h => by cases h
theorem fall {p : Fl → Prop} {f : Fl} {fl : List Fl} (h : p f) (h' : ∀ g ∈ fl, p g) : ∀ g ∈ f :: fl, p g := fun g hg => by
  rcases List.mem_cons.1 hg with rfl | hg
  · exact h
  · exact h' g hg
theorem mem_of_has {l : List Nat} {i : Nat} (h : l.contains i = true) : i ∈ l := by simpa using h
section
variable {fl : List Fl} {n : Nat} {listed : Array Bool} (i : Nat) {op : Op} {ty : TypeId} {v : Value} {dst : Option Tmp} {pos : String} {after : Array Edge} {j : Nat} {b b' : Bool}
theorem wf_y (hi : ops[i]? = some ⟨dst, op, ty, pos, after, none⟩) (hf : freeF ops listed i (fl.map (·.i)) = true) (h : Y P L w0 op ty v) (hd : dOk N dst = true) (hdst : ∀ f ∈ fl, dst ≠ some f.d)
    (hr : WF P ops (NoP Q) w0 fl n (listed.setIfInBounds i true) N (pushd dst v L) w) : WF P ops (NoP Q) w0 fl (n + 1) listed N L w :=
  wf_take hi hf (fun a ha => .inl ⟨rfl, fun w' e => h a.eval (fun _ _ hx => ha.ev hx) w' e _ _ _ _⟩) hd hdst hr
theorem wf_gy (hi : ops[i]? = some ⟨dst, op, ty, pos, after, some (j, b)⟩) (hf : freeF ops listed i (fl.map (·.i)) = true)
    (t : Tmp) (hj : (ops[j]?).bind (·.dst) = some t) (ht : look L t = some (.bool b)) (h : Y P L w0 op ty v) (hd : dOk N dst = true) (hdst : ∀ f ∈ fl, dst ≠ some f.d)
    (hr : WF P ops (NoP Q) w0 fl n (listed.setIfInBounds i true) N (pushd dst v L) w) : WF P ops (NoP Q) w0 fl (n + 1) listed N L w :=
  wf_take hi hf (fun a ha => .inl ⟨by rw [wanted_of ha hj ht]; simp, fun w' e => h a.eval (fun _ _ hx => ha.ev hx) w' e _ _ _ _⟩) hd hdst hr
theorem wf_gno (hi : ops[i]? = some ⟨dst, op, ty, pos, after, some (j, b')⟩) (hf : freeF ops listed i (fl.map (·.i)) = true)
    (t : Tmp) (hj : (ops[j]?).bind (·.dst) = some t) (ht : look L t = some (.bool b)) (hb : (b == b') = false) (hd : dOk N dst = true) (hdst : ∀ f ∈ fl, dst ≠ some f.d)
    (hr : WF P ops (NoP Q) w0 fl n (listed.setIfInBounds i true) N (pushd dst undef L) w) : WF P ops (NoP Q) w0 fl (n + 1) listed N L w :=
  wf_take hi hf (fun a ha => .inr ⟨by rw [wanted_of ha hj ht, hb], rfl⟩) hd hdst hr
theorem wf_gun (hi : ops[i]? = some ⟨dst, op, ty, pos, after, some (j, b')⟩) (hf : freeF ops listed i (fl.map (·.i)) = true)
    (t : Tmp) (hj : (ops[j]?).bind (·.dst) = some t) (ht : look L t = some undef) (hd : dOk N dst = true) (hdst : ∀ f ∈ fl, dst ≠ some f.d)
    (hr : WF P ops (NoP Q) w0 fl n (listed.setIfInBounds i true) N (pushd dst undef L) w) : WF P ops (NoP Q) w0 fl (n + 1) listed N L w :=
  wf_take hi hf (fun a ha => .inr ⟨wanted_un ha hj ht, rfl⟩) hd hdst hr
end
section
variable {f : FuncId} {xs : List Operand} {ats : Array TypeId} {vs : List Value} {fn : Func} {c : Code} {ty : TypeId} {dst : Option Tmp} {pos : String} {after : Array Edge}
theorem wf_call {fl : List Fl} {n : Nat} {listed : Array Bool} {j : Nat} (ok : FlOk P ops w0 fl listed N L) (hr : Region.ready .any ops (allOf listed fl) = [j]) (hj : ∀ f ∈ fl, f.i ≠ j)
    (hi : ops[j]? = some ⟨dst, .call { callee := .value (.func f), args := xs.toArray, argTypes := ats }, ty, pos, after, none⟩) (hf : P.funcs[f]? = some fn) (hb : fn.body = some c) (hn : (fn.name == "runtime.NumGoroutine") = false) (hx : evs L xs = some vs) (hdst : ∀ f ∈ fl, dst ≠ some f.d) (hd : dOk N dst = true)
    (h : ∀ w1, Ext w w1 → Ext w0 w1 → ∃ R : Ending → World → Prop, Calls P f vs.toArray w1 R ∧ ∀ e w', R e w' → ∃ v, e = .returned v ∧ Ext w1 w' ∧ WF P ops Q w0 fl n (listed.setIfInBounds j true) N (pushd dst v L) w') : WF P ops Q w0 fl (n + 1) listed N L w :=
  wf_step ok hr hj hi hdst hd fun w1 h1 h2 => by
    obtain ⟨R, hc, hR⟩ := h w1 h1 h2
    exact ef_of_call hf hb hn hx hc hR
end
section
variable {fl : List Fl} {n : Nat} {listed : Array Bool} (i : Nat) {op : Op} {ty : TypeId} {dst : Option Tmp} {pos : String} {after : Array Edge} {j : Nat} {b b' : Bool} {p : Prop} [Decidable p]
theorem wf_yaskb (hi : ops[i]? = some ⟨dst, op, ty, pos, after, none⟩) (hfr : freeF ops listed i (fl.map (·.i)) = true) (h : Y P L w0 op ty (.bool b)) (hd : dOk N dst = true) (hdst : ∀ f ∈ fl, dst ≠ some f.d)
    (ht : b = true → WF P ops (NoP Q) w0 fl n (listed.setIfInBounds i true) N (pushd dst (.bool true) L) w) (hf : b = false → WF P ops (NoP Q) w0 fl n (listed.setIfInBounds i true) N (pushd dst (.bool false) L) w) : WF P ops (NoP Q) w0 fl (n + 1) listed N L w := by
  cases b
  · exact wf_y i hi hfr h hd hdst (hf rfl)
  · exact wf_y i hi hfr h hd hdst (ht rfl)
theorem wf_yask (hi : ops[i]? = some ⟨dst, op, ty, pos, after, none⟩) (hfr : freeF ops listed i (fl.map (·.i)) = true) (h : Y P L w0 op ty (.bool (decide p))) (hd : dOk N dst = true) (hdst : ∀ f ∈ fl, dst ≠ some f.d)
    (ht : p → WF P ops (NoP Q) w0 fl n (listed.setIfInBounds i true) N (pushd dst (.bool true) L) w) (hf : ¬ p → WF P ops (NoP Q) w0 fl n (listed.setIfInBounds i true) N (pushd dst (.bool false) L) w) : WF P ops (NoP Q) w0 fl (n + 1) listed N L w :=
  wf_yaskb i hi hfr h hd hdst (fun e => ht (of_decide_eq_true e)) (fun e => hf (of_decide_eq_false e))
theorem wn_yaskb (hi : ops[i]? = some ⟨dst, op, ty, pos, after, none⟩) (hfr : freeZ .any ops listed i = true) (h : Y P L w0 op ty (.bool b)) (hd : dOk N dst = true)
    (ht : b = true → WN P ops (NoP Q) w0 n (listed.setIfInBounds i true) N (pushd dst (.bool true) L) w) (hf : b = false → WN P ops (NoP Q) w0 n (listed.setIfInBounds i true) N (pushd dst (.bool false) L) w) : WN P ops (NoP Q) w0 (n + 1) listed N L w := by
  cases b
  · exact wn_y i hi hfr h hd (hf rfl)
  · exact wn_y i hi hfr h hd (ht rfl)
theorem wn_gyaskb (hi : ops[i]? = some ⟨dst, op, ty, pos, after, some (j, b')⟩) (hfr : freeZ .any ops listed i = true) (t : Tmp) (hj : (ops[j]?).bind (·.dst) = some t) (hg : look L t = some (.bool b')) (h : Y P L w0 op ty (.bool b)) (hd : dOk N dst = true)
    (ht : b = true → WN P ops (NoP Q) w0 n (listed.setIfInBounds i true) N (pushd dst (.bool true) L) w) (hf : b = false → WN P ops (NoP Q) w0 n (listed.setIfInBounds i true) N (pushd dst (.bool false) L) w) : WN P ops (NoP Q) w0 (n + 1) listed N L w := by
  cases b
  · exact wn_gy i hi hfr t hj hg h hd (hf rfl)
  · exact wn_gy i hi hfr t hj hg h hd (ht rfl)
theorem wn_yask (hi : ops[i]? = some ⟨dst, op, ty, pos, after, none⟩) (hfr : freeZ .any ops listed i = true) (h : Y P L w0 op ty (.bool (decide p))) (hd : dOk N dst = true)
    (ht : p → WN P ops (NoP Q) w0 n (listed.setIfInBounds i true) N (pushd dst (.bool true) L) w) (hf : ¬ p → WN P ops (NoP Q) w0 n (listed.setIfInBounds i true) N (pushd dst (.bool false) L) w) : WN P ops (NoP Q) w0 (n + 1) listed N L w :=
  wn_yaskb i hi hfr h hd (fun e => ht (of_decide_eq_true e)) (fun e => hf (of_decide_eq_false e))
theorem wn_gyask (hi : ops[i]? = some ⟨dst, op, ty, pos, after, some (j, b')⟩) (hfr : freeZ .any ops listed i = true) (t : Tmp) (hj : (ops[j]?).bind (·.dst) = some t) (hg : look L t = some (.bool b')) (h : Y P L w0 op ty (.bool (decide p))) (hd : dOk N dst = true)
    (ht : p → WN P ops (NoP Q) w0 n (listed.setIfInBounds i true) N (pushd dst (.bool true) L) w) (hf : ¬ p → WN P ops (NoP Q) w0 n (listed.setIfInBounds i true) N (pushd dst (.bool false) L) w) : WN P ops (NoP Q) w0 (n + 1) listed N L w :=
  wn_gyaskb i hi hfr t hj hg h hd (fun e => ht (of_decide_eq_true e)) (fun e => hf (of_decide_eq_false e))
end
def landOk (ops : Array Oper) (l : Array Bool) (is : List Nat) : Bool :=
  is.all fun i => (Region.ready .any ops l).all fun j => match ops[j]? with | some o => o.after.any (fun e => Region.binds .any e && e.on == i) | none => false
theorem land_of {fl : List Fl} {l : Array Bool} (h : landOk ops l (fl.map (·.i)) = true) : ∀ f ∈ fl, ∀ j ∈ Region.ready .any ops l, ∃ o, ops[j]? = some o ∧ ∃ e ∈ o.after, Region.binds .any e = true ∧ e.on = f.i := by
  intro f hf j hj
  simp only [landOk, List.all_eq_true] at h
  have := h f.i (List.mem_map.2 ⟨f, hf, rfl⟩) j hj
  cases ho : ops[j]? with
  | none => simp [ho] at this
  | some o =>
    simp only [ho] at this
    obtain ⟨e, he, hb⟩ := Array.any_eq_true'.1 this
    simp only [Bool.and_eq_true, beq_iff_eq] at hb
    exact ⟨o, rfl, e, he, hb.1, hb.2⟩
theorem st_some {st : FlS} (h : undone st = 0) : ∀ p ∈ st, ∃ v, p.2 = some v := by
  intro p hp
  cases ho : p.2 with
  | some v => exact ⟨v, rfl⟩
  | none =>
    exfalso
    have : ∀ st : FlS, (∃ p ∈ st, p.2 = none) → 0 < undone st := by
      intro st
      induction st with
      | nil => rintro ⟨p, hp, _⟩; cases hp
      | cons q st ih =>
        rintro ⟨p, hp, hn⟩
        obtain ⟨f, o⟩ := q
        simp only [undone]
        rcases List.mem_cons.1 hp with rfl | hp
        · simp only at hn; subst hn; simp; omega
        · have := ih ⟨p, hp, hn⟩; omega
    have := this st ⟨p, hp, ho⟩
    omega
/-- What a value that floated brings. -/
abbrev Land (w0 : World) (f : Fl) (v : Value) (w1 : World) : Prop := f.R v w1 ∧ ∀ b, vblk v = some b → w0.heap.size ≤ b
abbrev Far (v u : Value) : Prop := ∀ b, vblk v = some b → vblk u = some b → False
theorem wf_land1 {f : Fl} {n : Nat} {listed : Array Bool} (ok : FlOk P ops w0 [f] listed N L) (hr : landOk ops (allOf listed [f]) [f.i] = true)
    (h : ∀ v w1, Ext w w1 → Land w0 f v w1 → WN P ops Q w0 n (allOf listed [f]) N ((f.d, v) :: L) w1) : WF P ops Q w0 [f] n listed N L w :=
  wf_land ok (land_of hr) fun st w1 hst hu hx hR hap => by
    match st, hst, hu, hR, hap with
    | [(f', some v)], hst, hu, hR, hap =>
      simp only [List.map_cons, List.map_nil, List.cons.injEq, and_true] at hst
      subst hst
      exact h v w1 hx (hR _ List.mem_cons_self v rfl)
    | [(f', none)], hst, hu, _, _ => simp [undone] at hu
theorem wf_land2 {f g : Fl} {n : Nat} {listed : Array Bool} (ok : FlOk P ops w0 [f, g] listed N L) (hr : landOk ops (allOf listed [f, g]) [f.i, g.i] = true)
    (h : ∀ v u w1, Ext w w1 → Land w0 f v w1 → Land w0 g u w1 → Far v u → WN P ops Q w0 n (allOf listed [f, g]) N ((f.d, v) :: (g.d, u) :: L) w1) : WF P ops Q w0 [f, g] n listed N L w :=
  wf_land ok (land_of hr) fun st w1 hst hu hx hR hap => by
    match st, hst, hu, hR, hap with
    | [(f', o1), (g', o2)], hst, hu, hR, hap =>
      simp only [List.map_cons, List.map_nil, List.cons.injEq, and_true] at hst
      obtain ⟨rfl, rfl⟩ := hst
      obtain ⟨v, hv⟩ := st_some hu (f', o1) (by simp)
      obtain ⟨u, hu'⟩ := st_some hu (g', o2) (by simp)
      simp only at hv hu'
      subst hv; subst hu'
      exact h v u w1 hx (hR (f', some v) (by simp) v rfl) (hR (g', some u) (by simp) u rfl) (fun b h1 h2 => hap.1 (g', some u) (by simp) v u b rfl rfl h1 h2)
theorem wf_land3 {f g k : Fl} {n : Nat} {listed : Array Bool} (ok : FlOk P ops w0 [f, g, k] listed N L) (hr : landOk ops (allOf listed [f, g, k]) [f.i, g.i, k.i] = true)
    (h : ∀ v u x w1, Ext w w1 → Land w0 f v w1 → Land w0 g u w1 → Land w0 k x w1 → Far v u → Far v x → Far u x → WN P ops Q w0 n (allOf listed [f, g, k]) N ((f.d, v) :: (g.d, u) :: (k.d, x) :: L) w1) : WF P ops Q w0 [f, g, k] n listed N L w :=
  wf_land ok (land_of hr) fun st w1 hst hu hx hR hap => by
    match st, hst, hu, hR, hap with
    | [(f', o1), (g', o2), (k', o3)], hst, hu, hR, hap =>
      simp only [List.map_cons, List.map_nil, List.cons.injEq, and_true] at hst
      obtain ⟨rfl, rfl, rfl⟩ := hst
      obtain ⟨v, hv⟩ := st_some hu (f', o1) (by simp)
      obtain ⟨u, hu'⟩ := st_some hu (g', o2) (by simp)
      obtain ⟨x, hx'⟩ := st_some hu (k', o3) (by simp)
      simp only at hv hu' hx'
      subst hv; subst hu'; subst hx'
      exact h v u x w1 hx (hR (f', some v) (by simp) v rfl) (hR (g', some u) (by simp) u rfl) (hR (k', some x) (by simp) x rfl) (fun b h1 h2 => hap.1 (g', some u) (by simp) v u b rfl rfl h1 h2) (fun b h1 h2 => hap.1 (k', some x) (by simp) v x b rfl rfl h1 h2) (fun b h1 h2 => hap.2.1 (k', some x) (by simp) u x b rfl rfl h1 h2)
/-- A new variable floats. -/
def flA (i : Nat) (d : Tmp) (t : TypeId) (Z : Array Value) : Fl := ⟨i, d, fun v w => ∃ g, v = .pointer (some ⟨g, 0, none⟩) ∧ Blk w g t Z⟩
theorem flA_runs {i : Nat} {d : Tmp} {t ty : TypeId} {Z : Array Value} {pos : String} {after : Array Edge} (hi : ops[i]? = some ⟨some d, .alloc t, ty, pos, after, none⟩) (hz : (P.info? t).map (fun i => i.zero.map (·.cells)) = some (some Z)) : Fl.Runs P ops w0 (flA i d t Z) := by
  refine ⟨fun v w1 w2 ⟨g, hv, hB⟩ he => ⟨g, hv, hB.ext he⟩, _, _, _, _, hi, fun w1 _ => (ef_alloc (w := w1) hz).mono ?_⟩
  rintro v w2 ⟨g, rfl, hB, hg, he⟩
  refine ⟨he, ⟨g, rfl, hB⟩, fun b hb => ?_⟩
  simp only [vblk, Option.some.injEq] at hb
  subst hb
  exact ⟨hg, hB.lt⟩
end
end Go.Proofs.Ytbcbihdfpkeacaa
