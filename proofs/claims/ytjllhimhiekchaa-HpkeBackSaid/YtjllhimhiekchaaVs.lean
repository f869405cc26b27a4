/- A region that draws its order, with what each operation may turn said ahead by number. No conditions: plain lemmas of the model. -/
import Derived.Test.YtjllhimhiekchaaAeA
namespace Go.Proofs.Ytjllhimhiekchaa
open Go.RowKit
/-- The blocks that operation i may turn. -/
def blks : List (Nat × List Nat) → Nat → List Nat
  | [], _ => []
  | (k, l) :: M, i => cond (Nat.beq k i) l (blks M i)
def blksOf (M : List (Nat × List Nat)) (js : List Nat) : List Nat := js.foldr (fun j l => blks M j ++ l) []
theorem mem_blksOf {M : List (Nat × List Nat)} {js : List Nat} {j k : Nat} (hj : j ∈ js) (hk : k ∈ blks M j) : k ∈ blksOf M js := by
  induction js with
  | nil => cases hj
  | cons i js ih =>
    unfold blksOf
    rw [List.foldr_cons, List.mem_append]
    rcases List.mem_cons.1 hj with rfl | hj
    · exact .inl hk
    · exact .inr (ih hj)
theorem blks_nil {M : List (Nat × List Nat)} {j : Nat} (h : (M.map (·.1)).contains j = false) : blks M j = [] := by
  induction M with
  | nil => rfl
  | cons p M ih =>
    obtain ⟨k, l⟩ := p
    simp only [List.map_cons, List.contains_cons, Bool.or_eq_false_iff] at h
    unfold blks
    have hk : Nat.beq k j = false := by
      have h1 : j ≠ k := by simpa using h.1
      cases e : Nat.beq k j with
      | false => rfl
      | true => exact absurd (Nat.eq_of_beq_eq_true e).symm h1
    rw [hk, cond_false]
    exact ih h.2
section
variable {P : Program} {ops : Array Oper} {Q : Exit → Act → World → Prop} {N : Nd} {L : List (Nat × Value)} {w : World} {M : List (Nat × List Nat)}
/-- Whatever order is picked from here on; each operation turns no more than is said of it. -/
def wpJ (P : Program) (ops : Array Oper) (Q : Exit → Act → World → Prop) (M : List (Nat × List Nat)) : Nat → Array Bool → Act → World → Prop
  | 0, listed, a, w => Region.ready .any ops listed = [] ∧ Q .normal a w
  | n + 1, listed, a, w => (Region.ready .any ops listed = [] → Q .normal a w) ∧
      ∀ i ∈ Region.ready .any ops listed, wpOp P ops Q i (fun a' w' => Chs (blks M i) w w' ∧ wpJ P ops Q M n (listed.setIfInBounds i true) a' w') a w
theorem wpJ_any : ∀ (n : Nat) (listed : Array Bool) (a : Act) (w : World), wpJ P ops Q M n listed a w → wpAny P .any ops Q n listed a w
  | 0, _, _, _, h => h
  | n + 1, _, _, _, h => ⟨h.1, fun i hi => wpOp_mono (fun a' w' h' => wpJ_any n _ a' w' h'.2) (h.2 i hi)⟩
theorem wpJ_first {U : List Nat} {i : Nat} {oi : Oper} {v : Value} (D : Nat → Bool) (hi : ops[i]? = some oi) (hsel : ∀ (j : Nat) (o : Oper) cs b, ops[j]? = some o → o.op ≠ .select cs b)
    (hQ : ∀ c a w, Q (.panic c) (a.put oi.dst v) w → Q (.panic c) a w) :
    ∀ (n : Nat) (listed : Array Bool) (a : Act) (w : World),
      (∀ j oj, ops[j]? = some oj → j ≠ i → listed.getD j true = false → D j = true → ∃ e ∈ oj.after, Region.binds .any e = true ∧ (e.on = i ∨ D e.on = true ∧ listed.getD e.on true = false)) →
      (∀ j oj, ops[j]? = some oj → j ≠ i → listed.getD j true = false → D j = false → oi.apart ops oj = true ∧ ∀ k ∈ blks M j, k ∈ U) →
      i ∈ Region.ready .any ops listed → YieldsIf P ops (fun w' => Chs U w w') oi v a →
      wpJ P ops Q M n (listed.setIfInBounds i true) (a.put oi.dst v) w → wpJ P ops Q M (n + 1) listed a w := by
  intro n
  induction n with
  | zero =>
    intro listed a w _ _ hr hy H
    refine ⟨fun h => (by rw [h] at hr; cases hr), fun j hj => ?_⟩
    by_cases hji : j = i
    · subst hji; exact hy.wpOp hi (Chs.refl U w) ⟨Chs.refl _ w, H⟩
    · have := ready_mono hj hji
      rw [H.1] at this
      cases this
  | succ n ih =>
    intro listed a w hdep hfree hr hy H
    refine ⟨fun h => (by rw [h] at hr; cases hr), fun j hj => ?_⟩
    by_cases hji : j = i
    · subst hji; exact hy.wpOp hi (Chs.refl U w) ⟨Chs.refl _ w, H⟩
    · have h1 := H.2 j (ready_mono hj hji)
      obtain ⟨hjun, oj, hoj, hall⟩ := mem_ready.1 hj
      have hDj : D j = false := by
        cases hd : D j with
        | false => rfl
        | true =>
          exfalso
          obtain ⟨e, he, hb, hor⟩ := hdep j oj hoj hji hjun hd
          have h1 := hall e he hb
          rcases hor with heq | ⟨_, hun⟩
          · have h0 := (mem_ready.1 hr).1
            rw [heq] at h1
            rcases Nat.lt_or_ge i listed.size with h' | h'
            · simp [h'] at h0 h1; rw [h0] at h1; cases h1
            · simp [Array.getElem?_eq_none h'] at h1
          · rcases Nat.lt_or_ge e.on listed.size with h' | h'
            · simp [h'] at hun h1; rw [hun] at h1; cases h1
            · simp [Array.getElem?_eq_none h'] at h1
      obtain ⟨hap, hU⟩ := hfree j oj hoj hji hjun hDj
      have h2 := wpOp_putIf hoj hap (fun cs b => hsel i oi cs b hi) (fun cs b => hsel j oj cs b hoj) hQ hy h1
      have back : ∀ k, (listed.setIfInBounds j true).getD k true = false → listed.getD k true = false := fun k hun => by
        by_cases hjk : j = k
        · subst hjk; exact hjun
        · rwa [getD_set_ne true hjk] at hun
      have hdep' : ∀ k ok, ops[k]? = some ok → k ≠ i → (listed.setIfInBounds j true).getD k true = false → D k = true → ∃ e ∈ ok.after, Region.binds .any e = true ∧ (e.on = i ∨ D e.on = true ∧ (listed.setIfInBounds j true).getD e.on true = false) := fun k ok hk hki hun hd => by
        obtain ⟨e, he, hb, hor⟩ := hdep k ok hk hki (back k hun) hd
        refine ⟨e, he, hb, hor.imp id fun ⟨h3, h4⟩ => ⟨h3, ?_⟩⟩
        have hne : j ≠ e.on := by rintro rfl; rw [hDj] at h3; cases h3
        rw [getD_set_ne true hne]; exact h4
      have hfree' : ∀ k ok, ops[k]? = some ok → k ≠ i → (listed.setIfInBounds j true).getD k true = false → D k = false → oi.apart ops ok = true ∧ ∀ q ∈ blks M k, q ∈ U := fun k ok hk hki hun hd =>
        hfree k ok hk hki (back k hun) hd
      refine wpOp_mono (fun a' w' h3 => ?_) h2
      obtain ⟨hy', hx, hrest⟩ := h3
      refine ⟨hx, ih (listed.setIfInBounds j true) a' w' hdep' hfree' (ready_mono hr (Ne.symm hji)) (hy'.imp (fun ⟨q1, q2⟩ => ⟨q1, fun w2 e2 => q2 w2 ((hx.mono hU).tr e2)⟩) id) ?_⟩
      rw [Array.setIfInBounds_comm _ _ hji]
      exact hrest

def WJ (P : Program) (ops : Array Oper) (Q : Exit → Act → World → Prop) (M : List (Nat × List Nat)) (n : Nat) (listed : Array Bool) (N : Nd) (L : List (Nat × Value)) (w : World) : Prop := ∀ a, Fr N L a → wpJ P ops Q M n listed a w
theorem wc_drawJ (M : List (Nat × List Nat)) {id : Nat} {l : List Oper} (hm : P.follows .mixedOrders = true) (n : Nat) (hn : l.length = n) (h : ∀ w', Ext w w' → w'.heap = w.heap → WJ P l.toArray (NoP Q) M n (Array.replicate n false) N L w') : WC P Q (.region id l.toArray true) N L w := by
  intro a ha
  subst hn
  have h1 : (Code.region id l.toArray true).wp P (NoP Q) a w := by
    refine wp_region_any hm (wpJ_any (M := M) _ _ _ _ ?_)
    rw [List.size_toArray]
    exact h _ (Ext.drew w) rfl a ha
  refine wp_mono h1 fun e a w hq => ?_
  cases e <;> first | exact hq | exact hq.elim
theorem wj_done {n : Nat} {listed : Array Bool} (hr : Region.ready .any ops listed = []) (h : WQ Q .normal N L w) : WJ P ops Q M n listed N L w := by
  intro a ha
  cases n with
  | zero => exact ⟨hr, h a ha⟩
  | succ n => exact ⟨fun _ => h a ha, by rw [hr]; simp⟩
/-- All that may come before number i is apart from it, and turns nothing or is one of 'pre'. -/
def freeByJ (ks pre : List Nat) (md : Region.Mode) (ops : Array Oper) (listed : Array Bool) (i : Nat) (D : List Bool) : Bool :=
  Region.noSelect ops && (match ops[i]? with
    | none => false
    | some oi => (List.range ops.size).all fun j => j == i || (listed.getD j true || (match ops[j]? with
        | none => true
        | some oj => cond (D.getD j false) (oj.after.any fun e => Region.binds md e && (e.on == i || (D.getD e.on false && !listed.getD e.on true))) (oi.apart ops oj && (pre.contains j || !ks.contains j))))) && (Region.ready md ops listed).contains i
theorem wj_take {n : Nat} {listed : Array Bool} {i : Nat} {oi : Oper} {v : Value} (pre : List Nat) (hi : ops[i]? = some oi) (hf : freeByJ (M.map (·.1)) pre .any ops listed i (depSet .any ops listed i) = true)
    (hy : ∀ a, Fr N L a → YieldsIf P ops (fun w' => Chs (blksOf M pre) w w') oi v a) (hd : dOk N oi.dst = true) (h : WJ P ops (NoP Q) M n (listed.setIfInBounds i true) N (pushd oi.dst v L) w) : WJ P ops (NoP Q) M (n + 1) listed N L w := by
  intro a ha
  generalize depSet .any ops listed i = D at hf
  simp only [freeByJ, hi, Bool.and_eq_true, List.all_eq_true, List.mem_range, Bool.or_eq_true, beq_iff_eq] at hf
  obtain ⟨⟨h1, h2⟩, h4⟩ := hf
  have key : ∀ j oj, ops[j]? = some oj → j ≠ i → listed.getD j true = false → cond (D.getD j false) (oj.after.any fun e => Region.binds .any e && (e.on == i || (D.getD e.on false && !listed.getD e.on true))) (oi.apart ops oj && (pre.contains j || !(M.map (·.1)).contains j)) = true := fun j oj hj hne hun => by
    have := h2 j (Array.getElem?_eq_some_iff.1 hj).1
    rcases this with h | h | h
    · exact absurd h hne
    · rw [hun] at h; cases h
    · rw [hj] at h; exact h
  refine wpJ_first (U := blksOf M pre) (fun j => D.getD j false) hi (Region.noSelect_spec h1) (fun c a w h => h) n listed a w (fun j oj hj hne hun hd => ?_) (fun j oj hj hne hun hd => ?_) (by simpa using h4) (hy a ha) (h _ (ha.putd hd v))
  · have k := key j oj hj hne hun
    rw [hd, cond_true] at k
    obtain ⟨e, he, hb⟩ := Array.any_eq_true'.1 k
    simp only [Bool.and_eq_true, Bool.or_eq_true, beq_iff_eq, Bool.not_eq_true'] at hb
    exact ⟨e, he, hb.1, hb.2⟩
  · have k := key j oj hj hne hun
    rw [hd, cond_false, Bool.and_eq_true, Bool.or_eq_true] at k
    refine ⟨k.1, fun q hq => ?_⟩
    rcases k.2 with k2 | k2
    · exact mem_blksOf (by simpa using k2) hq
    · rw [blks_nil (by simpa using k2)] at hq; cases hq
theorem wj_y {n : Nat} {listed : Array Bool} (i : Nat) (pre : List Nat) {op : Op} {ty : TypeId} {v : Value} {dst : Option Tmp} {pos : String} {after : Array Edge} (hi : ops[i]? = some ⟨dst, op, ty, pos, after, none⟩) (hf : freeByJ (M.map (·.1)) pre .any ops listed i (depSet .any ops listed i) = true) (h : ∀ w', Chs (blksOf M pre) w w' → Y P L w' op ty v) (hd : dOk N dst = true)
    (hr : WJ P ops (NoP Q) M n (listed.setIfInBounds i true) N (pushd dst v L) w) : WJ P ops (NoP Q) M (n + 1) listed N L w :=
  wj_take pre hi hf (fun a ha => .inl ⟨rfl, fun w' e => h w' e a.eval (fun _ _ hx => ha.ev hx) w' (Ext.refl w') _ _ _ _⟩) hd hr
/-- One of those that may come up: what it does. -/
def OpJ (P : Program) (ops : Array Oper) (Q : Exit → Act → World → Prop) (M : List (Nat × List Nat)) (n : Nat) (listed : Array Bool) (i : Nat) (N : Nd) (L : List (Nat × Value)) (w : World) : Prop :=
  ∀ a, Fr N L a → wpOp P ops Q i (fun a' w' => Chs (blks M i) w w' ∧ wpJ P ops Q M n (listed.setIfInBounds i true) a' w') a w
theorem wj_all {n : Nat} {listed : Array Bool} (rs : List Nat) (hr : Region.ready .any ops listed = rs) (hne : rs.isEmpty = false) (h : ∀ i ∈ rs, OpJ P ops Q M n listed i N L w) : WJ P ops Q M (n + 1) listed N L w := by
  intro a ha
  refine ⟨fun h0 => ?_, fun i hi => h i (hr ▸ hi) a ha⟩
  rw [hr] at h0
  rw [h0] at hne
  cases hne
theorem wj_one {n : Nat} {listed : Array Bool} (i : Nat) (hr : Region.ready .any ops listed = [i]) (h : OpJ P ops Q M n listed i N L w) : WJ P ops Q M (n + 1) listed N L w :=
  wj_all [i] hr rfl (fun k hk => by simp only [List.mem_singleton] at hk; subst hk; exact h)
theorem oj_ef {n : Nat} {listed : Array Bool} {i : Nat} {op : Op} {ty : TypeId} {Φ : Value → World → Prop} {dst : Option Tmp} {pos : String} {after : Array Edge} (hi : ops[i]? = some ⟨dst, op, ty, pos, after, none⟩) (h : Ef P L w op ty Φ) (hd : dOk N dst = true)
    (hr : ∀ v w', Φ v w' → Chs (blks M i) w w' ∧ WJ P ops Q M n (listed.setIfInBounds i true) N (pushd dst v L) w') : OpJ P ops Q M n listed i N L w := by
  intro a ha
  unfold wpOp
  simp only [hi]
  rw [if_pos (by simp [Region.wanted])]
  exact .inl (h a N ha _ _ _ _ _ _ fun v w' hv => ⟨(hr v w' hv).1, (hr v w' hv).2 _ (ha.putd hd v)⟩)
section
variable {f : FuncId} {xs : List Operand} {ats : Array TypeId} {vs : List Value} {R : Ending → World → Prop} {fn : Func} {c : Code} {ty : TypeId} {dst : Option Tmp} {pos : String} {after : Array Edge}
theorem oj_call {n : Nat} {listed : Array Bool} {i : Nat} (hi : ops[i]? = some ⟨dst, .call { callee := .value (.func f), args := xs.toArray, argTypes := ats }, ty, pos, after, none⟩) (hf : P.funcs[f]? = some fn) (hb : fn.body = some c) (hn : (fn.name == "runtime.NumGoroutine") = false) (hx : evs L xs = some vs) (h : Calls P f vs.toArray w R) (hd : dOk N dst = true)
    (hr : ∀ e w', R e w' → ∃ v, e = .returned v ∧ Chs (blks M i) w w' ∧ WJ P ops Q M n (listed.setIfInBounds i true) N (pushd dst v L) w') : OpJ P ops Q M n listed i N L w :=
  oj_ef hi (ef_of_call hf hb hn hx h hr) hd fun _ _ hv => hv
end
end
end Go.Proofs.Ytjllhimhiekchaa
