/- A region that draws its order, walked in one order: what only reads is taken first; what makes memory is taken as it comes up; a store comes behind all that must not see it. No conditions: plain lemmas of the model. -/
import Derived.Test.YtopimmomkapdoaaVc
namespace Go.Proofs.Ytopimmomkapdoaa
open Go.RowKit

/-- May number i turn memory that was there? (A store, a copy, an append.) -/
def turns (ops : Array Oper) (i : Nat) : Bool :=
  match ((ops[i]?).map (·.op) : Option Op) with
  | some (.store _ _ _) => true
  | some (.call { callee := .builtin .copy, .. }) => true
  | some (.call { callee := .builtin .append, .. }) => true
  | some (.call _) => i + 1 == ops.size && (List.range i).all fun j => ops.any fun o => o.after.any fun e => e.on == j && Region.binds .any e
  | _ => false

section
variable {P : Program} {ops : Array Oper} {Q : Exit → Act → World → Prop} {md : Region.Mode} {N : Nd} {L : List (Nat × Value)} {w : World}

/-- Whatever order is picked from here on; what is no store leaves all that was there. -/
def wpM (P : Program) (md : Region.Mode) (ops : Array Oper) (Q : Exit → Act → World → Prop) : Nat → Array Bool → Act → World → Prop
  | 0, listed, a, w => Region.ready md ops listed = [] ∧ Q .normal a w
  | n + 1, listed, a, w => (Region.ready md ops listed = [] → Q .normal a w) ∧
      ∀ i ∈ Region.ready md ops listed, wpOp P ops Q i (fun a' w' => (turns ops i = true ∨ Ext w w') ∧ wpM P md ops Q n (listed.setIfInBounds i true) a' w') a w
theorem wpM_any : ∀ (n : Nat) (listed : Array Bool) (a : Act) (w : World), wpM P md ops Q n listed a w → wpAny P md ops Q n listed a w
  | 0, _, _, _, h => h
  | n + 1, _, _, _, h => ⟨h.1, fun i hi => wpOp_mono (fun a' w' h' => wpM_any n _ a' w' h'.2) (h.2 i hi)⟩

/-- In this state, in every world that has all that w has, 'o' leaves v. -/
def Steady (P : Program) (ops : Array Oper) (w : World) (o : Oper) (v : Value) (a : Act) : Prop := YieldsIf P ops (fun w' => Ext w w') o v a
theorem Steady.later {w w' : World} {o : Oper} {v : Value} {a : Act} (h : Steady P ops w o v a) (e : Ext w w') : Steady P ops w' o v a :=
  h.imp (fun ⟨h1, h2⟩ => ⟨h1, fun w2 e2 => h2 w2 (e.tr e2)⟩) id

theorem wpM_first {i : Nat} {oi : Oper} {v : Value} (D : Nat → Bool) (hi : ops[i]? = some oi) (hsel : ∀ (j : Nat) (o : Oper) cs b, ops[j]? = some o → o.op ≠ .select cs b)
    (hQ : ∀ c a w, Q (.panic c) (a.put oi.dst v) w → Q (.panic c) a w) :
    ∀ (n : Nat) (listed : Array Bool) (a : Act) (w : World),
      (∀ j oj, ops[j]? = some oj → j ≠ i → listed.getD j true = false → D j = true → ∃ e ∈ oj.after, Region.binds md e = true ∧ (e.on = i ∨ D e.on = true ∧ listed.getD e.on true = false)) →
      (∀ j oj, ops[j]? = some oj → j ≠ i → listed.getD j true = false → D j = false → oi.apart ops oj = true ∧ turns ops j = false) →
      i ∈ Region.ready md ops listed → Steady P ops w oi v a →
      wpM P md ops Q n (listed.setIfInBounds i true) (a.put oi.dst v) w → wpM P md ops Q (n + 1) listed a w := by
  intro n
  induction n with
  | zero =>
    intro listed a w _ _ hr hy H
    refine ⟨fun h => (by rw [h] at hr; cases hr), fun j hj => ?_⟩
    by_cases hji : j = i
    · subst hji; exact hy.wpOp hi (Ext.refl w) ⟨.inr (Ext.refl w), H⟩
    · have := ready_mono hj hji
      rw [H.1] at this
      cases this
  | succ n ih =>
    intro listed a w hdep hfree hr hy H
    refine ⟨fun h => (by rw [h] at hr; cases hr), fun j hj => ?_⟩
    by_cases hji : j = i
    · subst hji; exact hy.wpOp hi (Ext.refl w) ⟨.inr (Ext.refl w), H⟩
    · have h1 := H.2 j (ready_mono hj hji)
      obtain ⟨hjun, oj, hoj, hall⟩ := mem_ready.1 hj
      have hDj : D j = false := by
        cases hd : D j with
        | false => rfl
        | true =>
          exfalso
          obtain ⟨e, he, hb, hor⟩ := hdep j oj hoj hji hjun hd
          have h1 := hall e he hb
          rcases hor with heq | ⟨_, hun⟩
          · have h0 := (mem_ready.1 hr).1
            rw [heq] at h1
            rcases Nat.lt_or_ge i listed.size with h' | h'
            · simp [h'] at h0 h1; rw [h0] at h1; cases h1
            · simp [Array.getElem?_eq_none h'] at h1
          · rcases Nat.lt_or_ge e.on listed.size with h' | h'
            · simp [h'] at hun h1; rw [hun] at h1; cases h1
            · simp [Array.getElem?_eq_none h'] at h1
      obtain ⟨hap, htu⟩ := hfree j oj hoj hji hjun hDj
      have h2 := wpOp_putIf hoj hap (fun cs b => hsel i oi cs b hi) (fun cs b => hsel j oj cs b hoj) hQ hy h1
      have back : ∀ k, (listed.setIfInBounds j true).getD k true = false → listed.getD k true = false := fun k hun => by
        by_cases hjk : j = k
        · subst hjk; exact hjun
        · rwa [getD_set_ne true hjk] at hun
      have hdep' : ∀ k ok, ops[k]? = some ok → k ≠ i → (listed.setIfInBounds j true).getD k true = false → D k = true → ∃ e ∈ ok.after, Region.binds md e = true ∧ (e.on = i ∨ D e.on = true ∧ (listed.setIfInBounds j true).getD e.on true = false) := fun k ok hk hki hun hd => by
        obtain ⟨e, he, hb, hor⟩ := hdep k ok hk hki (back k hun) hd
        refine ⟨e, he, hb, hor.imp id fun ⟨h3, h4⟩ => ⟨h3, ?_⟩⟩
        have hne : j ≠ e.on := by rintro rfl; rw [hDj] at h3; cases h3
        rw [getD_set_ne true hne]; exact h4
      have hfree' : ∀ k ok, ops[k]? = some ok → k ≠ i → (listed.setIfInBounds j true).getD k true = false → D k = false → oi.apart ops ok = true ∧ turns ops k = false := fun k ok hk hki hun hd =>
        hfree k ok hk hki (back k hun) hd
      refine wpOp_mono (fun a' w' h3 => ?_) h2
      obtain ⟨hy', hx, hrest⟩ := h3
      rcases hx with hx | hx
      · rw [htu] at hx; cases hx
      · refine ⟨.inr hx, ih (listed.setIfInBounds j true) a' w' hdep' hfree' (ready_mono hr (Ne.symm hji)) (Steady.later hy' hx) ?_⟩
        rw [Array.setIfInBounds_comm _ _ hji]
        exact hrest

theorem wpM_firstZ {i : Nat} {oi : Oper} {v : Value} (D : Nat → Bool) (hi : ops[i]? = some oi) (hsel : ∀ (j : Nat) (o : Oper) cs b, ops[j]? = some o → o.op ≠ .select cs b)
    (hQ : ∀ c a w, Q (.panic c) (a.put oi.dst v) w → Q (.panic c) a w) :
    ∀ (n : Nat) (listed : Array Bool) (a : Act) (w : World),
      (∀ j oj, ops[j]? = some oj → j ≠ i → listed.getD j true = false → D j = true → ∃ e ∈ oj.after, Region.binds md e = true ∧ (e.on = i ∨ D e.on = true ∧ listed.getD e.on true = false)) →
      (∀ j oj, ops[j]? = some oj → j ≠ i → listed.getD j true = false → D j = false → oi.apart ops oj = true) →
      i ∈ Region.ready md ops listed → YieldsIf P ops (fun _ => True) oi v a →
      wpM P md ops Q n (listed.setIfInBounds i true) (a.put oi.dst v) w → wpM P md ops Q (n + 1) listed a w := by
  intro n
  induction n with
  | zero =>
    intro listed a w _ _ hr hy H
    refine ⟨fun h => (by rw [h] at hr; cases hr), fun j hj => ?_⟩
    by_cases hji : j = i
    · subst hji; exact hy.wpOp hi trivial ⟨.inr (Ext.refl w), H⟩
    · have := ready_mono hj hji
      rw [H.1] at this
      cases this
  | succ n ih =>
    intro listed a w hdep hfree hr hy H
    refine ⟨fun h => (by rw [h] at hr; cases hr), fun j hj => ?_⟩
    by_cases hji : j = i
    · subst hji; exact hy.wpOp hi trivial ⟨.inr (Ext.refl w), H⟩
    · have h1 := H.2 j (ready_mono hj hji)
      obtain ⟨hjun, oj, hoj, hall⟩ := mem_ready.1 hj
      have hDj : D j = false := by
        cases hd : D j with
        | false => rfl
        | true =>
          exfalso
          obtain ⟨e, he, hb, hor⟩ := hdep j oj hoj hji hjun hd
          have h1 := hall e he hb
          rcases hor with heq | ⟨_, hun⟩
          · have h0 := (mem_ready.1 hr).1
            rw [heq] at h1
            rcases Nat.lt_or_ge i listed.size with h' | h'
            · simp [h'] at h0 h1; rw [h0] at h1; cases h1
            · simp [Array.getElem?_eq_none h'] at h1
          · rcases Nat.lt_or_ge e.on listed.size with h' | h'
            · simp [h'] at hun h1; rw [hun] at h1; cases h1
            · simp [Array.getElem?_eq_none h'] at h1
      have hap := hfree j oj hoj hji hjun hDj
      have h2 := wpOp_putIf hoj hap (fun cs b => hsel i oi cs b hi) (fun cs b => hsel j oj cs b hoj) hQ hy h1
      have back : ∀ k, (listed.setIfInBounds j true).getD k true = false → listed.getD k true = false := fun k hun => by
        by_cases hjk : j = k
        · subst hjk; exact hjun
        · rwa [getD_set_ne true hjk] at hun
      have hdep' : ∀ k ok, ops[k]? = some ok → k ≠ i → (listed.setIfInBounds j true).getD k true = false → D k = true → ∃ e ∈ ok.after, Region.binds md e = true ∧ (e.on = i ∨ D e.on = true ∧ (listed.setIfInBounds j true).getD e.on true = false) := fun k ok hk hki hun hd => by
        obtain ⟨e, he, hb, hor⟩ := hdep k ok hk hki (back k hun) hd
        refine ⟨e, he, hb, hor.imp id fun ⟨h3, h4⟩ => ⟨h3, ?_⟩⟩
        have hne : j ≠ e.on := by rintro rfl; rw [hDj] at h3; cases h3
        rw [getD_set_ne true hne]; exact h4
      have hfree' : ∀ k ok, ops[k]? = some ok → k ≠ i → (listed.setIfInBounds j true).getD k true = false → D k = false → oi.apart ops ok = true := fun k ok hk hki hun hd =>
        hfree k ok hk hki (back k hun) hd
      refine wpOp_mono (fun a' w' h3 => ?_) h2
      obtain ⟨hy', hx, hrest⟩ := h3
      refine ⟨hx, ih (listed.setIfInBounds j true) a' w' hdep' hfree' (ready_mono hr (Ne.symm hji)) hy' ?_⟩
      rw [Array.setIfInBounds_comm _ _ hji]
      exact hrest

/-- The judgement: n operations are still to come. -/
def WM (P : Program) (ops : Array Oper) (Q : Exit → Act → World → Prop) (n : Nat) (listed : Array Bool) (N : Nd) (L : List (Nat × Value)) (w : World) : Prop := ∀ a, Fr N L a → wpM P .any ops Q n listed a w

/-- No way out by panic looks at the frame: 'Q' at a panic is False for us. -/
def NoP (Q : Exit → Act → World → Prop) : Exit → Act → World → Prop
  | .panic _, _, _ => False
  | e, a, w => Q e a w
theorem wq_nop (h : WQ Q .normal N L w) : WQ (NoP Q) .normal N L w := h

theorem wc_draw {id : Nat} {l : List Oper} (hm : P.follows .mixedOrders = true) (n : Nat) (hn : l.length = n) (h : ∀ w', Ext w w' → w'.heap = w.heap → WM P l.toArray (NoP Q) n (Array.replicate n false) N L w') : WC P Q (.region id l.toArray true) N L w := by
  intro a ha
  subst hn
  have h1 : (Code.region id l.toArray true).wp P (NoP Q) a w := by
    refine wp_region_any hm (wpM_any _ _ _ _ ?_)
    rw [List.size_toArray]
    exact h _ (Ext.drew w) rfl a ha
  refine wp_mono h1 fun e a w hq => ?_
  cases e <;> first | exact hq | exact hq.elim
theorem wm_done {n : Nat} {listed : Array Bool} (hr : Region.ready .any ops listed = []) (h : WQ Q .normal N L w) : WM P ops Q n listed N L w := by
  intro a ha
  cases n with
  | zero => exact ⟨hr, h a ha⟩
  | succ n => exact ⟨fun _ => h a ha, by rw [hr]; simp⟩

/-- What waits for number i, at once or through others. -/
def depSet (md : Region.Mode) (ops : Array Oper) (listed : Array Bool) (i : Nat) : List Bool :=
  (List.range ops.size).foldl (fun D j => D ++ [match ops[j]? with
    | some o => !listed.getD j true && o.after.any (fun e => Region.binds md e && (e.on == i || (D.getD e.on false && !listed.getD e.on true)))
    | none => false]) []
def freeBy (md : Region.Mode) (ops : Array Oper) (listed : Array Bool) (i : Nat) (D : List Bool) : Bool :=
  Region.noSelect ops && (match ops[i]? with
    | none => false
    | some oi => (List.range ops.size).all fun j => j == i || (listed.getD j true || (match ops[j]? with
        | none => true
        | some oj => cond (D.getD j false) (oj.after.any fun e => Region.binds md e && (e.on == i || (D.getD e.on false && !listed.getD e.on true))) (oi.apart ops oj && !turns ops j)))) && (Region.ready md ops listed).contains i
/-- All that may come before number i is apart from it and no store. -/
def freeOf (md : Region.Mode) (ops : Array Oper) (listed : Array Bool) (i : Nat) : Bool := freeBy md ops listed i (depSet md ops listed i)
theorem wm_take {n : Nat} {listed : Array Bool} {i : Nat} {oi : Oper} {v : Value} (hi : ops[i]? = some oi) (hf : freeOf .any ops listed i = true)
    (hy : ∀ a, Fr N L a → Steady P ops w oi v a) (hd : dOk N oi.dst = true) (h : WM P ops (NoP Q) n (listed.setIfInBounds i true) N (pushd oi.dst v L) w) : WM P ops (NoP Q) (n + 1) listed N L w := by
  intro a ha
  unfold freeOf at hf
  generalize depSet .any ops listed i = D at hf
  simp only [freeBy, hi, Bool.and_eq_true, List.all_eq_true, List.mem_range, Bool.or_eq_true, beq_iff_eq] at hf
  obtain ⟨⟨h1, h2⟩, h4⟩ := hf
  have key : ∀ j oj, ops[j]? = some oj → j ≠ i → listed.getD j true = false → cond (D.getD j false) (oj.after.any fun e => Region.binds .any e && (e.on == i || (D.getD e.on false && !listed.getD e.on true))) (oi.apart ops oj && !turns ops j) = true := fun j oj hj hne hun => by
    have := h2 j (Array.getElem?_eq_some_iff.1 hj).1
    rcases this with h | h | h
    · exact absurd h hne
    · rw [hun] at h; cases h
    · simpa [hj] using h
  refine wpM_first (fun j => D.getD j false) hi (Region.noSelect_spec h1) (fun c a w h => h) n listed a w (fun j oj hj hne hun hd => ?_) (fun j oj hj hne hun hd => ?_) (by simpa using h4) (hy a ha) (h _ (ha.putd hd v))
  · have k := key j oj hj hne hun
    rw [hd, cond_true] at k
    obtain ⟨e, he, hb⟩ := Array.any_eq_true'.1 k
    simp only [Bool.and_eq_true, Bool.or_eq_true, beq_iff_eq, Bool.not_eq_true'] at hb
    exact ⟨e, he, hb.1, hb.2⟩
  · have k := key j oj hj hne hun
    rw [hd, cond_false, Bool.and_eq_true, Bool.not_eq_true'] at k
    exact k
/-- The same of what looks at no memory: stores may come ahead of it too. -/
def freeByZ (md : Region.Mode) (ops : Array Oper) (listed : Array Bool) (i : Nat) (D : List Bool) : Bool :=
  Region.noSelect ops && (match ops[i]? with
    | none => false
    | some oi => (List.range ops.size).all fun j => j == i || (listed.getD j true || (match ops[j]? with
        | none => true
        | some oj => cond (D.getD j false) (oj.after.any fun e => Region.binds md e && (e.on == i || (D.getD e.on false && !listed.getD e.on true))) (oi.apart ops oj)))) && (Region.ready md ops listed).contains i
def freeZ (md : Region.Mode) (ops : Array Oper) (listed : Array Bool) (i : Nat) : Bool := freeByZ md ops listed i (depSet md ops listed i)
theorem wm_z {n : Nat} {listed : Array Bool} (i : Nat) {op : Op} {ty : TypeId} {v : Value} {dst : Option Tmp} {pos : String} {after : Array Edge} (hi : ops[i]? = some ⟨dst, op, ty, pos, after, none⟩) (hf : freeZ .any ops listed i = true) (hy : ∀ w0, Y P L w0 op ty v) (hd : dOk N dst = true)
    (hr : WM P ops (NoP Q) n (listed.setIfInBounds i true) N (pushd dst v L) w) : WM P ops (NoP Q) (n + 1) listed N L w := by
  intro a ha
  unfold freeZ at hf
  generalize depSet .any ops listed i = D at hf
  simp only [freeByZ, hi, Bool.and_eq_true, List.all_eq_true, List.mem_range, Bool.or_eq_true, beq_iff_eq] at hf
  obtain ⟨⟨h1, h2⟩, h4⟩ := hf
  have key : ∀ j oj, ops[j]? = some oj → j ≠ i → listed.getD j true = false → cond (D.getD j false) (oj.after.any fun e => Region.binds .any e && (e.on == i || (D.getD e.on false && !listed.getD e.on true))) (Oper.apart ops ⟨dst, op, ty, pos, after, none⟩ oj) = true := fun j oj hj hne hun => by
    have := h2 j (Array.getElem?_eq_some_iff.1 hj).1
    rcases this with h | h | h
    · exact absurd h hne
    · rw [hun] at h; cases h
    · simpa [hj] using h
  refine wpM_firstZ (fun j => D.getD j false) hi (Region.noSelect_spec h1) (fun c a w h => h) n listed a w (fun j oj hj hne hun hd => ?_) (fun j oj hj hne hun hd => ?_) (by simpa using h4) (.inl ⟨rfl, fun w' _ => hy w' a.eval (fun _ _ hx => ha.ev hx) w' (Ext.refl w') _ _ _ _⟩) (hr _ (ha.putd hd v))
  · have k := key j oj hj hne hun
    rw [hd, cond_true] at k
    obtain ⟨e, he, hb⟩ := Array.any_eq_true'.1 k
    simp only [Bool.and_eq_true, Bool.or_eq_true, beq_iff_eq, Bool.not_eq_true'] at hb
    exact ⟨e, he, hb.1, hb.2⟩
  · have k := key j oj hj hne hun
    rwa [hd, cond_false] at k
theorem wm_y {n : Nat} {listed : Array Bool} (i : Nat) {op : Op} {ty : TypeId} {v : Value} {dst : Option Tmp} {pos : String} {after : Array Edge} (hi : ops[i]? = some ⟨dst, op, ty, pos, after, none⟩) (hf : freeOf .any ops listed i = true) (h : Y P L w op ty v) (hd : dOk N dst = true)
    (hr : WM P ops (NoP Q) n (listed.setIfInBounds i true) N (pushd dst v L) w) : WM P ops (NoP Q) (n + 1) listed N L w :=
  wm_take hi hf (fun a ha => .inl ⟨rfl, fun w' e => h a.eval (fun _ _ hx => ha.ev hx) w' e _ _ _ _⟩) hd hr
theorem wm_gy {n : Nat} {listed : Array Bool} (i : Nat) {op : Op} {ty : TypeId} {v : Value} {dst : Option Tmp} {pos : String} {after : Array Edge} {j : Nat} {b : Bool} (hi : ops[i]? = some ⟨dst, op, ty, pos, after, some (j, b)⟩) (hf : freeOf .any ops listed i = true)
    (t : Tmp) (hj : (ops[j]?).bind (·.dst) = some t) (ht : look L t = some (.bool b)) (h : Y P L w op ty v) (hd : dOk N dst = true)
    (hr : WM P ops (NoP Q) n (listed.setIfInBounds i true) N (pushd dst v L) w) : WM P ops (NoP Q) (n + 1) listed N L w :=
  wm_take hi hf (fun a ha => .inl ⟨by rw [wanted_of ha hj ht]; simp, fun w' e => h a.eval (fun _ _ hx => ha.ev hx) w' e _ _ _ _⟩) hd hr
theorem wm_gno {n : Nat} {listed : Array Bool} (i : Nat) {op : Op} {ty : TypeId} {dst : Option Tmp} {pos : String} {after : Array Edge} {j : Nat} {b b' : Bool} (hi : ops[i]? = some ⟨dst, op, ty, pos, after, some (j, b')⟩) (hf : freeOf .any ops listed i = true)
    (t : Tmp) (hj : (ops[j]?).bind (·.dst) = some t) (ht : look L t = some (.bool b)) (hb : (b == b') = false) (hd : dOk N dst = true)
    (hr : WM P ops (NoP Q) n (listed.setIfInBounds i true) N (pushd dst undef L) w) : WM P ops (NoP Q) (n + 1) listed N L w :=
  wm_take hi hf (fun a ha => .inr ⟨by rw [wanted_of ha hj ht, hb], rfl⟩) hd hr

theorem wm_all {n : Nat} {listed : Array Bool} (rs : List Nat) (hr : Region.ready .any ops listed = rs) (hne : rs.isEmpty = false)
    (h : ∀ i ∈ rs, ∀ a, Fr N L a → wpOp P ops Q i (fun a' w' => (turns ops i = true ∨ Ext w w') ∧ wpM P .any ops Q n (listed.setIfInBounds i true) a' w') a w) : WM P ops Q (n + 1) listed N L w := by
  intro a ha
  refine ⟨fun h0 => ?_, fun i hi => h i (hr ▸ hi) a ha⟩
  rw [hr] at h0
  rw [h0] at hne
  cases hne
/-- One of those that may come up: what it does. -/
def OpM (P : Program) (ops : Array Oper) (Q : Exit → Act → World → Prop) (n : Nat) (listed : Array Bool) (i : Nat) (N : Nd) (L : List (Nat × Value)) (w : World) : Prop :=
  ∀ a, Fr N L a → wpOp P ops Q i (fun a' w' => (turns ops i = true ∨ Ext w w') ∧ wpM P .any ops Q n (listed.setIfInBounds i true) a' w') a w
theorem wm_one {n : Nat} {listed : Array Bool} (i : Nat) (hr : Region.ready .any ops listed = [i]) (h : OpM P ops Q n listed i N L w) : WM P ops Q (n + 1) listed N L w :=
  wm_all [i] hr rfl (fun k hk => by simp only [List.mem_singleton] at hk; subst hk; exact h)
theorem wm_two {n : Nat} {listed : Array Bool} (i j : Nat) (hr : Region.ready .any ops listed = [i, j]) (h : OpM P ops Q n listed i N L w) (h' : OpM P ops Q n listed j N L w) : WM P ops Q (n + 1) listed N L w :=
  wm_all [i, j] hr rfl (fun k hk => by
    simp only [List.mem_cons, List.not_mem_nil, or_false] at hk
    rcases hk with hk | hk <;> subst hk
    · exact h
    · exact h')
theorem wm_three {n : Nat} {listed : Array Bool} (i j k : Nat) (hr : Region.ready .any ops listed = [i, j, k]) (h : OpM P ops Q n listed i N L w) (h' : OpM P ops Q n listed j N L w) (h'' : OpM P ops Q n listed k N L w) : WM P ops Q (n + 1) listed N L w :=
  wm_all [i, j, k] hr rfl (fun m hk => by
    simp only [List.mem_cons, List.not_mem_nil, or_false] at hk
    rcases hk with hk | hk | hk <;> subst hk
    · exact h
    · exact h'
    · exact h'')
theorem om_ef {n : Nat} {listed : Array Bool} {i : Nat} {op : Op} {ty : TypeId} {Φ : Value → World → Prop} {dst : Option Tmp} {pos : String} {after : Array Edge} (hi : ops[i]? = some ⟨dst, op, ty, pos, after, none⟩) (h : Ef P L w op ty Φ) (hd : dOk N dst = true)
    (hr : ∀ v w', Φ v w' → (turns ops i = true ∨ Ext w w') ∧ WM P ops Q n (listed.setIfInBounds i true) N (pushd dst v L) w') : OpM P ops Q n listed i N L w := by
  intro a ha
  unfold wpOp
  simp only [hi]
  rw [if_pos (by simp [Region.wanted])]
  exact .inl (h a N ha _ _ _ _ _ _ fun v w' hv => ⟨(hr v w' hv).1, (hr v w' hv).2 _ (ha.putd hd v)⟩)
theorem om_gef {n : Nat} {listed : Array Bool} {i : Nat} {op : Op} {ty : TypeId} {Φ : Value → World → Prop} {dst : Option Tmp} {pos : String} {after : Array Edge} {j : Nat} {b : Bool} (hi : ops[i]? = some ⟨dst, op, ty, pos, after, some (j, b)⟩)
    (t : Tmp) (hj : (ops[j]?).bind (·.dst) = some t) (ht : look L t = some (.bool b)) (h : Ef P L w op ty Φ) (hd : dOk N dst = true)
    (hr : ∀ v w', Φ v w' → (turns ops i = true ∨ Ext w w') ∧ WM P ops Q n (listed.setIfInBounds i true) N (pushd dst v L) w') : OpM P ops Q n listed i N L w := by
  intro a ha
  unfold wpOp
  simp only [hi]
  rw [if_pos (by rw [wanted_of ha hj ht]; simp)]
  exact .inl (h a N ha _ _ _ _ _ _ fun v w' hv => ⟨(hr v w' hv).1, (hr v w' hv).2 _ (ha.putd hd v)⟩)
end
end Go.Proofs.Ytopimmomkapdoaa
