/- A region that draws its order, with blocks that every operation keeps. No conditions: plain lemmas of the model. -/
import Derived.Test.YtpgalbgonmclaaaVs
namespace Go.Proofs.Ytpgalbgonmclaaa
open Go.RowKit
/-- The blocks of G are as they were. -/
def Kept (G : List Nat) (w w' : World) : Prop := ∀ b ∈ G, w'.heap[b]? = w.heap[b]?
theorem Kept.refl (G : List Nat) (w : World) : Kept G w w := fun _ _ => rfl
theorem Kept.tr {G : List Nat} {w w' w'' : World} (h : Kept G w w') (k : Kept G w' w'') : Kept G w w'' := fun b hb => (k b hb).trans (h b hb)
theorem kno {p : Nat → Prop} : ∀ b ∈ ([] : List Nat), p b := fun _ h => by cases h
theorem kin {p : Nat → Prop} {b : Nat} {G : List Nat} (h : p b) (h' : ∀ g ∈ G, p g) : ∀ g ∈ b :: G, p g := fun g hg => by
  rcases List.mem_cons.1 hg with rfl | hg
  · exact h
  · exact h' g hg
theorem Kept.ext {G : List Nat} {w w' : World} (e : Ext w w') (h : ∀ b ∈ G, b < w.heap.size) : Kept G w w' := fun b hb => e.block b (h b hb)
theorem Kept.own {G : List Nat} {w w' : World} {o : Option Nat} (e : w.grownBy w' o) (h : ∀ b ∈ G, b < w.heap.size) (hn : ∀ b ∈ G, some b ≠ o) : Kept G w w' := fun b hb => e.block b (h b hb) (hn b hb)
theorem Kept.chs {G S : List Nat} {w w' : World} (e : Chs S w w') (h : ∀ b ∈ G, b < w.heap.size) (hn : ∀ b ∈ G, b ∉ S) : Kept G w w' := fun b hb => e.block b (h b hb) (hn b hb)
theorem Kept.chg {G : List Nat} {g : Nat} {w w' : World} (e : Chg w g w') (h : ∀ b ∈ G, b < w.heap.size) (hn : ∀ b ∈ G, b ≠ g) : Kept G w w' := fun b hb => e.block b (h b hb) (fun k => hn b hb (by injection k))
theorem Blk.kep {G : List Nat} {w w' : World} {b : Nat} {t : TypeId} {cs : Array Value} (h : Blk w b t cs) (k : Kept G w w') (hb : b ∈ G := by simp) : Blk w' b t cs := (k b hb).trans h
theorem Row.sepLo {w : World} {base b n c m : Nat} {e : TypeId} {A : Option Addr} {xs : List Value} (h : Row w base e A n c xs) (hb : b < base) : some b ≠ (Value.slice A m c).ownBlock := by
  rcases h.2 with ⟨hv, _⟩ | ⟨g, cap, cur, hv, hg, _⟩
  · injection hv with hB _ _; subst hB; simp [Value.ownBlock]
  · injection hv with hB _ _; subst hB
    simp only [Value.ownBlock]
    intro e; injection e with e; omega
theorem Chs.own' {w w' : World} {o : Option Nat} (h : w.grownBy w' o) : Chs o.toList w w' :=
  ⟨h.os, h.tape, h.output, h.size, fun k hk hn => h.block k hk fun e => hn (by rw [← e]; simp)⟩
section
variable {P : Program} {ops : Array Oper} {Q : Exit → Act → World → Prop} {N : Nd} {L : List (Nat × Value)} {w : World} {G : List Nat}
/-- Whatever order is picked from here on; each operation keeps the blocks of G. -/
def wpK (P : Program) (ops : Array Oper) (Q : Exit → Act → World → Prop) (G : List Nat) : Nat → Array Bool → Act → World → Prop
  | 0, listed, a, w => Region.ready .any ops listed = [] ∧ Q .normal a w
  | n + 1, listed, a, w => (Region.ready .any ops listed = [] → Q .normal a w) ∧
      ∀ i ∈ Region.ready .any ops listed, wpOp P ops Q i (fun a' w' => Kept G w w' ∧ wpK P ops Q G n (listed.setIfInBounds i true) a' w') a w
theorem wpK_any : ∀ (n : Nat) (listed : Array Bool) (a : Act) (w : World), wpK P ops Q G n listed a w → wpAny P .any ops Q n listed a w
  | 0, _, _, _, h => h
  | n + 1, _, _, _, h => ⟨h.1, fun i hi => wpOp_mono (fun a' w' h' => wpK_any n _ a' w' h'.2) (h.2 i hi)⟩
theorem wpK_first {i : Nat} {oi : Oper} {v : Value} (D : Nat → Bool) (hi : ops[i]? = some oi) (hsel : ∀ (j : Nat) (o : Oper) cs b, ops[j]? = some o → o.op ≠ .select cs b)
    (hQ : ∀ c a w, Q (.panic c) (a.put oi.dst v) w → Q (.panic c) a w) :
    ∀ (n : Nat) (listed : Array Bool) (a : Act) (w : World),
      (∀ j oj, ops[j]? = some oj → j ≠ i → listed.getD j true = false → D j = true → ∃ e ∈ oj.after, Region.binds .any e = true ∧ (e.on = i ∨ D e.on = true ∧ listed.getD e.on true = false)) →
      (∀ j oj, ops[j]? = some oj → j ≠ i → listed.getD j true = false → D j = false → oi.apart ops oj = true) →
      i ∈ Region.ready .any ops listed → YieldsIf P ops (fun w' => Kept G w w') oi v a →
      wpK P ops Q G n (listed.setIfInBounds i true) (a.put oi.dst v) w → wpK P ops Q G (n + 1) listed a w := by
  intro n
  induction n with
  | zero =>
    intro listed a w _ _ hr hy H
    refine ⟨fun h => (by rw [h] at hr; cases hr), fun j hj => ?_⟩
    by_cases hji : j = i
    · subst hji; exact hy.wpOp hi (Kept.refl G w) ⟨Kept.refl _ w, H⟩
    · have := ready_mono hj hji
      rw [H.1] at this
      cases this
  | succ n ih =>
    intro listed a w hdep hfree hr hy H
    refine ⟨fun h => (by rw [h] at hr; cases hr), fun j hj => ?_⟩
    by_cases hji : j = i
    · subst hji; exact hy.wpOp hi (Kept.refl G w) ⟨Kept.refl _ w, H⟩
    · have h1 := H.2 j (ready_mono hj hji)
      obtain ⟨hjun, oj, hoj, hall⟩ := mem_ready.1 hj
      have hDj : D j = false := by
        cases hd : D j with
        | false => rfl
        | true =>
          exfalso
          obtain ⟨e, he, hb, hor⟩ := hdep j oj hoj hji hjun hd
          have h1 := hall e he hb
          rcases hor with heq | ⟨_, hun⟩
          · have h0 := (mem_ready.1 hr).1
            rw [heq] at h1
            rcases Nat.lt_or_ge i listed.size with h' | h'
            · simp [h'] at h0 h1; rw [h0] at h1; cases h1
            · simp [Array.getElem?_eq_none h'] at h1
          · rcases Nat.lt_or_ge e.on listed.size with h' | h'
            · simp [h'] at hun h1; rw [hun] at h1; cases h1
            · simp [Array.getElem?_eq_none h'] at h1
      have hap := hfree j oj hoj hji hjun hDj
      have h2 := wpOp_putIf hoj hap (fun cs b => hsel i oi cs b hi) (fun cs b => hsel j oj cs b hoj) hQ hy h1
      have back : ∀ k, (listed.setIfInBounds j true).getD k true = false → listed.getD k true = false := fun k hun => by
        by_cases hjk : j = k
        · subst hjk; exact hjun
        · rwa [getD_set_ne true hjk] at hun
      have hdep' : ∀ k ok, ops[k]? = some ok → k ≠ i → (listed.setIfInBounds j true).getD k true = false → D k = true → ∃ e ∈ ok.after, Region.binds .any e = true ∧ (e.on = i ∨ D e.on = true ∧ (listed.setIfInBounds j true).getD e.on true = false) := fun k ok hk hki hun hd => by
        obtain ⟨e, he, hb, hor⟩ := hdep k ok hk hki (back k hun) hd
        refine ⟨e, he, hb, hor.imp id fun ⟨h3, h4⟩ => ⟨h3, ?_⟩⟩
        have hne : j ≠ e.on := by rintro rfl; rw [hDj] at h3; cases h3
        rw [getD_set_ne true hne]; exact h4
      have hfree' : ∀ k ok, ops[k]? = some ok → k ≠ i → (listed.setIfInBounds j true).getD k true = false → D k = false → oi.apart ops ok = true := fun k ok hk hki hun hd =>
        hfree k ok hk hki (back k hun) hd
      refine wpOp_mono (fun a' w' h3 => ?_) h2
      obtain ⟨hy', hx, hrest⟩ := h3
      refine ⟨hx, ih (listed.setIfInBounds j true) a' w' hdep' hfree' (ready_mono hr (Ne.symm hji)) (hy'.imp (fun ⟨q1, q2⟩ => ⟨q1, fun w2 e2 => q2 w2 (hx.tr e2)⟩) id) ?_⟩
      rw [Array.setIfInBounds_comm _ _ hji]
      exact hrest

def WG (P : Program) (ops : Array Oper) (Q : Exit → Act → World → Prop) (G : List Nat) (n : Nat) (listed : Array Bool) (N : Nd) (L : List (Nat × Value)) (w : World) : Prop := ∀ a, Fr N L a → wpK P ops Q G n listed a w
theorem wc_drawG (G : List Nat) {id : Nat} {l : List Oper} (hm : P.follows .mixedOrders = true) (n : Nat) (hn : l.length = n) (h : ∀ w', Ext w w' → w'.heap = w.heap → WG P l.toArray (NoP Q) G n (Array.replicate n false) N L w') : WC P Q (.region id l.toArray true) N L w := by
  intro a ha
  subst hn
  have h1 : (Code.region id l.toArray true).wp P (NoP Q) a w := by
    refine wp_region_any hm (wpK_any (G := G) _ _ _ _ ?_)
    rw [List.size_toArray]
    exact h _ (Ext.drew w) rfl a ha
  refine wp_mono h1 fun e a w hq => ?_
  cases e <;> first | exact hq | exact hq.elim
theorem wg_done {n : Nat} {listed : Array Bool} (hr : Region.ready .any ops listed = []) (h : WQ Q .normal N L w) : WG P ops Q G n listed N L w := by
  intro a ha
  cases n with
  | zero => exact ⟨hr, h a ha⟩
  | succ n => exact ⟨fun _ => h a ha, by rw [hr]; simp⟩
/-- All that may come before number i is apart from it. -/
def freeByK (md : Region.Mode) (ops : Array Oper) (listed : Array Bool) (i : Nat) (D : List Bool) : Bool :=
  Region.noSelect ops && (match ops[i]? with
    | none => false
    | some oi => (List.range ops.size).all fun j => j == i || (listed.getD j true || (match ops[j]? with
        | none => true
        | some oj => cond (D.getD j false) (oj.after.any fun e => Region.binds md e && (e.on == i || (D.getD e.on false && !listed.getD e.on true))) (oi.apart ops oj)))) && (Region.ready md ops listed).contains i
theorem wg_take {n : Nat} {listed : Array Bool} {i : Nat} {oi : Oper} {v : Value} (hi : ops[i]? = some oi) (hf : freeByK .any ops listed i (depSet .any ops listed i) = true)
    (hy : ∀ a, Fr N L a → YieldsIf P ops (fun w' => Kept G w w') oi v a) (hd : dOk N oi.dst = true) (h : WG P ops (NoP Q) G n (listed.setIfInBounds i true) N (pushd oi.dst v L) w) : WG P ops (NoP Q) G (n + 1) listed N L w := by
  intro a ha
  generalize depSet .any ops listed i = D at hf
  simp only [freeByK, hi, Bool.and_eq_true, List.all_eq_true, List.mem_range, Bool.or_eq_true, beq_iff_eq] at hf
  obtain ⟨⟨h1, h2⟩, h4⟩ := hf
  have key : ∀ j oj, ops[j]? = some oj → j ≠ i → listed.getD j true = false → cond (D.getD j false) (oj.after.any fun e => Region.binds .any e && (e.on == i || (D.getD e.on false && !listed.getD e.on true))) (oi.apart ops oj) = true := fun j oj hj hne hun => by
    have := h2 j (Array.getElem?_eq_some_iff.1 hj).1
    rcases this with h | h | h
    · exact absurd h hne
    · rw [hun] at h; cases h
    · rw [hj] at h; exact h
  refine wpK_first (fun j => D.getD j false) hi (Region.noSelect_spec h1) (fun c a w h => h) n listed a w (fun j oj hj hne hun hd => ?_) (fun j oj hj hne hun hd => ?_) (by simpa using h4) (hy a ha) (h _ (ha.putd hd v))
  · have k := key j oj hj hne hun
    rw [hd, cond_true] at k
    obtain ⟨e, he, hb⟩ := Array.any_eq_true'.1 k
    simp only [Bool.and_eq_true, Bool.or_eq_true, beq_iff_eq, Bool.not_eq_true'] at hb
    exact ⟨e, he, hb.1, hb.2⟩
  · have k := key j oj hj hne hun
    rw [hd, cond_false] at k
    exact k
theorem wg_y {n : Nat} {listed : Array Bool} (i : Nat) {op : Op} {ty : TypeId} {v : Value} {dst : Option Tmp} {pos : String} {after : Array Edge} (hi : ops[i]? = some ⟨dst, op, ty, pos, after, none⟩) (hf : freeByK .any ops listed i (depSet .any ops listed i) = true) (h : ∀ w', Kept G w w' → Y P L w' op ty v) (hd : dOk N dst = true)
    (hr : WG P ops (NoP Q) G n (listed.setIfInBounds i true) N (pushd dst v L) w) : WG P ops (NoP Q) G (n + 1) listed N L w :=
  wg_take hi hf (fun a ha => .inl ⟨rfl, fun w' e => h w' e a.eval (fun _ _ hx => ha.ev hx) w' (Ext.refl w') _ _ _ _⟩) hd hr
/-- One of those that may come up: what it does. -/
def OpG (P : Program) (ops : Array Oper) (Q : Exit → Act → World → Prop) (G : List Nat) (n : Nat) (listed : Array Bool) (i : Nat) (N : Nd) (L : List (Nat × Value)) (w : World) : Prop :=
  ∀ a, Fr N L a → wpOp P ops Q i (fun a' w' => Kept G w w' ∧ wpK P ops Q G n (listed.setIfInBounds i true) a' w') a w
theorem wg_all {n : Nat} {listed : Array Bool} (rs : List Nat) (hr : Region.ready .any ops listed = rs) (hne : rs.isEmpty = false) (h : ∀ i ∈ rs, OpG P ops Q G n listed i N L w) : WG P ops Q G (n + 1) listed N L w := by
  intro a ha
  refine ⟨fun h0 => ?_, fun i hi => h i (hr ▸ hi) a ha⟩
  rw [hr] at h0
  rw [h0] at hne
  cases hne
theorem wg_one {n : Nat} {listed : Array Bool} (i : Nat) (hr : Region.ready .any ops listed = [i]) (h : OpG P ops Q G n listed i N L w) : WG P ops Q G (n + 1) listed N L w :=
  wg_all [i] hr rfl (fun k hk => by simp only [List.mem_singleton] at hk; subst hk; exact h)
theorem wg_two {n : Nat} {listed : Array Bool} (i j : Nat) (hr : Region.ready .any ops listed = [i, j]) (h : OpG P ops Q G n listed i N L w) (h' : OpG P ops Q G n listed j N L w) : WG P ops Q G (n + 1) listed N L w :=
  wg_all [i, j] hr rfl (fun k hk => by
    simp only [List.mem_cons, List.not_mem_nil, or_false] at hk
    rcases hk with hk | hk <;> subst hk
    · exact h
    · exact h')
theorem og_ef {n : Nat} {listed : Array Bool} {i : Nat} {op : Op} {ty : TypeId} {Φ : Value → World → Prop} {dst : Option Tmp} {pos : String} {after : Array Edge} (hi : ops[i]? = some ⟨dst, op, ty, pos, after, none⟩) (h : Ef P L w op ty Φ) (hd : dOk N dst = true)
    (hr : ∀ v w', Φ v w' → Kept G w w' ∧ WG P ops Q G n (listed.setIfInBounds i true) N (pushd dst v L) w') : OpG P ops Q G n listed i N L w := by
  intro a ha
  unfold wpOp
  simp only [hi]
  rw [if_pos (by simp [Region.wanted])]
  exact .inl (h a N ha _ _ _ _ _ _ fun v w' hv => ⟨(hr v w' hv).1, (hr v w' hv).2 _ (ha.putd hd v)⟩)
section
variable {f : FuncId} {xs : List Operand} {ats : Array TypeId} {vs : List Value} {R : Ending → World → Prop} {fn : Func} {c : Code} {ty : TypeId} {dst : Option Tmp} {pos : String} {after : Array Edge}
theorem og_call {n : Nat} {listed : Array Bool} {i : Nat} (hi : ops[i]? = some ⟨dst, .call { callee := .value (.func f), args := xs.toArray, argTypes := ats }, ty, pos, after, none⟩) (hf : P.funcs[f]? = some fn) (hb : fn.body = some c) (hn : (fn.name == "runtime.NumGoroutine") = false) (hx : evs L xs = some vs) (h : Calls P f vs.toArray w R) (hd : dOk N dst = true)
    (hr : ∀ e w', R e w' → ∃ v, e = .returned v ∧ Kept G w w' ∧ WG P ops Q G n (listed.setIfInBounds i true) N (pushd dst v L) w') : OpG P ops Q G n listed i N L w :=
  og_ef hi (ef_of_call hf hb hn hx h hr) hd fun _ _ hv => hv
end
end
theorem Kp.own {N : Nat} {Φ : World → Prop} {w w' : World} {o o' : Option Nat} (h : Kp N o.toList Φ w) (gr : w.grownBy w' o) (hgl : o' = o ∨ o' = some w.heap.size) : Kp N o'.toList Φ w' := by
  have h1 : Kp N o.toList Φ w' := h.chs (Chs.own' gr) (fun _ h => h)
  rcases hgl with rfl | rfl
  · exact h1
  · refine ⟨h1.1, fun w2 hw => h1.2 w2 fun k hk _ => hw k hk ?_⟩
    have := h.1
    simp; omega
theorem Ext.cellE {w w' : World} {a : Addr} {v : Value} (e : Ext w w') (h : w.cell? a = some v) : w'.cell? a = some v := (e.cell (cell_lt h)).trans h
end Go.Proofs.Ytpgalbgonmclaaa
