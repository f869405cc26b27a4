/- A walk by small laws: what slots hold as a list, one law an operation, regions that draw their order taken in one order. No conditions: plain lemmas of the model. A region that draws its order, walked in one order: what only reads is taken first; what makes memory is taken as it comes up; a store comes behind all that must not see it. No conditions: plain lemmas of the model. -/
import Derived.Test.YtgfafidlkldeaaaGreatLib
import Derived.Lib.Hide
import Derived.Deep.LoopGhost
import Derived.Handy
import Derived.Test.YtgfafidlkldeaaaGreatChecked
set_option linter.unusedVariables false
set_option linter.unusedSimpArgs false
namespace Go.Proofs.YtgfafidlkldeaaaGreat
section
open Go.RowKit
def look : List (Nat × Value) → Nat → Option Value
 | [], _ => none
 | (k, v) :: l, t => cond (Nat.beq k t) (some v) (look l t)
structure Nd where
 n : Nat
 ds : List Deferred
instance : Coe Nat Nd := ⟨fun n => ⟨n, []⟩⟩
structure Fr (N : Nd) (L : List (Nat × Value)) (a : Act) : Prop where
 size : a.tmps.size = N.n
 defers : a.defers = N.ds
 has : ∀ t v, look L t = some v → a.tmps[t]? = some v
def ev (L : List (Nat × Value)) : Operand → Option Value
 | .tmp t => look L t
 | .const v => some v
 | .global g => some (.pointer (some ⟨g, 0, none⟩))
 | .func f => some (.func (.func f) #[] #[])
def lI (L : List (Nat × Value)) : List Operand → Option (List Value)
  | [] => some []
  | x :: xs => match ev L x, lI L xs with
    | some v, some vs => some (v :: vs)
    | _, _ => none
def bL (d : Option Tmp) (v : Value) (L : List (Nat × Value)) : List (Nat × Value) :=
 match d with
 | some t => (t, v) :: L
 | none => L
section
variable {N : Nd} {L : List (Nat × Value)} {a : Act}
theorem Fr.ev (h : Fr N L a) {x : Operand} {v : Value} (hx : ev L x = some v) : a.eval x = v := by
  cases x with
  | tmp t =>
    have := h.has t v hx
    simp [Act.eval, this]
  | const u => simpa [Go.Proofs.YtgfafidlkldeaaaGreat.ev, Act.eval] using hx
  | global g => simpa [Go.Proofs.YtgfafidlkldeaaaGreat.ev, Act.eval] using hx
  | func f => simpa [Go.Proofs.YtgfafidlkldeaaaGreat.ev, Act.eval] using hx
theorem Fr.lI (h : Fr N L a) : ∀ {xs : List Operand} {vs : List Value}, lI L xs = some vs → xs.map a.eval = vs
  | [], vs, hx => by simpa [Go.Proofs.YtgfafidlkldeaaaGreat.lI] using hx.symm
  | x :: xs, vs, hx => by
    unfold Go.Proofs.YtgfafidlkldeaaaGreat.lI at hx
    split at hx
    · rename_i v us h1 h2
      injection hx with hx
      subst hx
      rw [List.map_cons, h.ev h1, h.lI h2]
    · cases hx
theorem Fr.put (h : Fr N L a) {d : Nat} (hd : Nat.ble (d + 1) N.n = true) (v : Value) : Fr N ((d, v) :: L) (a.put (some d) v) := by
  have hd' : d < N.n := Nat.le_of_ble_eq_true hd
  refine ⟨by simp [Act.put, h.size], h.defers, fun t u hu => ?_⟩
  unfold look at hu
  cases e : Nat.beq d t with
  | true =>
    simp only [e, cond_true] at hu
    have : d = t := Nat.eq_of_beq_eq_true e
    subst this
    injection hu with hu
    subst hu
    simp [Act.put, h.size, hd']
  | false =>
    simp only [e, cond_false] at hu
    have : d ≠ t := fun h => by subst h; simp at e
    simp only [Act.put]
    rw [Array.getElem?_setIfInBounds_ne this]
    exact h.has t u hu
def gH (N : Nd) : Option Tmp → Bool
 | some d => Nat.ble (d + 1) N.n
 | none => true
theorem Fr.jE (h : Fr N L a) {d : Option Tmp} (hd : gH N d = true) (v : Value) : Fr N (bL d v L) (a.put d v) := by
 cases d with
 | some t => exact h.put hd v
 | none => exact h
theorem Fr.MZ (h : Fr N L a) {L' : List (Nat × Value)} (hw : ∀ t v, look L' t = some v → look L t = some v) : Fr N L' a := ⟨h.size, h.defers, fun t v hv => h.has t v (hw t v hv)⟩
def jB (L : List (Nat × Value)) : List (Nat × Value) → Prop
 | [] => True
 | (k, v) :: l => look L k = some v ∧ jB L l
theorem pe : ∀ {L' : List (Nat × Value)}, jB L L' → ∀ t v, look L' t = some v → look L t = some v
  | [], _, t, v, hv => by cases hv
  | (k, u) :: l, h, t, v, hv => by
    unfold look at hv
    cases e : Nat.beq k t with
    | true =>
      simp only [e, cond_true] at hv
      injection hv with hv
      subst hv
      rw [← Nat.eq_of_beq_eq_true e]
      exact h.1
    | false =>
      simp only [e, cond_false] at hv
      exact pe h.2 t v hv
theorem Fr.sub (h : Fr N L a) {L' : List (Nat × Value)} (hw : jB L L') : Fr N L' a := h.MZ (pe hw)
end
abbrev Ext (w w' : World) : Prop := Below w.heap.size w w'
theorem Ext.refl (w : World) : Ext w w := Below.refl _ _
theorem Ext.tr {a b c : World} (h : Ext a b) (k : Ext b c) : Ext a c := h.trans (k.mono h.size)
theorem Ext.alloc (w : World) (o : Obj) : Ext w (w.alloc o) := (Below.refl _ _).alloc (Nat.le_refl _) _
theorem Ext.drew (w : World) : Ext w w.drew := (Below.refl _ _).drew
theorem Ext.drewN (w : World) (n : Nat) : Ext w (w.drewN n) := jW (Below.refl _ _) n
/-! The four judgements: a list of operations, a piece of code, what stands behind, a way out. -/
def WL (P : Program) (ops : Array Oper) (Q : Exit → Act → World → Prop) (l : List Oper) (N : Nd) (L : List (Nat × Value)) (w : World) : Prop := ∀ a, Fr N L a → wpList P ops Q l a w
def WC (P : Program) (Q : Exit → Act → World → Prop) (c : Code) (N : Nd) (L : List (Nat × Value)) (w : World) : Prop := ∀ a, Fr N L a → c.wp P Q a w
def WK (K : Act → World → Prop) (N : Nd) (L : List (Nat × Value)) (w : World) : Prop := ∀ a, Fr N L a → K a w
def WQ (Q : Exit → Act → World → Prop) (e : Exit) (N : Nd) (L : List (Nat × Value)) (w : World) : Prop := ∀ a, Fr N L a → Q e a w
section
variable {P : Program} {ops : Array Oper} {Q : Exit → Act → World → Prop} {rest : List Oper} {N : Nd} {L : List (Nat × Value)} {w : World}
def Y (P : Program) (L : List (Nat × Value)) (w : World) (op : Op) (ty : TypeId) (v : Value) : Prop :=
 ∀ (ρ : Operand → Value), (∀ x u, ev L x = some u → ρ x = u) → ∀ w', Ext w w' → ∀ dst pos after guard, (execOp ρ ⟨dst, op, ty, pos, after, guard⟩).run P w' = .ok (.value v) w'
def Ef (P : Program) (L : List (Nat × Value)) (w : World) (op : Op) (ty : TypeId) (Φ : Value → World → Prop) : Prop :=
 ∀ a N, Fr N L a → ∀ dst pos after guard (K : Act → World → Prop) (Q : Exit → Act → World → Prop), (∀ v w', Φ v w' → K (a.put dst v) w') → Oper.wp P ⟨dst, op, ty, pos, after, guard⟩ a w K Q
theorem Y.ef {op : Op} {ty : TypeId} {v : Value} (h : Y P L w op ty v) : Ef P L w op ty fun u w' => u = v ∧ w' = w := by
 intro a N ha dst pos after guard K Q hK
 unfold Oper.wp
 rw [h a.eval (fun _ _ hx => ha.ev hx) w (Ext.refl w) dst pos after guard]
 exact hK _ _ ⟨rfl, rfl⟩
theorem Ef.mono {op : Op} {ty : TypeId} {Φ Ψ : Value → World → Prop} (h : Ef P L w op ty Φ) (hi : ∀ v w', Φ v w' → Ψ v w') : Ef P L w op ty Ψ :=
 fun a N ha dst pos after guard K Q hK => h a N ha dst pos after guard K Q fun v w' hv => hK v w' (hi v w' hv)
theorem KR (h : WQ Q .normal N L w) : WL P ops Q [] N L w := h
theorem Eo {op : Op} {ty : TypeId} {v : Value} {d : Tmp} {pos : String} {after : Array Edge} (h : Y P L w op ty v) (hd : Nat.ble (d + 1) N.n = true) (hr : WL P ops Q rest N ((d, v) :: L) w) :
  WL P ops Q (⟨some d, op, ty, pos, after, none⟩ :: rest) N L w := by
 intro a ha
 refine wpList_plain rfl fun K hK => ?_
 unfold Oper.wp
 rw [h a.eval (fun _ _ hx => ha.ev hx) w (Ext.refl w)]
 exact hK _ _ (hr _ (ha.put hd v))
theorem af {op : Op} {ty : TypeId} {Φ : Value → World → Prop} {dst : Option Tmp} {pos : String} {after : Array Edge} (h : Ef P L w op ty Φ) (hd : gH N dst = true)
  (hr : ∀ v w', Φ v w' → WL P ops Q rest N (bL dst v L) w') : WL P ops Q (⟨dst, op, ty, pos, after, none⟩ :: rest) N L w := by
 intro a ha
 refine wpList_plain rfl fun K hK => ?_
 exact h a N ha _ _ _ _ K Q fun v w' hv => hK _ _ (hr v w' hv _ (ha.jE hd v))
theorem np {j : Nat} {t : Tmp} {b b' : Bool} {op : Op} {ty : TypeId} {dst : Option Tmp} {pos : String} {after : Array Edge} {a : Act} (ha : Fr N L a) (hj : (ops[j]?).bind (·.dst) = some t) (ht : look L t = some (.bool b)) :
  Region.wanted ⟨dst, op, ty, pos, after, some (j, b')⟩ (yielded ops a.tmps) = (b == b') := by
 have h1 := ha.has t _ ht
 simp only [Region.wanted, yielded, hj, Option.bind_some, h1]
 cases b <;> cases b' <;> rfl
theorem yp {op : Op} {ty : TypeId} {v : Value} {d : Tmp} {pos : String} {after : Array Edge} {j : Nat} {b : Bool} (t : Tmp) (hj : (ops[j]?).bind (·.dst) = some t) (ht : look L t = some (.bool b)) (h : Y P L w op ty v)
  (hd : Nat.ble (d + 1) N.n = true) (hr : WL P ops Q rest N ((d, v) :: L) w) : WL P ops Q (⟨some d, op, ty, pos, after, some (j, b)⟩ :: rest) N L w := by
 intro a ha
 refine wpList_step fun K hK => ?_
 rw [if_pos (by rw [np ha hj ht]; simp)]
 unfold Oper.wp
 rw [h a.eval (fun _ _ hx => ha.ev hx) w (Ext.refl w)]
 exact hK _ _ (hr _ (ha.put hd v))
theorem KD {op : Op} {ty : TypeId} {Φ : Value → World → Prop} {dst : Option Tmp} {pos : String} {after : Array Edge} {j : Nat} {b : Bool} (t : Tmp) (hj : (ops[j]?).bind (·.dst) = some t) (ht : look L t = some (.bool b)) (h : Ef P L w op ty Φ)
  (hd : gH N dst = true) (hr : ∀ v w', Φ v w' → WL P ops Q rest N (bL dst v L) w') : WL P ops Q (⟨dst, op, ty, pos, after, some (j, b)⟩ :: rest) N L w := by
 intro a ha
 refine wpList_step fun K hK => ?_
 rw [if_pos (by rw [np ha hj ht]; simp)]
 exact h a N ha _ _ _ _ K Q fun v w' hv => hK _ _ (hr v w' hv _ (ha.jE hd v))
theorem Az {op : Op} {ty : TypeId} {dst : Option Tmp} {pos : String} {after : Array Edge} {j : Nat} {b b' : Bool} (t : Tmp) (hj : (ops[j]?).bind (·.dst) = some t) (ht : look L t = some (.bool b)) (hb : (b == b') = false)
  (hd : gH N dst = true) (hr : WL P ops Q rest N (bL dst undef L) w) : WL P ops Q (⟨dst, op, ty, pos, after, some (j, b')⟩ :: rest) N L w := by
 intro a ha
 refine wpList_step fun K hK => ?_
 rw [if_neg (by rw [np ha hj ht, hb]; simp)]
 exact hK _ _ (hr _ (ha.jE hd undef))
/-! Code. -/
theorem zh {id : Nat} {l : List Oper} (h : WL P l.toArray Q l N L w) : WC P Q (.region id l.toArray false) N L w := fun a ha => wp_region_lit (h a ha)
theorem lk {x y : Code} (h : ∀ K : Act → World → Prop, (∀ {N L w}, WC P Q y N L w → WK K N L w) → WC P (Exit.then K Q) x N L w) : WC P Q (.seq x y) N L w :=
 fun a ha => wp_seq (h (y.wp P Q) (fun h => h) a ha)
theorem bW {c : Operand} {x y : Code} {b : Bool} (hc : ev L c = some (.bool b)) (ht : b = true → WC P Q x N L w) (hf : b = false → WC P Q y N L w) : WC P Q (.cond c x y) N L w :=
 fun a ha => wp_cond_split (ha.ev hc) (fun e => ht e a ha) (fun e => hf e a ha)
theorem bP {c : Operand} {x y : Code} {b : Bool} (hc : ev L c = some (.bool b)) (hb : b = true) (ht : WC P Q x N L w) : WC P Q (.cond c x y) N L w :=
 fun a ha => wp_cond_true (hb ▸ ha.ev hc) (ht a ha)
theorem cm {c : Operand} {x y : Code} {b : Bool} (hc : ev L c = some (.bool b)) (hb : b = false) (hf : WC P Q y N L w) : WC P Q (.cond c x y) N L w :=
 fun a ha => wp_cond_false (hb ▸ ha.ev hc) (hf a ha)
theorem al {c : Operand} {x y : Code} {p : Prop} [Decidable p] (hc : ev L c = some (.bool (decide p))) (ht : p → WC P Q x N L w) (hf : ¬ p → WC P Q y N L w) : WC P Q (.cond c x y) N L w :=
 bW hc (fun e => ht (of_decide_eq_true e)) (fun e => hf (of_decide_eq_false e))
theorem Ni {c : Operand} {x y : Code} {p : Prop} [Decidable p] (hc : ev L c = some (.bool (decide p))) (hp : p) (ht : WC P Q x N L w) : WC P Q (.cond c x y) N L w := bP hc (decide_eq_true hp) ht
theorem Mk {c : Operand} {x y : Code} {p : Prop} [Decidable p] (hc : ev L c = some (.bool (decide p))) (hp : ¬ p) (hf : WC P Q y N L w) : WC P Q (.cond c x y) N L w := cm hc (decide_eq_false hp) hf
theorem GY (h : WQ Q .normal N L w) : WC P Q .skip N L w := fun a ha => wp_skip (h a ha)
theorem gI {l : Nat} (h : WQ Q .normal N L w) : WC P Q (.label l) N L w := fun a ha => wp_label (h a ha)
theorem KQ (h : WQ Q .ret N L w) : WC P Q .ret N L w := fun a ha => wp_ret (h a ha)
theorem GP {id : Nat} (h : WQ Q (.exit id) N L w) : WC P Q (.exit id) N L w := fun a ha => wp_exit (h a ha)
theorem EA {l : Nat} (h : WQ Q (.goto l) N L w) : WC P Q (.goto l) N L w := fun a ha => wp_goto (h a ha)
theorem BM {id : Nat} {c : Code} (h : WC P (Exit.inBlock id Q) c N L w) : WC P Q (.block id c) N L w := fun a ha => wp_block (h a ha)
theorem aF {c : Code} (J : Nat → List (Nat × Value) → World → Prop) (n₀ : Nat) (L₀ : List (Nat × Value)) (h₀ : J n₀ L₀ w) (hS : jB L L₀)
  (round : ∀ (K : Act → World → Prop) (n : Nat) (L : List (Nat × Value)) (w : World), J n L w → (∀ {L1 : List (Nat × Value)} {w' : World} (n' : Nat) (L' : List (Nat × Value)), J n' L' w' → n' < n → jB L1 L' → WK K N L1 w') → WC P (Exit.then K Q) c N L w) :
  WC P Q (.loop c) N L w := by
 intro a ha
 refine wp_loop_ghost (fun n a w => ∃ L, Fr N L a ∧ J n L w) n₀ ⟨L₀, ha.sub hS, h₀⟩ ?_
 rintro n a w ⟨L, ha, hJ⟩
 exact round _ n L w hJ (fun n' L' hJ' hn hin a' ha' => ⟨n', hn, L', ha'.sub hin, hJ'⟩) a ha
/-! Ways out. -/
variable {K : Act → World → Prop} {i j : Nat}
theorem ae (h : WK K N L w) : WQ (Exit.then K Q) .normal N L w := h
theorem sy (h : WQ Q (.exit i) N L w) : WQ (Exit.then K Q) (.exit i) N L w := h
theorem rQ (h : WQ Q (.goto i) N L w) : WQ (Exit.then K Q) (.goto i) N L w := h
theorem uS (h : WQ Q .ret N L w) : WQ (Exit.then K Q) .ret N L w := h
theorem td (h : WQ Q .normal N L w) : WQ (Exit.inBlock i Q) .normal N L w := h
theorem xc (h : WQ Q .ret N L w) : WQ (Exit.inBlock i Q) .ret N L w := h
theorem vA (h : WQ Q .normal N L w) : WQ (Exit.inBlock i Q) (.exit i) N L w := fun a ha => by
 show if i = i then _ else _
 rw [if_pos rfl]; exact h a ha
theorem cC (h : WQ Q .ret N L w) : WQ (Exit.jump i K Q) .ret N L w := h
theorem bZ (h : WK K N L w) : WQ (Exit.jump i K Q) (.goto i) N L w := fun a ha => ⟨rfl, h a ha⟩
/-! Begin and end. -/
def eX : Nat → List Value → List (Nat × Value)
 | _, [] => []
 | i, v :: vs => (i, v) :: eX (i + 1) vs
theorem oB : ∀ (vs : List Value) (i t : Nat) (v : Value), look (eX i vs) t = some v → i ≤ t ∧ vs[t - i]? = some v
  | [], i, t, v, h => by cases h
  | u :: vs, i, t, v, h => by
    unfold eX look at h
    cases e : Nat.beq i t with
    | true =>
      simp only [e, cond_true] at h
      have := Nat.eq_of_beq_eq_true e
      subst this
      injection h with h
      subst h
      exact ⟨Nat.le_refl _, by simp⟩
    | false =>
      simp only [e, cond_false] at h
      have hne : i ≠ t := fun h => by subst h; simp at e
      obtain ⟨h1, h2⟩ := oB vs (i + 1) t v h
      refine ⟨by omega, ?_⟩
      have : t - i = (t - (i + 1)) + 1 := by omega
      rw [this, List.getElem?_cons_succ]
      exact h2
theorem tC {args : Array Value} {n : Nat} (hsz : Nat.ble args.size n = true) : Fr n (eX 0 args.toList) { tmps := args ++ Array.replicate (n - args.size) undef, defers := [] } := by
 have hsz' : args.size ≤ n := Nat.le_of_ble_eq_true hsz
 refine ⟨by simp; omega, rfl, fun t v hv => ?_⟩
 obtain ⟨_, h⟩ := oB _ _ _ _ hv
 simp only [Nat.sub_zero, Array.getElem?_toList] at h
 have hlt : t < args.size := (Array.getElem?_eq_some_iff.1 h).1
 show (args ++ Array.replicate (n - args.size) undef)[t]? = some v
 rw [Array.getElem?_append_left hlt, h]
section
variable {f : FuncId} {fn : Func} {c : Code} {args : Array Value} {R : Ending → World → Prop}
theorem fK (N : Nat) (hf : P.funcs[f]? = some fn) (hb : fn.body = some c) (hN : fn.ntmps = N) (hsz : Nat.ble args.size N = true)
  (h : ∀ Q : Exit → Act → World → Prop, (∀ {e : Exit} {a : Act} {w : World}, bodyPost P fn R e a w → Q e a w) → WC P Q c N (eX 0 args.toList) w) : Calls P f args w R := by
 subst hN
 exact calls_of_wp hf hb (h _ (fun h => h) _ (tC hsz))
theorem jG (N : Nat) (hf : P.funcs[f]? = some fn) (hb : fn.body = some c) (hN : fn.ntmps = N) (hr : fn.results = #[]) (hsz : Nat.ble args.size N = true)
  (h : ∀ Q : Exit → Act → World → Prop, (∀ {e : Exit} {N : Nat} {L : List (Nat × Value)} {w : World}, e = .ret ∨ e = .normal → R (.returned (.tuple #[])) w → WQ Q e N L w) → WC P Q c N (eX 0 args.toList) w) : Calls P f args w R :=
 fK N hf hb hN hsz fun Q hQ => h Q fun he hR a ha => hQ (by
  rcases he with rfl | rfl
  ·exact bodyPost_ret (results_none hr _ _ _) ha.defers hR
  ·exact bodyPost_end (results_none hr _ _ _) ha.defers hR)
theorem cE {a : Act} {t : Nat} {v : Value} (h : a.tmps[t]? = some v) : a.tmps.getD t undef = v := by simp [h]
theorem aj (N : Nat) {t : Tmp} (hf : P.funcs[f]? = some fn) (hb : fn.body = some c) (hN : fn.ntmps = N) (hr : fn.results = #[.tmp t]) (hsz : Nat.ble args.size N = true)
  (h : ∀ Q : Exit → Act → World → Prop, (∀ {N : Nat} {L : List (Nat × Value)} {w : World} {v : Value}, look L t = some v → R (.returned v) w → WQ Q .ret N L w) → WC P Q c N (eX 0 args.toList) w) : Calls P f args w R :=
 fK N hf hb hN hsz fun Q hQ => h Q fun hv hR a ha => hQ (bodyPost_ret (results_tmp hr _ _ _) ha.defers (by rw [cE (ha.has _ _ hv)]; exact hR))
theorem bK (N : Nat) {t u : Tmp} (hf : P.funcs[f]? = some fn) (hb : fn.body = some c) (hN : fn.ntmps = N) (hr : fn.results = #[.tmp t, .tmp u]) (hsz : Nat.ble args.size N = true)
  (h : ∀ Q : Exit → Act → World → Prop, (∀ {N : Nat} {L : List (Nat × Value)} {w : World} {v x : Value}, look L t = some v → look L u = some x → R (.returned (.tuple #[v, x])) w → WQ Q .ret N L w) → WC P Q c N (eX 0 args.toList) w) : Calls P f args w R :=
 fK N hf hb hN hsz fun Q hQ => h Q fun hv hu hR a ha => hQ (bodyPost_ret (results_tmp2 hr _ _ _) ha.defers (by rw [cE (ha.has _ _ hv), cE (ha.has _ _ hu)]; exact hR))
theorem qj {fn : Func} {t u x : Tmp} (h : fn.results = #[.tmp t, .tmp u, .tmp x]) (tmps : Array Value) (P : Program) (w : World) :
  (results fn tmps).run P w = .ok (.tuple #[tmps.getD t undef, tmps.getD u undef, tmps.getD x undef]) w := by simp [results, h]
theorem jQ (N : Nat) {t u x : Tmp} (hf : P.funcs[f]? = some fn) (hb : fn.body = some c) (hN : fn.ntmps = N) (hr : fn.results = #[.tmp t, .tmp u, .tmp x]) (hsz : Nat.ble args.size N = true)
  (h : ∀ Q : Exit → Act → World → Prop, (∀ {N : Nat} {L : List (Nat × Value)} {w : World} {v y z : Value}, look L t = some v → look L u = some y → look L x = some z → R (.returned (.tuple #[v, y, z])) w → WQ Q .ret N L w) → WC P Q c N (eX 0 args.toList) w) : Calls P f args w R :=
 fK N hf hb hN hsz fun Q hQ => h Q fun hv hu hx hR a ha => hQ (bodyPost_ret (qj hr _ _ _) ha.defers (by rw [cE (ha.has _ _ hv), cE (ha.has _ _ hu), cE (ha.has _ _ hx)]; exact hR))
end
/-! Calls of Go functions. -/
theorem og {f : FuncId} {xs : List Operand} {ats : Array TypeId} {ty : TypeId} {vs : List Value} {R : Ending → World → Prop} {Φ : Value → World → Prop} {fn : Func} {c : Code} (hf : P.funcs[f]? = some fn) (hb : fn.body = some c) (hn : (fn.name == "runtime.NumGoroutine") = false)
  (hx : lI L xs = some vs) (h : Calls P f vs.toArray w R) (hR : ∀ e w', R e w' → ∃ v, e = .returned v ∧ Φ v w') : Ef P L w (.call { callee := .value (.func f), args := xs.toArray, argTypes := ats }) ty Φ := by
 intro a N ha dst pos after guard K Q hK
 unfold Oper.wp
 rw [execOp_call_go]
 have e : #[] ++ xs.toArray.map a.eval ++ #[] = vs.toArray := by
  have := ha.lI hx
  simp [this]
 rw [e]
 have hrun : (callFunc f vs.toArray).run P w = .ok (.enter f vs.toArray) w := by
  have hn' : ¬ fn.name = "runtime.NumGoroutine" := by simpa using hn
  simp [callFunc, hf, hb, hn']
 rw [hrun]
 simp only [Oper.upon]
 refine h.mono fun e w' hr => ?_
 obtain ⟨v, rfl, hv⟩ := hR e w' hr
 exact hK v w' hv
end
end
section
open Go.RowKit
def turns (ops : Array Oper) (i : Nat) : Bool :=
 match ((ops[i]?).map (·.op) : Option Op) with
 | some (.store _ _ _) => true
 | some (.call { callee := .builtin .copy, .. }) => true
 | some (.call { callee := .builtin .append, .. }) => true
 | some (.call _) => i + 1 == ops.size && (List.range i).all fun j => ops.any fun o => o.after.any fun e => e.on == j && Region.binds .any e
 | _ => false
section
variable {P : Program} {ops : Array Oper} {Q : Exit → Act → World → Prop} {md : Region.Mode} {N : Nd} {L : List (Nat × Value)} {w : World}
def GM (P : Program) (md : Region.Mode) (ops : Array Oper) (Q : Exit → Act → World → Prop) : Nat → Array Bool → Act → World → Prop
 | 0, listed, a, w => Region.ready md ops listed = [] ∧ Q .normal a w
 | n + 1, listed, a, w => (Region.ready md ops listed = [] → Q .normal a w) ∧
   ∀ i ∈ Region.ready md ops listed, wpOp P ops Q i (fun a' w' => (turns ops i = true ∨ Ext w w') ∧ GM P md ops Q n (listed.setIfInBounds i true) a' w') a w
theorem rK : ∀ (n : Nat) (listed : Array Bool) (a : Act) (w : World), GM P md ops Q n listed a w → wpAny P md ops Q n listed a w
 | 0, _, _, _, h => h
 | n + 1, _, _, _, h => ⟨h.1, fun i hi => wpOp_mono (fun a' w' h' => rK n _ a' w' h'.2) (h.2 i hi)⟩
def mS (P : Program) (ops : Array Oper) (w : World) (o : Oper) (v : Value) (a : Act) : Prop := YieldsIf P ops (fun w' => Ext w w') o v a
theorem mS.later {w w' : World} {o : Oper} {v : Value} {a : Act} (h : mS P ops w o v a) (e : Ext w w') : mS P ops w' o v a :=
 h.imp (fun ⟨h1, h2⟩ => ⟨h1, fun w2 e2 => h2 w2 (e.tr e2)⟩) id
theorem Ai {i : Nat} {oi : Oper} {v : Value} (D : Nat → Bool) (hi : ops[i]? = some oi) (hsel : ∀ (j : Nat) (o : Oper) cs b, ops[j]? = some o → o.op ≠ .select cs b)
    (hQ : ∀ c a w, Q (.panic c) (a.put oi.dst v) w → Q (.panic c) a w) :
    ∀ (n : Nat) (listed : Array Bool) (a : Act) (w : World),
      (∀ j oj, ops[j]? = some oj → j ≠ i → listed.getD j true = false → D j = true → ∃ e ∈ oj.after, Region.binds md e = true ∧ (e.on = i ∨ D e.on = true ∧ listed.getD e.on true = false)) →
      (∀ j oj, ops[j]? = some oj → j ≠ i → listed.getD j true = false → D j = false → oi.apart ops oj = true ∧ turns ops j = false) →
      i ∈ Region.ready md ops listed → mS P ops w oi v a →
      GM P md ops Q n (listed.setIfInBounds i true) (a.put oi.dst v) w → GM P md ops Q (n + 1) listed a w := by
  intro n
  induction n with
  | zero =>
    intro listed a w _ _ hr hy H
    refine ⟨fun h => (by rw [h] at hr; cases hr), fun j hj => ?_⟩
    by_cases hji : j = i
    · subst hji; exact hy.wpOp hi (Ext.refl w) ⟨.inr (Ext.refl w), H⟩
    · have := ready_mono hj hji
      rw [H.1] at this
      cases this
  | succ n ih =>
    intro listed a w hdep hfree hr hy H
    refine ⟨fun h => (by rw [h] at hr; cases hr), fun j hj => ?_⟩
    by_cases hji : j = i
    · subst hji; exact hy.wpOp hi (Ext.refl w) ⟨.inr (Ext.refl w), H⟩
    · have h1 := H.2 j (ready_mono hj hji)
      obtain ⟨hjun, oj, hoj, hall⟩ := mem_ready.1 hj
      have hDj : D j = false := by
        cases hd : D j with
        | false => rfl
        | true =>
          exfalso
          obtain ⟨e, he, hb, hor⟩ := hdep j oj hoj hji hjun hd
          have h1 := hall e he hb
          rcases hor with heq | ⟨_, hun⟩
          · have h0 := (mem_ready.1 hr).1
            rw [heq] at h1
            rcases Nat.lt_or_ge i listed.size with h' | h'
            · simp [h'] at h0 h1; rw [h0] at h1; cases h1
            · simp [Array.getElem?_eq_none h'] at h1
          · rcases Nat.lt_or_ge e.on listed.size with h' | h'
            · simp [h'] at hun h1; rw [hun] at h1; cases h1
            · simp [Array.getElem?_eq_none h'] at h1
      obtain ⟨hap, htu⟩ := hfree j oj hoj hji hjun hDj
      have h2 := wpOp_putIf hoj hap (fun cs b => hsel i oi cs b hi) (fun cs b => hsel j oj cs b hoj) hQ hy h1
      have back : ∀ k, (listed.setIfInBounds j true).getD k true = false → listed.getD k true = false := fun k hun => by
        by_cases hjk : j = k
        · subst hjk; exact hjun
        · rwa [getD_set_ne true hjk] at hun
      have hdep' : ∀ k ok, ops[k]? = some ok → k ≠ i → (listed.setIfInBounds j true).getD k true = false → D k = true → ∃ e ∈ ok.after, Region.binds md e = true ∧ (e.on = i ∨ D e.on = true ∧ (listed.setIfInBounds j true).getD e.on true = false) := fun k ok hk hki hun hd => by
        obtain ⟨e, he, hb, hor⟩ := hdep k ok hk hki (back k hun) hd
        refine ⟨e, he, hb, hor.imp id fun ⟨h3, h4⟩ => ⟨h3, ?_⟩⟩
        have hne : j ≠ e.on := by rintro rfl; rw [hDj] at h3; cases h3
        rw [getD_set_ne true hne]; exact h4
      have hfree' : ∀ k ok, ops[k]? = some ok → k ≠ i → (listed.setIfInBounds j true).getD k true = false → D k = false → oi.apart ops ok = true ∧ turns ops k = false := fun k ok hk hki hun hd =>
        hfree k ok hk hki (back k hun) hd
      refine wpOp_mono (fun a' w' h3 => ?_) h2
      obtain ⟨hy', hx, hrest⟩ := h3
      rcases hx with hx | hx
      · rw [htu] at hx; cases hx
      · refine ⟨.inr hx, ih (listed.setIfInBounds j true) a' w' hdep' hfree' (ready_mono hr (Ne.symm hji)) (mS.later hy' hx) ?_⟩
        rw [Array.setIfInBounds_comm _ _ hji]
        exact hrest
theorem wi {i : Nat} {oi : Oper} {v : Value} (D : Nat → Bool) (hi : ops[i]? = some oi) (hsel : ∀ (j : Nat) (o : Oper) cs b, ops[j]? = some o → o.op ≠ .select cs b)
    (hQ : ∀ c a w, Q (.panic c) (a.put oi.dst v) w → Q (.panic c) a w) :
    ∀ (n : Nat) (listed : Array Bool) (a : Act) (w : World),
      (∀ j oj, ops[j]? = some oj → j ≠ i → listed.getD j true = false → D j = true → ∃ e ∈ oj.after, Region.binds md e = true ∧ (e.on = i ∨ D e.on = true ∧ listed.getD e.on true = false)) →
      (∀ j oj, ops[j]? = some oj → j ≠ i → listed.getD j true = false → D j = false → oi.apart ops oj = true) →
      i ∈ Region.ready md ops listed → YieldsIf P ops (fun _ => True) oi v a →
      GM P md ops Q n (listed.setIfInBounds i true) (a.put oi.dst v) w → GM P md ops Q (n + 1) listed a w := by
  intro n
  induction n with
  | zero =>
    intro listed a w _ _ hr hy H
    refine ⟨fun h => (by rw [h] at hr; cases hr), fun j hj => ?_⟩
    by_cases hji : j = i
    · subst hji; exact hy.wpOp hi trivial ⟨.inr (Ext.refl w), H⟩
    · have := ready_mono hj hji
      rw [H.1] at this
      cases this
  | succ n ih =>
    intro listed a w hdep hfree hr hy H
    refine ⟨fun h => (by rw [h] at hr; cases hr), fun j hj => ?_⟩
    by_cases hji : j = i
    · subst hji; exact hy.wpOp hi trivial ⟨.inr (Ext.refl w), H⟩
    · have h1 := H.2 j (ready_mono hj hji)
      obtain ⟨hjun, oj, hoj, hall⟩ := mem_ready.1 hj
      have hDj : D j = false := by
        cases hd : D j with
        | false => rfl
        | true =>
          exfalso
          obtain ⟨e, he, hb, hor⟩ := hdep j oj hoj hji hjun hd
          have h1 := hall e he hb
          rcases hor with heq | ⟨_, hun⟩
          · have h0 := (mem_ready.1 hr).1
            rw [heq] at h1
            rcases Nat.lt_or_ge i listed.size with h' | h'
            · simp [h'] at h0 h1; rw [h0] at h1; cases h1
            · simp [Array.getElem?_eq_none h'] at h1
          · rcases Nat.lt_or_ge e.on listed.size with h' | h'
            · simp [h'] at hun h1; rw [hun] at h1; cases h1
            · simp [Array.getElem?_eq_none h'] at h1
      have hap := hfree j oj hoj hji hjun hDj
      have h2 := wpOp_putIf hoj hap (fun cs b => hsel i oi cs b hi) (fun cs b => hsel j oj cs b hoj) hQ hy h1
      have back : ∀ k, (listed.setIfInBounds j true).getD k true = false → listed.getD k true = false := fun k hun => by
        by_cases hjk : j = k
        · subst hjk; exact hjun
        · rwa [getD_set_ne true hjk] at hun
      have hdep' : ∀ k ok, ops[k]? = some ok → k ≠ i → (listed.setIfInBounds j true).getD k true = false → D k = true → ∃ e ∈ ok.after, Region.binds md e = true ∧ (e.on = i ∨ D e.on = true ∧ (listed.setIfInBounds j true).getD e.on true = false) := fun k ok hk hki hun hd => by
        obtain ⟨e, he, hb, hor⟩ := hdep k ok hk hki (back k hun) hd
        refine ⟨e, he, hb, hor.imp id fun ⟨h3, h4⟩ => ⟨h3, ?_⟩⟩
        have hne : j ≠ e.on := by rintro rfl; rw [hDj] at h3; cases h3
        rw [getD_set_ne true hne]; exact h4
      have hfree' : ∀ k ok, ops[k]? = some ok → k ≠ i → (listed.setIfInBounds j true).getD k true = false → D k = false → oi.apart ops ok = true := fun k ok hk hki hun hd =>
        hfree k ok hk hki (back k hun) hd
      refine wpOp_mono (fun a' w' h3 => ?_) h2
      obtain ⟨hy', hx, hrest⟩ := h3
      refine ⟨hx, ih (listed.setIfInBounds j true) a' w' hdep' hfree' (ready_mono hr (Ne.symm hji)) hy' ?_⟩
      rw [Array.setIfInBounds_comm _ _ hji]
      exact hrest
def WM (P : Program) (ops : Array Oper) (Q : Exit → Act → World → Prop) (n : Nat) (listed : Array Bool) (N : Nd) (L : List (Nat × Value)) (w : World) : Prop := ∀ a, Fr N L a → GM P .any ops Q n listed a w
def fW (Q : Exit → Act → World → Prop) : Exit → Act → World → Prop
 | .panic _, _, _ => False
 | e, a, w => Q e a w
theorem KL (h : WQ Q .normal N L w) : WQ (fW Q) .normal N L w := h
theorem aA {id : Nat} {l : List Oper} (hm : P.follows .mixedOrders = true) (n : Nat) (hn : l.length = n) (h : ∀ w', Ext w w' → w'.heap = w.heap → WM P l.toArray (fW Q) n (Array.replicate n false) N L w') : WC P Q (.region id l.toArray true) N L w := by
 intro a ha
 subst hn
 have h1 : (Code.region id l.toArray true).wp P (fW Q) a w := by
  refine wp_region_any hm (rK _ _ _ _ ?_)
  rw [List.size_toArray]
  exact h _ (Ext.drew w) rfl a ha
 refine wp_mono h1 fun e a w hq => ?_
 cases e <;> first | exact hq | exact hq.elim
theorem nQ {n : Nat} {listed : Array Bool} (hr : Region.ready .any ops listed = []) (h : WQ Q .normal N L w) : WM P ops Q n listed N L w := by
 intro a ha
 cases n with
 | zero => exact ⟨hr, h a ha⟩
 | succ n => exact ⟨fun _ => h a ha, by rw [hr]; simp⟩
def ey (md : Region.Mode) (ops : Array Oper) (listed : Array Bool) (i : Nat) : List Bool :=
 (List.range ops.size).foldl (fun D j => D ++ [match ops[j]? with
  | some o => !listed.getD j true && o.after.any (fun e => Region.binds md e && (e.on == i || (D.getD e.on false && !listed.getD e.on true)))
  | none => false]) []
def freeBy (md : Region.Mode) (ops : Array Oper) (listed : Array Bool) (i : Nat) (D : List Bool) : Bool :=
 Region.noSelect ops && (match ops[i]? with
  | none => false
  | some oi => (List.range ops.size).all fun j => j == i || (listed.getD j true || (match ops[j]? with
    | none => true
    | some oj => cond (D.getD j false) (oj.after.any fun e => Region.binds md e && (e.on == i || (D.getD e.on false && !listed.getD e.on true))) (oi.apart ops oj && !turns ops j)))) && (Region.ready md ops listed).contains i
def ou (md : Region.Mode) (ops : Array Oper) (listed : Array Bool) (i : Nat) : Bool := freeBy md ops listed i (ey md ops listed i)
theorem Gr {n : Nat} {listed : Array Bool} {i : Nat} {oi : Oper} {v : Value} (hi : ops[i]? = some oi) (hf : ou .any ops listed i = true)
  (hy : ∀ a, Fr N L a → mS P ops w oi v a) (hd : gH N oi.dst = true) (h : WM P ops (fW Q) n (listed.setIfInBounds i true) N (bL oi.dst v L) w) : WM P ops (fW Q) (n + 1) listed N L w := by
 intro a ha
 unfold ou at hf
 generalize ey .any ops listed i = D at hf
 simp only [freeBy, hi, Bool.and_eq_true, List.all_eq_true, List.mem_range, Bool.or_eq_true, beq_iff_eq] at hf
 obtain ⟨⟨h1, h2⟩, h4⟩ := hf
 have key : ∀ j oj, ops[j]? = some oj → j ≠ i → listed.getD j true = false → cond (D.getD j false) (oj.after.any fun e => Region.binds .any e && (e.on == i || (D.getD e.on false && !listed.getD e.on true))) (oi.apart ops oj && !turns ops j) = true := fun j oj hj hne hun => by
  have := h2 j (Array.getElem?_eq_some_iff.1 hj).1
  rcases this with h | h | h
  ·exact absurd h hne
  ·rw [hun] at h; cases h
  ·simpa [hj] using h
 refine Ai (fun j => D.getD j false) hi (Region.noSelect_spec h1) (fun c a w h => h) n listed a w (fun j oj hj hne hun hd => ?_) (fun j oj hj hne hun hd => ?_) (by simpa using h4) (hy a ha) (h _ (ha.jE hd v))
 ·have k := key j oj hj hne hun
  rw [hd, cond_true] at k
  obtain ⟨e, he, hb⟩ := Array.any_eq_true'.1 k
  simp only [Bool.and_eq_true, Bool.or_eq_true, beq_iff_eq, Bool.not_eq_true'] at hb
  exact ⟨e, he, hb.1, hb.2⟩
 ·have k := key j oj hj hne hun
  rw [hd, cond_false, Bool.and_eq_true, Bool.not_eq_true'] at k
  exact k
def nV (md : Region.Mode) (ops : Array Oper) (listed : Array Bool) (i : Nat) (D : List Bool) : Bool :=
 Region.noSelect ops && (match ops[i]? with
  | none => false
  | some oi => (List.range ops.size).all fun j => j == i || (listed.getD j true || (match ops[j]? with
    | none => true
    | some oj => cond (D.getD j false) (oj.after.any fun e => Region.binds md e && (e.on == i || (D.getD e.on false && !listed.getD e.on true))) (oi.apart ops oj)))) && (Region.ready md ops listed).contains i
def ko (md : Region.Mode) (ops : Array Oper) (listed : Array Bool) (i : Nat) : Bool := nV md ops listed i (ey md ops listed i)
theorem Lq {n : Nat} {listed : Array Bool} (i : Nat) {op : Op} {ty : TypeId} {v : Value} {dst : Option Tmp} {pos : String} {after : Array Edge} (hi : ops[i]? = some ⟨dst, op, ty, pos, after, none⟩) (hf : ko .any ops listed i = true) (hy : ∀ w0, Y P L w0 op ty v) (hd : gH N dst = true)
  (hr : WM P ops (fW Q) n (listed.setIfInBounds i true) N (bL dst v L) w) : WM P ops (fW Q) (n + 1) listed N L w := by
 intro a ha
 unfold ko at hf
 generalize ey .any ops listed i = D at hf
 simp only [nV, hi, Bool.and_eq_true, List.all_eq_true, List.mem_range, Bool.or_eq_true, beq_iff_eq] at hf
 obtain ⟨⟨h1, h2⟩, h4⟩ := hf
 have key : ∀ j oj, ops[j]? = some oj → j ≠ i → listed.getD j true = false → cond (D.getD j false) (oj.after.any fun e => Region.binds .any e && (e.on == i || (D.getD e.on false && !listed.getD e.on true))) (Oper.apart ops ⟨dst, op, ty, pos, after, none⟩ oj) = true := fun j oj hj hne hun => by
  have := h2 j (Array.getElem?_eq_some_iff.1 hj).1
  rcases this with h | h | h
  ·exact absurd h hne
  ·rw [hun] at h; cases h
  ·simpa [hj] using h
 refine wi (fun j => D.getD j false) hi (Region.noSelect_spec h1) (fun c a w h => h) n listed a w (fun j oj hj hne hun hd => ?_) (fun j oj hj hne hun hd => ?_) (by simpa using h4) (.inl ⟨rfl, fun w' _ => hy w' a.eval (fun _ _ hx => ha.ev hx) w' (Ext.refl w') _ _ _ _⟩) (hr _ (ha.jE hd v))
 ·have k := key j oj hj hne hun
  rw [hd, cond_true] at k
  obtain ⟨e, he, hb⟩ := Array.any_eq_true'.1 k
  simp only [Bool.and_eq_true, Bool.or_eq_true, beq_iff_eq, Bool.not_eq_true'] at hb
  exact ⟨e, he, hb.1, hb.2⟩
 ·have k := key j oj hj hne hun
  rwa [hd, cond_false] at k
theorem Lw {n : Nat} {listed : Array Bool} (i : Nat) {op : Op} {ty : TypeId} {v : Value} {dst : Option Tmp} {pos : String} {after : Array Edge} (hi : ops[i]? = some ⟨dst, op, ty, pos, after, none⟩) (hf : ou .any ops listed i = true) (h : Y P L w op ty v) (hd : gH N dst = true)
  (hr : WM P ops (fW Q) n (listed.setIfInBounds i true) N (bL dst v L) w) : WM P ops (fW Q) (n + 1) listed N L w :=
 Gr hi hf (fun a ha => .inl ⟨rfl, fun w' e => h a.eval (fun _ _ hx => ha.ev hx) w' e _ _ _ _⟩) hd hr
theorem wU {n : Nat} {listed : Array Bool} (rs : List Nat) (hr : Region.ready .any ops listed = rs) (hne : rs.isEmpty = false)
  (h : ∀ i ∈ rs, ∀ a, Fr N L a → wpOp P ops Q i (fun a' w' => (turns ops i = true ∨ Ext w w') ∧ GM P .any ops Q n (listed.setIfInBounds i true) a' w') a w) : WM P ops Q (n + 1) listed N L w := by
 intro a ha
 refine ⟨fun h0 => ?_, fun i hi => h i (hr ▸ hi) a ha⟩
 rw [hr] at h0
 rw [h0] at hne
 cases hne
def cx (P : Program) (ops : Array Oper) (Q : Exit → Act → World → Prop) (n : Nat) (listed : Array Bool) (i : Nat) (N : Nd) (L : List (Nat × Value)) (w : World) : Prop :=
 ∀ a, Fr N L a → wpOp P ops Q i (fun a' w' => (turns ops i = true ∨ Ext w w') ∧ GM P .any ops Q n (listed.setIfInBounds i true) a' w') a w
theorem aM {n : Nat} {listed : Array Bool} (i : Nat) (hr : Region.ready .any ops listed = [i]) (h : cx P ops Q n listed i N L w) : WM P ops Q (n + 1) listed N L w :=
 wU [i] hr rfl (fun k hk => by simp only [List.mem_singleton] at hk; subst hk; exact h)
theorem ez {n : Nat} {listed : Array Bool} (i j : Nat) (hr : Region.ready .any ops listed = [i, j]) (h : cx P ops Q n listed i N L w) (h' : cx P ops Q n listed j N L w) : WM P ops Q (n + 1) listed N L w :=
 wU [i, j] hr rfl (fun k hk => by
  simp only [List.mem_cons, List.not_mem_nil, or_false] at hk
  rcases hk with hk | hk <;> subst hk
  ·exact h
  ·exact h')
theorem Bh {n : Nat} {listed : Array Bool} (i j k : Nat) (hr : Region.ready .any ops listed = [i, j, k]) (h : cx P ops Q n listed i N L w) (h' : cx P ops Q n listed j N L w) (h'' : cx P ops Q n listed k N L w) : WM P ops Q (n + 1) listed N L w :=
 wU [i, j, k] hr rfl (fun m hk => by
  simp only [List.mem_cons, List.not_mem_nil, or_false] at hk
  rcases hk with hk | hk | hk <;> subst hk
  ·exact h
  ·exact h'
  ·exact h'')
theorem aO {n : Nat} {listed : Array Bool} {i : Nat} {op : Op} {ty : TypeId} {Φ : Value → World → Prop} {dst : Option Tmp} {pos : String} {after : Array Edge} (hi : ops[i]? = some ⟨dst, op, ty, pos, after, none⟩) (h : Ef P L w op ty Φ) (hd : gH N dst = true)
  (hr : ∀ v w', Φ v w' → (turns ops i = true ∨ Ext w w') ∧ WM P ops Q n (listed.setIfInBounds i true) N (bL dst v L) w') : cx P ops Q n listed i N L w := by
 intro a ha
 unfold wpOp
 simp only [hi]
 rw [if_pos (by simp [Region.wanted])]
 exact .inl (h a N ha _ _ _ _ _ _ fun v w' hv => ⟨(hr v w' hv).1, (hr v w' hv).2 _ (ha.jE hd v)⟩)
end
end
/-! Steps that ask nothing, taken as xM as they go. -/
theorem Lo {P : Program} {Q : Exit → Act → World → Prop} {x y : Code} {N : Nd} {L : List (Nat × Value)} {w : World} (h : WC P (Exit.then (y.wp P Q) Q) x N L w) : WC P Q (.seq x y) N L w := fun a ha => wp_seq (h a ha)
theorem Lx {P : Program} {Q R : Exit → Act → World → Prop} {y : Code} {N : Nd} {L : List (Nat × Value)} {w : World} (h : WC P R y N L w) : WQ (Exit.then (y.wp P R) Q) .normal N L w := h
structure NF (q : Prop) : Prop where
 o : q
theorem aY {z a a' b b' : Prop} (x : z) (ha : a) (hb : b) (fa : z → a → a' := by intro x h; exact h.ext x) (fb : z → b → b' := by intro x h; exact h.ext x) : a' ∧ b' := ⟨fa x ha, fb x hb⟩
theorem rL {z a a' b b' : Prop} (x : z) (ha : a) (hb : b) (fa : z → a → a' := by intro x h; exact h.bT x) (fb : z → b → b' := by intro x h; exact h.bT x) : a' ∧ b' := ⟨fa x ha, fb x hb⟩
theorem bC {z a a' b b' c c' : Prop} (x : z) (ha : a) (hb : b) (hc : c) (fa : z → a → a' := by intro x h; exact h.ext x) (fb : z → b → b' := by intro x h; exact h.ext x) (fc : z → c → c' := by intro x h; exact h.ext x) : a' ∧ b' ∧ c' := ⟨fa x ha, fb x hb, fc x hc⟩
theorem AN {z a a' b b' c c' : Prop} (x : z) (ha : a) (hb : b) (hc : c) (fa : z → a → a' := by intro x h; exact h.bT x) (fb : z → b → b' := by intro x h; exact h.bT x) (fc : z → c → c' := by intro x h; exact h.bT x) : a' ∧ b' ∧ c' := ⟨fa x ha, fb x hb, fc x hc⟩
theorem bU {z a a' b b' c c' d d' : Prop} (x : z) (ha : a) (hb : b) (hc : c) (hd : d) (fa : z → a → a' := by intro x h; exact h.ext x) (fb : z → b → b' := by intro x h; exact h.ext x) (fc : z → c → c' := by intro x h; exact h.ext x) (fd : z → d → d' := by intro x h; exact h.ext x) : a' ∧ b' ∧ c' ∧ d' := ⟨fa x ha, fb x hb, fc x hc, fd x hd⟩
theorem kA {z a a' b b' c c' d d' : Prop} (x : z) (ha : a) (hb : b) (hc : c) (hd : d) (fa : z → a → a' := by intro x h; exact h.bT x) (fb : z → b → b' := by intro x h; exact h.bT x) (fc : z → c → c' := by intro x h; exact h.bT x) (fd : z → d → d' := by intro x h; exact h.bT x) : a' ∧ b' ∧ c' ∧ d' := ⟨fa x ha, fb x hb, fc x hc, fd x hd⟩
theorem gQ {z a a' b b' c c' d d' f f' : Prop} (x : z) (ha : a) (hb : b) (hc : c) (hd : d) (hf : f) (fa : z → a → a' := by intro x h; exact h.ext x) (fb : z → b → b' := by intro x h; exact h.ext x) (fc : z → c → c' := by intro x h; exact h.ext x) (fd : z → d → d' := by intro x h; exact h.ext x) (ff : z → f → f' := by intro x h; exact h.ext x) : a' ∧ b' ∧ c' ∧ d' ∧ f' := ⟨fa x ha, fb x hb, fc x hc, fd x hd, ff x hf⟩
theorem NU {z a a' b b' c c' d d' f f' : Prop} (x : z) (ha : a) (hb : b) (hc : c) (hd : d) (hf : f) (fa : z → a → a' := by intro x h; exact h.bT x) (fb : z → b → b' := by intro x h; exact h.bT x) (fc : z → c → c' := by intro x h; exact h.bT x) (fd : z → d → d' := by intro x h; exact h.bT x) (ff : z → f → f' := by intro x h; exact h.bT x) : a' ∧ b' ∧ c' ∧ d' ∧ f' := ⟨fa x ha, fb x hb, fc x hc, fd x hd, ff x hf⟩
theorem gL {z a a' b b' c c' d d' f f' g g' : Prop} (x : z) (ha : a) (hb : b) (hc : c) (hd : d) (hf : f) (hg : g) (fa : z → a → a' := by intro x h; exact h.ext x) (fb : z → b → b' := by intro x h; exact h.ext x) (fc : z → c → c' := by intro x h; exact h.ext x) (fd : z → d → d' := by intro x h; exact h.ext x) (ff : z → f → f' := by intro x h; exact h.ext x) (fg : z → g → g' := by intro x h; exact h.ext x) : a' ∧ b' ∧ c' ∧ d' ∧ f' ∧ g' := ⟨fa x ha, fb x hb, fc x hc, fd x hd, ff x hf, fg x hg⟩
theorem tI {z a a' b b' c c' d d' f f' g g' : Prop} (x : z) (ha : a) (hb : b) (hc : c) (hd : d) (hf : f) (hg : g) (fa : z → a → a' := by intro x h; exact h.bT x) (fb : z → b → b' := by intro x h; exact h.bT x) (fc : z → c → c' := by intro x h; exact h.bT x) (fd : z → d → d' := by intro x h; exact h.bT x) (ff : z → f → f' := by intro x h; exact h.bT x) (fg : z → g → g' := by intro x h; exact h.bT x) : a' ∧ b' ∧ c' ∧ d' ∧ f' ∧ g' := ⟨fa x ha, fb x hb, fc x hc, fd x hd, ff x hf, fg x hg⟩
theorem gY {z a a' b b' c c' d d' f f' g g' h h' : Prop} (x : z) (ha : a) (hb : b) (hc : c) (hd : d) (hf : f) (hg : g) (hh : h) (fa : z → a → a' := by intro x h; exact h.ext x) (fb : z → b → b' := by intro x h; exact h.ext x) (fc : z → c → c' := by intro x h; exact h.ext x) (fd : z → d → d' := by intro x h; exact h.ext x) (ff : z → f → f' := by intro x h; exact h.ext x) (fg : z → g → g' := by intro x h; exact h.ext x) (fh : z → h → h' := by intro x h; exact h.ext x) : a' ∧ b' ∧ c' ∧ d' ∧ f' ∧ g' ∧ h' := ⟨fa x ha, fb x hb, fc x hc, fd x hd, ff x hf, fg x hg, fh x hh⟩
theorem LN {z a a' b b' c c' d d' f f' g g' h h' : Prop} (x : z) (ha : a) (hb : b) (hc : c) (hd : d) (hf : f) (hg : g) (hh : h) (fa : z → a → a' := by intro x h; exact h.bT x) (fb : z → b → b' := by intro x h; exact h.bT x) (fc : z → c → c' := by intro x h; exact h.bT x) (fd : z → d → d' := by intro x h; exact h.bT x) (ff : z → f → f' := by intro x h; exact h.bT x) (fg : z → g → g' := by intro x h; exact h.bT x) (fh : z → h → h' := by intro x h; exact h.bT x) : a' ∧ b' ∧ c' ∧ d' ∧ f' ∧ g' ∧ h' := ⟨fa x ha, fb x hb, fc x hc, fd x hd, ff x hf, fg x hg, fh x hh⟩
theorem Mr {z a a' b b' c c' d d' f f' g g' h h' i i' : Prop} (x : z) (ha : a) (hb : b) (hc : c) (hd : d) (hf : f) (hg : g) (hh : h) (hi : i) (fa : z → a → a' := by intro x h; exact h.ext x) (fb : z → b → b' := by intro x h; exact h.ext x) (fc : z → c → c' := by intro x h; exact h.ext x) (fd : z → d → d' := by intro x h; exact h.ext x) (ff : z → f → f' := by intro x h; exact h.ext x) (fg : z → g → g' := by intro x h; exact h.ext x) (fh : z → h → h' := by intro x h; exact h.ext x) (fi : z → i → i' := by intro x h; exact h.ext x) : a' ∧ b' ∧ c' ∧ d' ∧ f' ∧ g' ∧ h' ∧ i' := ⟨fa x ha, fb x hb, fc x hc, fd x hd, ff x hf, fg x hg, fh x hh, fi x hi⟩
theorem LB {z a a' b b' c c' d d' f f' g g' h h' i i' : Prop} (x : z) (ha : a) (hb : b) (hc : c) (hd : d) (hf : f) (hg : g) (hh : h) (hi : i) (fa : z → a → a' := by intro x h; exact h.bT x) (fb : z → b → b' := by intro x h; exact h.bT x) (fc : z → c → c' := by intro x h; exact h.bT x) (fd : z → d → d' := by intro x h; exact h.bT x) (ff : z → f → f' := by intro x h; exact h.bT x) (fg : z → g → g' := by intro x h; exact h.bT x) (fh : z → h → h' := by intro x h; exact h.bT x) (fi : z → i → i' := by intro x h; exact h.bT x) : a' ∧ b' ∧ c' ∧ d' ∧ f' ∧ g' ∧ h' ∧ i' := ⟨fa x ha, fb x hb, fc x hc, fd x hd, ff x hf, fg x hg, fh x hh, fi x hi⟩
theorem vC {z a a' b b' c c' d d' f f' g g' h h' i i' j j' : Prop} (x : z) (ha : a) (hb : b) (hc : c) (hd : d) (hf : f) (hg : g) (hh : h) (hi : i) (hj : j) (fa : z → a → a' := by intro x h; exact h.ext x) (fb : z → b → b' := by intro x h; exact h.ext x) (fc : z → c → c' := by intro x h; exact h.ext x) (fd : z → d → d' := by intro x h; exact h.ext x) (ff : z → f → f' := by intro x h; exact h.ext x) (fg : z → g → g' := by intro x h; exact h.ext x) (fh : z → h → h' := by intro x h; exact h.ext x) (fi : z → i → i' := by intro x h; exact h.ext x) (fj : z → j → j' := by intro x h; exact h.ext x) : a' ∧ b' ∧ c' ∧ d' ∧ f' ∧ g' ∧ h' ∧ i' ∧ j' := ⟨fa x ha, fb x hb, fc x hc, fd x hd, ff x hf, fg x hg, fh x hh, fi x hi, fj x hj⟩
theorem jq {z a a' b b' c c' d d' f f' g g' h h' i i' j j' : Prop} (x : z) (ha : a) (hb : b) (hc : c) (hd : d) (hf : f) (hg : g) (hh : h) (hi : i) (hj : j) (fa : z → a → a' := by intro x h; exact h.bT x) (fb : z → b → b' := by intro x h; exact h.bT x) (fc : z → c → c' := by intro x h; exact h.bT x) (fd : z → d → d' := by intro x h; exact h.bT x) (ff : z → f → f' := by intro x h; exact h.bT x) (fg : z → g → g' := by intro x h; exact h.bT x) (fh : z → h → h' := by intro x h; exact h.bT x) (fi : z → i → i' := by intro x h; exact h.bT x) (fj : z → j → j' := by intro x h; exact h.bT x) : a' ∧ b' ∧ c' ∧ d' ∧ f' ∧ g' ∧ h' ∧ i' ∧ j' := ⟨fa x ha, fb x hb, fc x hc, fd x hd, ff x hf, fg x hg, fh x hh, fi x hi, fj x hj⟩
section
variable {P : Program} {ops : Array Oper} {Q : Exit → Act → World → Prop} {rest : List Oper} {N : Nd} {L : List (Nat × Value)} {w : World} {op : Op} {ty : TypeId} {v : Value} {pos : String} {after : Array Edge}
theorem ak {d : Tmp} (h : Y P L w op ty v) (hr : WL P ops Q rest N ((d, v) :: L) w) (hd : Nat.ble (d + 1) N.n = true := by exact rfl) : WL P ops Q (⟨some d, op, ty, pos, after, none⟩ :: rest) N L w := Eo h hd hr
theorem kH {d : Tmp} {j : Nat} {b : Bool} (t : Tmp) (h : Y P L w op ty v) (hr : WL P ops Q rest N ((d, v) :: L) w) (hj : (ops[j]?).bind (·.dst) = some t := by exact rfl) (ht : look L t = some (.bool b) := by exact rfl) (hd : Nat.ble (d + 1) N.n = true := by exact rfl) : WL P ops Q (⟨some d, op, ty, pos, after, some (j, b)⟩ :: rest) N L w := yp t hj ht h hd hr
theorem cU {n : Nat} {listed : Array Bool} (i : Nat) {dst : Option Tmp} (hi : ops[i]? = some ⟨dst, op, ty, pos, after, none⟩) (hy : ∀ w0, Y P L w0 op ty v) (hr : WM P ops (fW Q) n (listed.setIfInBounds i true) N (bL dst v L) w) (hf : ko .any ops listed i = true := by kernel_rfl) (hd : gH N dst = true := by exact rfl) : WM P ops (fW Q) (n + 1) listed N L w := Lq i hi hf hy hd hr
end
section
variable {P : Program} {ops : Array Oper} {Q : Exit → Act → World → Prop} {N : Nd} {L : List (Nat × Value)} {w : World}
theorem my {n : Nat} {listed : Array Bool} (i : Nat) {op : Op} {ty : TypeId} {v : Value} {dst : Option Tmp} {pos : String} {after : Array Edge} (hi : ops[i]? = some ⟨dst, op, ty, pos, after, none⟩) (h : Y P L w op ty v) (hr : WM P ops (fW Q) n (listed.setIfInBounds i true) N (bL dst v L) w)
  (hf : ou .any ops listed i = true := by kernel_rfl) (hd : gH N dst = true := by exact rfl) : WM P ops (fW Q) (n + 1) listed N L w := Lw i hi hf h hd hr
end
abbrev Ct := Calls Tryz.prog
end Go.Proofs.YtgfafidlkldeaaaGreat
