/- welcome.Make's guests, one by one: the iterator. No conditions: contracts of functions. -/
import Derived.Test.YtgfafidlkldeaaaGreatDhB
import Derived.Test.YtgfafidlkldeaaaGreatMuC
import Derived.Test.YtgfafidlkldeaaaGreatWlK
import Derived.Test.YtgfafidlkldeaaaGreatAu
set_option linter.unusedVariables false
set_option linter.unusedSimpArgs false
set_option maxHeartbeats 4000000
set_option maxRecDepth 4000
namespace Go.Proofs.YtgfafidlkldeaaaGreat
section
open Go.RowKit
section
variable {P : Program} {ops : Array Oper} {Q : Exit → Act → World → Prop} {N : Nd} {L : List (Nat × Value)} {w : World} {n : Nat} {rest : List Oper} {a : Act}
/-! An iterator's region: an effect; a yield of two values. -/
theorem IZ {o : Oper} {next next' : Act → World → Prop} (hn : ∀ a w, next a w → next' a w) : ∀ {r : Result Next}, o.upon P a next Q r → o.uponIn Fence.wide n P a next' Q r
  | .ok (.value _) _, h => hn _ _ h
  | .ok .skip _, h => hn _ _ h
  | .ok (.defer _) _, h => hn _ _ h
  | .ok (.enter _ _) _, h => by
    refine ⟨fun e => by simp [Fence.wide] at e, callsIn_wide.2 (Calls.mono h ?_)⟩
    intro e _ hr
    cases e with
    | returned v => exact hn _ _ hr
    | panicked c => exact hr
    | outgrown => exact hr
  | .ok (.row _ _) _, h => ⟨fun e => by simp [Fence.wide] at e, (yB (h.mono fun _ _ hr => hn _ _ hr) : RowsIn Fence.wide (n - 1) P _ _ _ _)⟩
  | .halt (.panic _) _, h => h
theorem Ks {op : Op} {ty : TypeId} {Φ : Value → World → Prop} {dst : Option Tmp} {pos : String} {after : Array Edge} (h : Ef P L w op ty Φ) (hd : gH N dst = true)
  (hr : ∀ v w', Φ v w' → Eg n P ops Q rest N (bL dst v L) w') : Eg n P ops Q (⟨dst, op, ty, pos, after, none⟩ :: rest) N L w := by
 intro a ha
 refine wpListIn_plain rfl fun K hK => ⟨fun _ _ => trivial, ?_⟩
 rw [show Fence.wide.round = none from rfl, Oper.semAt_none]
 exact IZ (fun a w h => h) (h a N ha _ _ _ _ K Q fun v w' hv => hK _ _ (hr v w' hv _ (ha.jE hd v)))
theorem wI {x y z : Operand} {ats : Array TypeId} {ty : TypeId} {u v : Value} {lp : Nat} {R : Ending → World → Prop} {d : Tmp} {pos : String} {after : Array Edge} (hx : ev L x = some (.func (.yield lp) #[] #[])) (hy : ev L y = some u) (hz : ev L z = some v)
  (h : YieldAt Fence.wide (n - 1) P lp #[u, v] w R) (hd : Nat.ble (d + 1) N.n = true) (hr : ∀ e w', R e w' → ∃ v, e = .returned v ∧ Eg n P ops Q rest N ((d, v) :: L) w') :
  Eg n P ops Q (⟨some d, .call { callee := .value x, args := #[y, z], argTypes := ats }, ty, pos, after, none⟩ :: rest) N L w := by
 intro a ha
 refine wpListIn_plain rfl fun K hK => ⟨fun _ _ => trivial, ?_⟩
 obtain ⟨fn, tmps, assign, body, Vl, hR⟩ := h
 rw [show Fence.wide.round = none from rfl, Oper.semAt_none]
 have e : (execOp a.eval ⟨some d, .call { callee := .value x, args := #[y, z], argTypes := ats }, ty, pos, after, none⟩).run P w = .ok (.round lp fn tmps assign body) w := by
  simp [execOp, resolve, invoke, Deferred.ofValue, ha.ev hx, ha.ev hy, ha.ev hz, Vl]
 rw [e]
 refine ⟨fun e => by simp [Fence.wide] at e, hR.mono ?_⟩
 intro e w' Vm
 obtain ⟨v, rfl, hv⟩ := hr e w' Vm
 exact hK _ _ (hv _ (ha.put hd v))
end
def NQ {α : Type} (n : Nat) (P : Program) (g : Nat) (lb : Array Value) (encs : α → Array Value) (Kp : World → World → Prop) (Good : List α → α → World → World → Prop) (S Sp : List α → Prop) (w : World) : Prop :=
 ∀ (l : Nat) (J Jx : List α → World → Prop) (W : World), Below w.heap.size w W → AbidesFrom W.heap.size J →
  (∀ pre x W0 W1, J pre W0 → Ext W0 W1 → Good pre x W0 W1 → YieldAt Fence.wide (n - 1) P l (encs x) W1 fun e W' => (e = .returned (.bool true) ∧ J (pre ++ [x]) W' ∧ Kp W1 W') ∨ (e = .returned (.bool false) ∧ Jx (pre ++ [x]) W')) →
  J [] W → Calls P g (#[.func (.yield l) #[] #[]] ++ lb) W fun e W' => (∃ v, e = .returned v) ∧ ((∃ xs, S xs ∧ J xs W') ∨ (∃ pre, Sp pre ∧ Jx pre W'))
section
variable {P : Program} {Q : Exit → Act → World → Prop} {N : Nd} {L : List (Nat × Value)} {w : World} {n : Nat}
theorem sQ {α : Type} {B : Nat} {Kp : World → World → Prop} {I : List α → World → Prop} {Ix : Code → List α → World → Prop} {xs : List α} {W : World} : ¬ LetsOut (ownPostG B Kp I Ix xs W) := fun ⟨_, _, h⟩ => h
theorem yR {α : Type} {g : Operand} {p q gf : Nat} {lb : Array Value} {asg body : Code} {e1 e2 : α → Value} {Kp : World → World → Prop} {Good : List α → α → World → World → Prop} {S Sp : List α → Prop}
    (hg : ev L g = some (.func (.func gf) #[] lb)) (eg : ∀ args w, (callFunc gf args).run P w = .ok (.enter gf args) w) (hseq : NQ (n - 1) P gf lb (fun v => #[e1 v, e2 v]) Kp Good S Sp w)
    (hKt : ∀ {A B C : World}, Kp A B → Kp B C → Kp A C) (hKb : ∀ (W : World) (l : Nat) (o o' : Obj), w.heap.size ≤ l → W.heap[l]? = some o → o.isCells = false → o.isWalk = false → Kp W (W.putObj l o'))
    (I Ir : List α → World → Prop) (hI : OwnFrom w.heap.size I) (hIr : OwnFrom w.heap.size Ir) (h0 : I [] w) (hp : Nat.ble (p + 1) N.n = true) (hq : Nat.ble (q + 1) N.n = true)
    (As : List α → α → List (Nat × Value) → World → Prop) (hAs : ∀ pre v L', OwnFrom w.heap.size (fun (_ : Unit) W => As pre v L' W))
    (hasg : ∀ (k : Nat) (Q' : Exit → Act → World → Prop) (pre : List α) (v : α) (W0 W : World), I pre W0 → Ext W0 W → I pre W → Good pre v W0 W → (∀ {L' : List (Nat × Value)} {W' : World}, KeepsFrom w.heap.size W W' → Kp W W' → I pre W' → As pre v L' W' → WQ Q' .normal ⟨N.n, []⟩ L' W') →
      WR k (n - 1 - 1) P Q' asg ⟨N.n, []⟩ ((q, e2 v) :: (p, e1 v) :: L) W)
    (hbody : ∀ (k : Nat) (Q' : Exit → Act → World → Prop) (pre : List α) (v : α) (L' : List (Nat × Value)) (W : World), I pre W → As pre v L' W →
      (∀ {N' : Nd} {Vm : List (Nat × Value)} {W' : World}, KeepsFrom w.heap.size W W' → Kp W W' → I (pre ++ [v]) W' → WQ Q' .normal N' Vm W') →
      (∀ {N' : Nd} {Vm : List (Nat × Value)} {W' : World}, KeepsFrom w.heap.size W W' → Ir (pre ++ [v]) W' → WQ Q' .ret N' Vm W') →
      WR k (n - 1 - 1) P Q' body ⟨N.n, []⟩ L' W)
    (hdone : ∀ (D : Nat) (xs : List α) (W : World), w.heap.size ≤ D → S xs → I xs W → W.heap[D]? = some (.deferred (some [])) → WQ Q .normal ⟨N.n, { target := .collected D, args := #[] } :: N.ds⟩ L W)
    (hstop : ∀ (D : Nat) (pre : List α) (W : World), w.heap.size ≤ D → Sp pre → Ir pre W → W.heap[D]? = some (.deferred (some [])) → WQ Q .ret ⟨N.n, { target := .collected D, args := #[] } :: N.ds⟩ L W) :
    WC P Q (.rangeFunc g #[p, q] asg body) N L w := by
  intro a ha
  rw [← wpIn_wide (n := n)]
  refine wpIn_rangeFunc ?_
  intro fn hfn
  rw [show Fence.wide.round = none from rfl]
  obtain ⟨R, hR⟩ : ∃ R : LoopState → Option Code → Loop, R = fun s c => { state := s, pending := c, fn, tmps := a.tmps, params := #[p, q], assign := asg, body, defers := w.heap.size } := ⟨_, rfl⟩
  obtain ⟨V, hV⟩ : ∃ V, V = (w.alloc (.deferred (some []))).alloc (.loop (R .ready none)) := ⟨_, rfl⟩
  have v1 : V.heap[w.heap.size + 1]? = some (.loop (R .ready none)) := by
    rw [hV]; have := World.alloc_heap_new (w.alloc (.deferred (some []))) (.loop (R .ready none)); rwa [World.size_alloc] at this
  have v2 : V.heap[w.heap.size]? = some (.deferred (some [])) := by
    rw [hV]; exact (Below.heap_alloc _ _ _ (by simp)).trans (World.alloc_heap_new w _)
  have hlow : ∀ {A : World} {row : Option Nat}, (∀ r, row = some r → V.heap.size ≤ r ∧ ∃ o : Obj, A.heap[r]? = some o ∧ o.isWalk = true) → ∀ r, row = some r → w.heap.size ≤ r ∧ ∃ o : Obj, A.heap[r]? = some o ∧ o.isCells = false := fun h r e => by
    obtain ⟨hb, o, h1, h2⟩ := h r e
    have := (Array.getElem?_eq_some_iff.1 v2).1
    exact ⟨by omega, o, h1, Obj.not_cells_of_walk h2⟩
  refine ⟨w.heap.size + 1, [{ target := .collected w.heap.size, args := #[] }], V, { target := .fn (.func gf) lb, args := #[.func (.yield (w.heap.size + 1)) #[] #[]] }, V, gf,
    #[.func (.yield (w.heap.size + 1)) #[] #[]] ++ lb, V, by rw [hV, hR]; exact run_enterLoop_outer _ _ _ _ _, by simp only [resolve, ha.ev hg]; simp [go_sem], fun _ _ => trivial, by simp [invoke, go_sem, eg], fun h => by simp [Fence.wide] at h, ?_⟩
  refine callsIn_wide.2 (Calls.mono (hseq (w.heap.size + 1) (fun pre W => I pre W ∧ W.heap[w.heap.size + 1]? = some (.loop (R .ready none)) ∧ W.heap[w.heap.size]? = some (.deferred (some [])))
    (fun pre W => Ir pre W ∧ W.heap[w.heap.size + 1]? = some (.loop (R .done (some .ret))) ∧ W.heap[w.heap.size]? = some (.deferred (some []))) V ?_ ?_ ?_ ⟨?_, v1, v2⟩) ?_)
  · rw [hV]; exact (((Below.refl _ w).alloc (Nat.le_refl _) _).alloc (by simp) _)
  · exact fun s A B row hs Vn hr => ⟨hI s A B row hs.1 Vn (hlow hr), (grownBy_keeps Vn (fun r e => (hr r e).2) hs.2.1 rfl).trans hs.2.1, (grownBy_keeps Vn (fun r e => (hr r e).2) hs.2.2 rfl).trans hs.2.2⟩
  · rintro pre x W0 W ⟨Vo, Vp, Vq⟩ hE hG
    have hi : I pre W := hI _ _ _ none Vo (fo hE) (fun r e => by cases e)
    have hl := (hE.block _ (Array.getElem?_eq_some_iff.1 Vp).1).trans Vp
    have hk := (hE.block _ (Array.getElem?_eq_some_iff.1 Vq).1).trans Vq
    have hy := run_yield (P := P) (args := #[e1 x, e2 x]) hl (by rw [hR]; rfl)
    rw [hR] at hy
    have fr : Fr ⟨N.n, []⟩ ((q, e2 x) :: (p, e1 x) :: L) { tmps := (a.tmps.setIfInBounds p (e1 x)).setIfInBounds q (e2 x), defers := [] } := by
      have h1 : Fr ⟨N.n, []⟩ L { tmps := a.tmps, defers := [] } := ⟨ha.size, rfl, ha.has⟩
      exact (h1.put hp (e1 x)).put hq (e2 x)
    refine ⟨fn, _, asg, body, hy, roundIn_of_wpIn hfn (hasg _ _ pre x W0 W Vo hE hi hG ?_ (fun ⟨_, _, h⟩ => h) _ (by simpa using fr))⟩
    intro L' W2 k2 Vr i2 Vs _ Vt
    have Vl := k2.same _ _ Om hl rfl
    have Vu := k2.same _ _ (Nat.le_refl _) hk rfl
    have hlt := (Array.getElem?_eq_some_iff.1 Vl).1
    refine ⟨_, run_beginRound Vl (by rw [hR]), ?_⟩
    obtain ⟨U, hU⟩ : ∃ U, U = W2.putObj (w.heap.size + 1) (.loop { R .ready none with state := .busy }) := ⟨_, rfl⟩
    rw [← hU]
    have u1 : U.heap[w.heap.size + 1]? = some (.loop { R .ready none with state := .busy }) := by rw [hU]; exact World.putObj_heap_same hlt
    have u2 : U.heap[w.heap.size]? = some (.deferred (some [])) := by rw [hU]; exact (World.putObj_heap_other Om).trans Vu
    have uk : Kp W2 U := by rw [hU]; exact hKb _ _ _ _ Om Vl rfl rfl
    have ui : I pre U := by rw [hU]; exact hI.putObj _ i2 Om Vl rfl
    have ua : As pre x L' U := by rw [hU]; exact (hAs pre x L').putObj (s := ()) _ Vs Om Vl rfl
    have fin : ∀ (j : Option Code) (X : World), KeepsFrom w.heap.size U X → (Instr.endRound (w.heap.size + 1) j).run P X = .ok (.bool j.isNone) (X.putObj (w.heap.size + 1) (.loop (R (if j.isNone then .ready else .done) j))) ∧
        X.heap[w.heap.size + 1]? = some (.loop { R .ready none with state := .busy }) ∧ (X.putObj (w.heap.size + 1) (.loop (R (if j.isNone then .ready else .done) j))).heap[w.heap.size + 1]? = some (.loop (R (if j.isNone then .ready else .done) j)) ∧
        (X.putObj (w.heap.size + 1) (.loop (R (if j.isNone then .ready else .done) j))).heap[w.heap.size]? = some (.deferred (some [])) := fun j X k3 => by
      have h3 := k3.same _ _ Om u1 rfl
      have := run_endRound (P := P) j h3
      rw [hR] at this ⊢
      exact ⟨this, by rw [hR] at h3; exact h3, World.putObj_heap_same (Array.getElem?_eq_some_iff.1 h3).1, (World.putObj_heap_other Om).trans (k3.same _ _ (Nat.le_refl _) u2 rfl)⟩
    refine wpIn_mono (hbody _ (ownPostG w.heap.size Kp I (fun c xs W => c = .ret ∧ Ir xs W) (pre ++ [x]) U) pre x L' U ui ua (fun h1 h2 h3 _ _ => ⟨h1, h2, h3⟩) (fun h1 h2 _ _ => ⟨h1, rfl, h2⟩) sQ _ Vt) ?_
    rintro e _ X hX
    cases e with
    | normal =>
      obtain ⟨k3, Vv, i3⟩ := hX
      obtain ⟨f1, f2, f3, f4⟩ := fin none X k3
      exact ⟨_, _, f1, .inl ⟨rfl, ⟨hI.putObj _ i3 Om f2 rfl, f3, f4⟩, hKt Vr (hKt (hKt uk Vv) (hKb _ _ _ _ Om f2 rfl rfl))⟩⟩
    | ret =>
      obtain ⟨k3, _, i3⟩ := hX
      obtain ⟨f1, f2, f3, f4⟩ := fin (some .ret) X k3
      exact ⟨_, _, f1, .inr ⟨rfl, hIr.putObj _ i3 Om f2 rfl, f3, f4⟩⟩
    | exit _ => exact absurd hX.2.1 (by simp)
    | goto _ => exact absurd hX.2.1 (by simp)
    | panic _ => exact hX.elim
    | outgrown => exact hX.elim
  · rw [hV]; exact hI.alloc _ (hI.alloc _ h0)
  · rintro e W2 ⟨⟨v, rfl⟩, (⟨xs, hS, hi, hl, hk⟩ | ⟨pre, hSp, hi, hl, hk⟩)⟩
    · refine ⟨none, _, by have := run_endLoop (P := P) hl (by rw [hR]; simp); rw [hR] at this; exact this, ?_⟩
      exact hdone _ xs _ (Nat.le_refl _) hS (hI.putObj _ hi Om hl rfl) ((World.putObj_heap_other Om).trans hk) _ ⟨ha.size, by rw [ha.defers]; rfl, ha.has⟩
    · refine ⟨some .ret, _, by have := run_endLoop (P := P) hl (by rw [hR]; simp); rw [hR] at this; exact this, ?_⟩
      exact wpIn_ret (hstop _ pre _ (Nat.le_refl _) hSp (hIr.putObj _ hi Om hl rfl) ((World.putObj_heap_other Om).trans hk) _ ⟨ha.size, by rw [ha.defers]; rfl, ha.has⟩)
end
end
section
open Go.RowKit
def Bx (S : List Nat) (w : World) (h : Hd) (xs : Lb) : Prop := nI w h xs ∧ (0 < h.n → ∀ b o, h.A = some ⟨b, o, none⟩ → b ∉ S)
section
variable {S T : List Nat} {w w' : World} {H : Hd} {xs : Lb} {base : Nat}
theorem Bx.bT (h : Bx S w H xs) (k : aX T w w') (hT : ∀ g ∈ T, g ∈ S) : Bx S w' H xs :=
 ⟨((Kp.bs h.1 fun hn g hg o e => h.2 hn g o e hg).bT k hT).out, h.2⟩
theorem Bx.ext (h : Bx S w H xs) (k : Ext w w') : Bx S w' H xs := h.bT (aX.of k []) (by simp)
theorem Bx.re (h : Bx S w H xs) (hS : ∀ g ∈ T, g ∈ S ∨ w.heap.size ≤ g) : Bx T w H xs := ⟨h.1, fun hn b o e hm => by
 rcases hS b hm with h1 | h1
 ·exact h.2 hn b o e h1
 ·have h2 := h.1
  unfold nI at h2
  rw [e] at h2
  have := Bs.IW h2 hn
  omega⟩
theorem Bx.of (h : Fb base w H.A H.n xs) (hS : ∀ g ∈ S, g < base) : Bx S w H xs := ⟨h.1, fun hn b o e hm => by have := h.2 hn b o e; have := hS b hm; omega⟩
theorem Bx.grown {o o' : Option Nat} (h : Bx (o.toList ++ S) w H xs) (gr : w.grownBy w' o) (hgl : o' = o ∨ o' = some w.heap.size) : Bx (o'.toList ++ S) w' H xs := by
 have h1 := h.bT (aX.BX gr) (fun g hg => List.mem_append_left _ hg)
 rcases hgl with rfl | rfl
 ·exact h1
 ·exact ⟨h1.1, (h.re (T := (some w.heap.size).toList ++ S) fun g hg => by
   rcases List.mem_append.1 hg with hg | hg
   ·exact .inr (by simp at hg; omega)
   ·exact .inl (List.mem_append_right _ hg)).2⟩
theorem rT {β : Type} {B : Nat} : OwnFrom B (fun (_ : β) W => Bx S W H xs) := fun s _ _ _ hs hg hr => ⟨Bd s _ _ _ hs.1 hg hr, hs.2⟩
theorem BI {β : Type} {B b sz n c : Nat} {e : TypeId} {A : Oa} {vs : List Value} : OwnFrom B (fun (_ : β) W => fm W b e sz A n c vs) := fun _ _ _ _ hs hg hr => by
 refine ⟨hs.1, ?_⟩
 rcases hs.2 with h0 | ⟨g, cap, cur, hv, hb, hc, r⟩
 ·exact .inl h0
 ·exact .inr ⟨g, cap, cur, hv, hb, (grownBy_keeps_cells hg (fun r e => (hr r e).2) hc rfl).trans hc, r⟩
end
def dZ {α : Type} (RC : (Hd → List UInt8 → Prop) → Array Value → α → Prop) (sz : Nat) (e : TypeId) (base : Nat) (S : List Nat) (w : World) (A : Oa) (n c : Nat) (zs : List α) (vals : List Value) : Prop :=
 zs.length = n ∧ fm w base e sz A n c vals ∧ ∀ i x, zs[i]? = some x → RC (Bx ((Value.slice A n c).ownBlock.toList ++ S) w) ((vals.drop (i * sz)).take sz).toArray x
def MI {α : Type} (RC : (Hd → List UInt8 → Prop) → Array Value → α → Prop) (sz : Nat) (e : TypeId) (base : Nat) (S : List Nat) (w : World) (A : Oa) (n c : Nat) (zs : List α) : Prop := ∃ vals, dZ RC sz e base S w A n c zs vals
def Ei {α : Type} (RC : (Hd → List UInt8 → Prop) → Array Value → α → Prop) : Prop := ∀ (B B' : Hd → List UInt8 → Prop) (cs : Array Value) (x : α), RC B cs x → (∀ h xs, B h xs → B' h xs) → RC B' cs x
section
variable {α : Type} {RC : (Hd → List UInt8 → Prop) → Array Value → α → Prop} {sz : Nat} {e : TypeId} {base : Nat} {S T : List Nat} {w w' : World} {A : Oa} {n c : Nat} {zs : List α} {vals : List Value}
theorem dZ.empty (RC : (Hd → List UInt8 → Prop) → Array Value → α → Prop) (sz : Nat) (e : TypeId) (base : Nat) (S : List Nat) (w : World) : dZ RC sz e base S w none 0 0 [] [] := ⟨rfl, fm.empty _ _ _ _, fun i x hx => by simp at hx⟩
theorem dZ.bT (h : dZ RC sz e base S w A n c zs vals) (I : Ei RC) (k : aX T w w') (hT : ∀ g ∈ T, g ∈ S) (hb : ∀ g ∈ T, g < base) : dZ RC sz e base S w' A n c zs vals :=
 ⟨h.1, h.2.1.bT k hb, fun i x hx => I _ _ _ _ (h.2.2 i x hx) fun _ _ b => b.bT k fun g hg => List.mem_append_right _ (hT g hg)⟩
theorem dZ.ext (h : dZ RC sz e base S w A n c zs vals) (I : Ei RC) (k : Ext w w') : dZ RC sz e base S w' A n c zs vals := h.bT I (aX.of k []) (by simp) (by simp)
theorem dZ.re (h : dZ RC sz e base S w A n c zs vals) (I : Ei RC) (hS : ∀ g ∈ T, g ∈ S ∨ w.heap.size ≤ g) : dZ RC sz e base T w A n c zs vals :=
 ⟨h.1, h.2.1, fun i x hx => I _ _ _ _ (h.2.2 i x hx) fun _ _ b => b.re fun g hg => by
  rcases List.mem_append.1 hg with h | h
  ·exact .inl (List.mem_append_left _ h)
  ·exact (hS g h).imp (List.mem_append_right _) id⟩
theorem dZ.own {β : Type} {B : Nat} (I : Ei RC) : OwnFrom B (fun (_ : β) W => dZ RC sz e base S W A n c zs vals) := fun s _ _ _ h hg hr =>
 ⟨h.1, BI s _ _ _ h.2.1 hg hr, fun i x hx => I _ _ _ _ (h.2.2 i x hx) fun _ _ b => rT s _ _ _ b hg hr⟩
theorem dZ.other {o o' : Option Nat} (h : dZ RC sz e base (o.toList ++ S) w A n c zs vals) (I : Ei RC) (gr : w.grownBy w' o) (hgl : o' = o ∨ o' = some w.heap.size) (hne : ∀ g ∈ (Value.slice A n c).ownBlock.toList, g ∉ o.toList) : dZ RC sz e base (o'.toList ++ S) w' A n c zs vals := by
 obtain ⟨hl, hr, hk⟩ := h
 refine ⟨hl, ⟨hr.1, ?_⟩, fun i x hx => I _ _ _ _ (hk i x hx) fun _ _ b => ?_⟩
 ·rcases hr.2 with h0 | ⟨g, cap, cur, hv, hb, hc, r⟩
  ·exact .inl h0
  ·exact .inr ⟨g, cap, cur, hv, hb, ((aX.BX gr).block g (Array.getElem?_eq_some_iff.1 hc).1 (hne g (by injection hv with e1; subst e1; simp [Value.ownBlock]))).trans hc, r⟩
 ·have h1 : Bx (o.toList ++ ((Value.slice A n c).ownBlock.toList ++ S)) w _ _ := b.re fun g hg => .inl (by simp only [List.mem_append] at hg ⊢; rcases hg with h | h | h <;> simp [h])
  exact (h1.grown gr hgl).re fun g hg => .inl (by simp only [List.mem_append] at hg ⊢; rcases hg with h | h | h <;> simp [h])
theorem dZ.MD (h : dZ RC sz e base S w A n c zs vals) (I : Ei RC) : mI (fun w cs x => RC (nI w) cs x) sz w A n zs :=
 ⟨h.1, vals, h.2.1.len, h.2.1.at, fun i x hx => I _ _ _ _ (h.2.2 i x hx) fun _ _ b => b.1⟩
theorem dZ.app {A' : Oa} {c' : Nat} {cs : Array Value} {x : α} (h : dZ RC sz e base S w A n c zs vals) (I : Ei RC) (hx : RC (Bx ((Value.slice A n c).ownBlock.toList ++ S) w) cs x) (hz : cs.size = sz)
  (Vl : fm w' base e sz A' (n + 1) c' (vals ++ cs.toList)) (gr : w.grownBy w' (Value.slice A n c).ownBlock) (hgl : (Value.slice A' (n + 1) c').ownBlock = (Value.slice A n c).ownBlock ∨ (Value.slice A' (n + 1) c').ownBlock = some w.heap.size) : dZ RC sz e base S w' A' (n + 1) c' (zs ++ [x]) (vals ++ cs.toList) := by
 obtain ⟨hl, hr, hk⟩ := h
 have hvl := hr.len
 refine ⟨by simp [hl], Vl, fun i y hy => ?_⟩
 rcases Nat.lt_or_ge i n with hi | hi
 ·rw [List.getElem?_append_left Om] at hy
  have hm : (i + 1) * sz ≤ n * sz := Nat.mul_le_mul_right sz Om
  rw [Nat.add_mul, Nat.one_mul] at hm
  rw [List.drop_append_of_le_length Om, List.take_append_of_le_length (by rw [List.length_drop]; omega)]
  exact I _ _ _ _ (hk i y hy) fun _ _ b => b.grown gr hgl
 ·rw [List.getElem?_append_right Om] at hy
  have Vm : i - zs.length = 0 := by
   rcases Nat.eq_zero_or_pos (i - zs.length) with h | h
   ·exact h
   ·rw [List.getElem?_eq_none So] at hy; cases hy
  rw [Vm] at hy
  injection hy with hy
  subst hy
  obtain rfl : i = n := by omega
  rw [← hvl, List.drop_left, List.take_of_length_le (by simp [hz])]
  exact I _ _ _ _ hx fun _ _ b => b.grown gr hgl
end
end
section
open Go.RowKit Tryz
attribute [local irreducible] Y Ef WL WC WK WQ WM cx WN WF cT WJ gZ WG mR WR qo
open Wire Nd Hk
def zU (b1 b2 bs bd bi : Nat) (G D I : Hd) (ss : Array Value) (w : World) : Prop :=
 ao w b1 58 #[.slice G.A G.n G.c] ∧ (∃ t, ao w b2 t #[.func (.func 128) #[] #[.pointer (some ⟨bs, 0, none⟩), .pointer (some ⟨bd, 0, none⟩), .pointer (some ⟨bi, 0, none⟩)]]) ∧ ao w bs 44 ss ∧ ao w bd 23 #[.slice D.A D.n D.c] ∧ ao w bi 23 #[.slice I.A I.n I.c]
theorem uf (G D I : Hd) (ss : Array Value) (w : World) :
  Ct 60 #[.agg ss, .slice I.A I.n I.c, .slice G.A G.n G.c, .slice D.A D.n D.c] w fun e w' => ∃ b1 b2 bs bd bi, e = .returned (.func (.func 132) #[] #[.pointer (some ⟨b1, 0, none⟩), .pointer (some ⟨b2, 0, none⟩)]) ∧ zU b1 b2 bs bd bi G D I ss w' ∧ (∀ b ∈ [b1, b2, bs, bd, bi], w.heap.size ≤ b) ∧ Ext w w' := by
 have F := aX.refl [] w
 refine aj 12 func60 rfl rfl rfl rfl ?_
 intro _ hret
 refine aU ?_
 intro _ _ B4 _ ex
 have Vl := B4.lt
 replace F := F.ext ex
 refine aU ?_
 intro _ _ B5 _ ex
 have Vm := B5.lt
 obtain ⟨F,B4⟩ := aY ex F B4
 refine aU ?_
 intro _ _ B6 _ ex
 have Vn := B6.lt
 obtain ⟨F,B4,B5⟩ := bC ex F B4 B5
 refine aU ?_
 intro _ _ B7 _ ex
 have Vo := B7.lt
 obtain ⟨F,B4,B5,B6⟩ := bU ex F B4 B5 B6
 refine au 5 ?_
 refine ak (jc rfl) ?_
 refine aU ?_
 intro _ _ B9 _ ex
 obtain ⟨F,B4,B5,B6,B7⟩ := gQ ex F B4 B5 B6 B7
 refine aU ?_
 intro _ D9 cg
 replace F := aX.of ((F.cM (by simp)).aw cg Om) []; replace B4 := B4.aw cg Om; replace B5 := B5.aw cg Om; replace B6 := B6.aw cg Om; replace B7 := B7.aw cg Om; replace B9 := D9
 refine au 4 ?_
 refine ak (jc rfl) ?_
 refine aU ?_
 refine hret rfl ?_
 exact ⟨_, _, _, _, _, rfl, ⟨B6, ⟨_, B9⟩, B4, B7, B5⟩, by simp; omega, F.cM (by simp)⟩
abbrev Yv := Array Value × Nat
def te (n0 gx : Nat) (A B : World) : Prop := A.heap.size ≤ B.heap.size ∧ ∀ b, b < n0 → b ≠ gx → B.heap[b]? = A.heap[b]?
theorem te.trans {n0 gx : Nat} {A B C : World} (h : te n0 gx A B) (k : te n0 gx B C) : te n0 gx A C := ⟨Nat.le_trans h.1 k.1, fun b h1 h2 => (k.2 b h1 h2).trans (h.2 b h1 h2)⟩
theorem te.kp {n0 gx : Nat} {A B : World} {Φ : World → Prop} (h : Kp n0 [gx] Φ A) (k : te n0 gx A B) : Kp n0 [gx] Φ B :=
 ⟨Nat.le_trans h.1 k.1, fun w2 hw => h.2 w2 fun b hb hn => (hw b hb hn).trans (k.2 b hb (by simpa using hn))⟩
theorem te.of {n0 gx : Nat} {A B : World} {S : List Nat} (h : aX S A B) (hs : ∀ g ∈ S, n0 ≤ g ∨ g = gx) (hn : n0 ≤ A.heap.size) : te n0 gx A B :=
 ⟨h.size, fun b hb hx => h.block b Om fun hm => (hs b hm).elim Om hx⟩
def KH (G D I : Hd) (ss : Array Value) (ts : List (List UInt8)) (seed inf : Lb) (gs : List Gs) (w : World) : Prop := mI j6 9 w G.A G.n gs ∧ eW w ss ts ∧ nI w D seed ∧ nI w I inf
abbrev ll (j seed inf : Lb) (gs : List Gs) (i : Nat) : kM × Nat := hO j seed inf i (gs.getD i ⟨Pack.zero, []⟩)
def Ij (j seed inf : Lb) (gs : List Gs) (pre : List Yv) (x : Yv) (W0 W1 : World) : Prop :=
 pre.length < gs.length ∧ x.2 = (ll j seed inf gs pre.length).2 ∧ nJ W0.heap.size W1 x.1 (ll j seed inf gs pre.length).1
theorem EO {b1 b2 bs bd bi n0 gx : Nat} {G D I : Hd} {ss : Array Value} {ts : List (List UInt8)} {seed inf : Lb} {gs : List Gs} (n l : Nat) (J Jx : List Yv → World → Prop) (w : World) (H : Kp n0 [gx] (fun w => zU b1 b2 bs bd bi G D I ss w ∧ KH G D I ss ts seed inf gs w) w)
  (hs : ∀ x ∈ gs, x.pk.Small ∧ x.way.length ≤ 1000) (hj : (ts.getD 0 []).length ≤ 1000) (hD : D.n ≤ 1000) (hI : I.n ≤ 6000) (hG : G.n ≤ 100000)
  (hY : ∀ pre x W0 W1, J pre W0 → Ext W0 W1 → Ij (ts.getD 0 []) seed inf gs pre x W0 W1 → YieldAt Fence.wide (n - 1) Tryz.prog l #[.agg x.1, .int .u8 (x.2 : Int)] W1 fun e W' => (e = .returned (.bool true) ∧ J (pre ++ [x]) W' ∧ te n0 gx W1 W') ∨ (e = .returned (.bool false) ∧ Jx (pre ++ [x]) W'))
  (h0 : J [] w) (hab : AbidesFrom w.heap.size J) :
  Ct 132 #[.func (.yield l) #[] #[], .pointer (some ⟨b1, 0, none⟩), .pointer (some ⟨b2, 0, none⟩)] w fun e W' => (∃ v, e = .returned v) ∧ ((∃ xs, xs.length = gs.length ∧ J xs W') ∨ (∃ pre : List Yv, True ∧ Jx pre W')) := by
 have hgl := H.out.2.1.1
 refine jG 23 func132 rfl rfl rfl rfl ?_
 intro _ hret
 refine au 2 ?_
 refine ak (ah rfl Tn.u rfl (H.out.1.1.get (i := 0) rfl)) ?_
 refine aU ?_
 refine aF (fun n' L wr => ∃ (i : Nat) (pre : List Yv) (W0 : World), L = [(0, .func (.yield l) #[] #[]), (2, .pointer (some ⟨b2, 0, none⟩)), (6, .slice G.A G.n G.c), (7, .int .i64 (G.n : Int)), (8, .int .i64 (i : Int))] ∧ n' = G.n - i ∧ (i ≤ G.n ∧ pre.length = i ∧ J pre W0 ∧ Ext W0 wr ∧ Kp n0 [gx] (fun w => zU b1 b2 bs bd bi G D I ss w ∧ KH G D I ss ts seed inf gs w) wr)) _ _ ⟨0, [], w, rfl, rfl, by omega, rfl, h0, Ext.refl _, H⟩ Ls ?_
 rintro _ n' L wr ⟨i, pre, W0, rfl, rfl, _, hpl, hJ, E, H⟩ Vo
 refine aU ?_
 refine al rfl (fun Vp => ?_) (fun Vp => ?_)
 ·obtain ⟨Vw, o1, Vx, y, e1, _, hx, hcz, hR, hcx⟩ := H.out.2.1.Dw Om (i := i) Om
  obtain ⟨hys, hyw⟩ := hs y (List.mem_of_getElem? hx)
  have Vq := hR
  obtain ⟨f0, f1, f2, f3, f4, f5, f6, f7, rfl, _⟩ := Vq
  refine au 7 ?_
  refine ak (dV (s := 9) (j := i) e1 rfl rfl Tn.u Kr rfl Om) ?_
  refine ak (dH (cs := wT f0 f1 f2 f3 y.pk.leaf.src f4 f5 f6 f7) rfl Tn.u rfl Kr fun j v hv => by rw [Addr.add_plain]; exact hcx j v hv) ?_
  have z2 := E.size; have n2 := H.1
  refine aU ?_
  intro w3 g5 (B5 : ao _ _ _ (wT aq aq aq aq 0 aq aq aq aq)) Vr ex
  obtain ⟨E,H⟩ := aY ex E H
  have Vs := ex; have q5 := H.1
  refine aU ?_
  intro _ D5 cg
  replace H := te.kp H (te.of (aX.one cg) So q5); replace E := E.aw cg Om; have Vt := hR.ext (Vs.aw cg Vr); have Vu := D5.congr (cs' := wT f0 f1 f2 f3 y.pk.leaf.src f4 f5 f6 f7) rfl
  refine au 3 ?_
  have hS := H.out
  obtain ⟨⟨_, ⟨t2, S2⟩, S3, S4, S5⟩, _, HS, HD, HI⟩ := hS
  have Vm : ll (ts.getD 0 []) seed inf gs pre.length = hO (ts.getD 0 []) seed inf i y := by unfold ll; rw [hpl, show gs.getD i ⟨Pack.zero, []⟩ = y from by rw [List.getD_eq_getElem?_getD, hx]; rfl]
  refine kT (n) ?_
  refine db (bj rfl) rfl ?_
  refine db (ah rfl underlying185 rfl (S2.get (i := 0) rfl)) rfl ?_
  refine db (bj rfl) rfl ?_
  refine db (aV rfl underlying68 rfl Kr Vu) rfl ?_
  have Vy := E.size
  refine Ks (lK (us := [.pointer (some ⟨bs, 0, none⟩), .pointer (some ⟨bd, 0, none⟩), .pointer (some ⟨bi, 0, none⟩)]) (xs := [.tmp 15, .tmp 16]) (vs := [.int .i64 (i : Int), .agg (wT f0 f1 f2 f3 y.pk.leaf.src f4 f5 f6 f7)]) (Φ := fun v w' => ∃ cs, v = .tuple #[.agg cs, .int .u8 ((hO (ts.getD 0 []) seed inf i y).2 : Int)] ∧ nJ _ w' cs (hO (ts.getD 0 []) seed inf i y).1 ∧ Ext _ w') rfl func128 rfl rfl rfl (BJ i _ Vt hys hyw S3 HS hj S4 HD Om S5 HI Om Om) (fun _ _ ⟨cs, h1, h2, h3⟩ => ⟨_, h1, cs, rfl, h2, h3⟩)) rfl ?_
  rintro _ _ ⟨Vn, rfl, G5, ex⟩
  obtain ⟨E,H⟩ := aY ex E H
  refine db (du rfl rfl) rfl ?_
  refine db (du rfl rfl) rfl ?_
  refine wI rfl rfl rfl ((kF (hY pre (Vn, (hO (ts.getD 0 []) seed inf i y).2) W0 _ hJ E ⟨by omega, by rw [Vm], by rw [Vm]; exact G5.mono Om⟩))) rfl ?_
  rintro e w6 ⟨_, rfl, hbt, hbf⟩
  refine aU ?_
  refine db (kz rfl) rfl ?_
  refine sc ?_
  refine aU ?_
  refine bW rfl (fun Vl => ?_) (fun Vl => ?_)
  ·refine aU ?_
   refine hret (.inl rfl) ?_
   exact ⟨⟨_, rfl⟩, .inr ⟨_, trivial, hbf (by simpa using Vl)⟩⟩
  ·obtain ⟨Vv, hk⟩ := hbt (by simpa using Vl)
   replace H := te.kp H hk
   refine au 7 ?_
   refine ae ?_
   refine Vo _ _ ⟨i + 1, pre ++ [(Vn, (hO (ts.getD 0 []) seed inf i y).2)], w6, rfl, rfl, by omega, by simp [hpl], Vv, Ext.refl _, H⟩ Om Ls
 ·refine aU ?_
  refine hret (.inr rfl) ?_
  exact ⟨⟨_, rfl⟩, .inl ⟨pre, by omega, hab _ _ _ none hJ (fo E) (fun r e => by cases e)⟩⟩
end
end Go.Proofs.YtgfafidlkldeaaaGreat
