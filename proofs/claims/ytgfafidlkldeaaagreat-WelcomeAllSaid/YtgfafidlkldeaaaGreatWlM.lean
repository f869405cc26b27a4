/- welcome.Make. No conditions: contracts of functions. -/
import Derived.Test.YtgfafidlkldeaaaGreatVi
import Derived.Test.YtgfafidlkldeaaaGreatMsW
import Derived.Test.YtgfafidlkldeaaaGreatWlK
import Derived.Test.YtgfafidlkldeaaaGreatAu
import Derived.Test.YtgfafidlkldeaaaGreatNt
import Derived.Test.YtgfafidlkldeaaaGreatSecE
set_option linter.unusedVariables false
set_option linter.unusedSimpArgs false
set_option maxHeartbeats 4000000
set_option maxRecDepth 4000
namespace Go.Proofs.YtgfafidlkldeaaaGreat
variable {after : Array Edge} {args cs is lb ss : Array Value} {Q : Exit → Act → aa9 → Prop} {D G H I : Hd} {j seed : Lb} {ts : List (List UInt8)} {gs : List Gs} {S : List Nat} {vals vs : List Value} {b b1 b2 base bd bi c c' gx i lp n n0 sz : Nat} {N : Nd} {A A' : Oa} {g y z : Operand} {o o' : Option Nat} {P : Program} {pos : String} {e t ty : TypeId} {C W' w w' w0 : aa9} {x : nJ}
section
open Go.RowKit
section
variable {ops : Array Oper} {L : List (Nat × Value)} {rest : List Oper} {a : Act}
/-! An iterator's region: an effect; a yield of two values. -/
theorem SL {o : Oper} {next next' : Act → aa9 → Prop} (hn : ∀ a w, next a w → next' a w) : ∀ {r : Result Next}, o.upon P a next Q r → o.uponIn Fence.wide n P a next' Q r
  | .ok (.value _) _, h => hn _ _ h
  | .ok .skip _, h => hn _ _ h
  | .ok (.defer _) _, h => hn _ _ h
  | .ok (.enter _ _) _, h => by
    refine ⟨fun e => by simp [Fence.wide] at e, callsIn_wide.2 (Calls.mono h ?_)⟩;intro e _ hr
    cases e with
    | returned v => exact hn _ _ hr
    | panicked c => exact hr
    | outgrown => exact hr
  | .ok (.row _ _) _, h => ⟨fun e => by simp [Fence.wide] at e, (FL (h.mono fun _ _ hr => hn _ _ hr) : RowsIn Fence.wide (n - 1) P _ _ _ _)⟩
  | .halt (.panic _) _, h => h
theorem Ty {op : Op} {Φ : Value → aa9 → Prop} {dst : Option Tmp} (h : Ef P L w op ty Φ) (hd : gV N dst = true)
  (hr : ∀ v w', Φ v w' → Og n P ops Q rest N (bB dst v L) w') : Og n P ops Q (⟨dst, op, ty, pos, after, none⟩ :: rest) N L w := by
 intro a ha;refine wpListIn_plain rfl fun K hK => ⟨fun _ _ => trivial, ?_⟩;rw [show Fence.wide.round = none from rfl, Oper.semAt_none];exact SL (fun a w h => h) (h a N ha _ _ _ _ K Q fun v w' hv => hK _ _ (hr v w' hv _ (ha.mf hd v)))
theorem Dq {x : Operand} {ats : Array TypeId} {u v : Value} {R : Ending → aa9 → Prop} {d : Tmp} (hx : ev L x = some (.func (.yield lp) #[] #[])) (hy : ev L y = some u) (hz : ev L z = some v)
  (h : YieldAt Fence.wide (n - 1) P lp #[u, v] w R) (hd : Nat.ble (d + 1) N.n = true) (hr : ∀ e w', R e w' → ∃ v, e = .returned v ∧ Og n P ops Q rest N ((d, v) :: L) w') :
  Og n P ops Q (⟨some d, .call { callee := .value x, args := #[y, z], argTypes := ats }, ty, pos, after, none⟩ :: rest) N L w := by
 intro a ha;refine wpListIn_plain rfl fun K hK => ⟨fun _ _ => trivial, ?_⟩;obtain ⟨fn, tmps, assign, body, YU, hR⟩ := h;rw [show Fence.wide.round = none from rfl, Oper.semAt_none]
 have e : (execOp a.eval ⟨some d, .call { callee := .value x, args := #[y, z], argTypes := ats }, ty, pos, after, none⟩).run P w = .ok (.round lp fn tmps assign body) w := by simp [execOp, resolve, invoke, Deferred.ofValue, ha.ev hx, ha.ev hy, ha.ev hz, YU]
 rw [e];refine ⟨fun e => by simp [Fence.wide] at e, hR.mono ?_⟩;intro e w' YV;obtain ⟨v, rfl, hv⟩ := hr e w' YV;exact hK _ _ (hv _ (ha.put hd v))
end
def Wo {α : Type} (n : Nat) (P : Program) (g : Nat) (lb : Array Value) (encs : α → Array Value) (Kp : aa9 → aa9 → Prop) (Good : List α → α → aa9 → aa9 → Prop) (S Sp : List α → Prop) (w : aa9) : Prop :=
 ∀ (l : Nat) (J Jx : List α → aa9 → Prop) (W : aa9), Below w.heap.size w W → AbidesFrom W.heap.size J →
  (∀ pre x W0 W1, J pre W0 → Ext W0 W1 → Good pre x W0 W1 → YieldAt Fence.wide (n - 1) P l (encs x) W1 fun e W' => (e = .returned (.bool true) ∧ J (pre ++ [x]) W' ∧ Kp W1 W') ∨ (e = .returned (.bool false) ∧ Jx (pre ++ [x]) W')) →
  J [] W → Calls P g (#[.func (.yield l) #[] #[]] ++ lb) W fun e W' => (∃ v, e = .returned v) ∧ ((∃ xs, S xs ∧ J xs W') ∨ (∃ pre, Sp pre ∧ Jx pre W'))
section
variable {L : List (Nat × Value)}
theorem xa {α : Type} {B : Nat} {Kp : aa9 → aa9 → Prop} {I : List α → aa9 → Prop} {Ix : Code → List α → aa9 → Prop} {xs : List α} {W : aa9} : ¬ LetsOut (ownPostG B Kp I Ix xs W) := fun ⟨_, _, h⟩ => h
theorem IX {α : Type} {p q gf : Nat} {asg body : Code} {e1 e2 : α → Value} {Kp : aa9 → aa9 → Prop} {Good : List α → α → aa9 → aa9 → Prop} {S Sp : List α → Prop}
    (hg : ev L g = some (.func (.func gf) #[] lb)) (eg : ∀ args w, (callFunc gf args).run P w = .ok (.enter gf args) w) (hseq : Wo (n - 1) P gf lb (fun v => #[e1 v, e2 v]) Kp Good S Sp w)
    (hKt : ∀ {A B C : aa9}, Kp A B → Kp B C → Kp A C) (hKb : ∀ (W : aa9) (l : Nat) (o o' : Obj), w.heap.size ≤ l → W.heap[l]? = some o → o.isCells = false → o.isWalk = false → Kp W (W.putObj l o'))
    (I Ir : List α → aa9 → Prop) (hI : OwnFrom w.heap.size I) (hIr : OwnFrom w.heap.size Ir) (h0 : I [] w) (hp : Nat.ble (p + 1) N.n = true) (hq : Nat.ble (q + 1) N.n = true)
    (As : List α → α → List (Nat × Value) → aa9 → Prop) (hAs : ∀ pre v L', OwnFrom w.heap.size (fun (_ : Unit) W => As pre v L' W))
    (hasg : ∀ (k : Nat) (Q' : Exit → Act → aa9 → Prop) (pre : List α) (v : α) (W0 W : aa9), I pre W0 → Ext W0 W → I pre W → Good pre v W0 W → (∀ {L' : List (Nat × Value)} {W' : aa9}, KeepsFrom w.heap.size W W' → Kp W W' → I pre W' → As pre v L' W' → WQ Q' .normal ⟨N.n, []⟩ L' W') →
      WR k (n - 1 - 1) P Q' asg ⟨N.n, []⟩ ((q, e2 v) :: (p, e1 v) :: L) W)
    (hbody : ∀ (k : Nat) (Q' : Exit → Act → aa9 → Prop) (pre : List α) (v : α) (L' : List (Nat × Value)) (W : aa9), I pre W → As pre v L' W →
      (∀ {N' : Nd} {YV : List (Nat × Value)} {W' : aa9}, KeepsFrom w.heap.size W W' → Kp W W' → I (pre ++ [v]) W' → WQ Q' .normal N' YV W') →
      (∀ {N' : Nd} {YV : List (Nat × Value)} {W' : aa9}, KeepsFrom w.heap.size W W' → Ir (pre ++ [v]) W' → WQ Q' .ret N' YV W') →
      WR k (n - 1 - 1) P Q' body ⟨N.n, []⟩ L' W)
    (hdone : ∀ (D : Nat) (xs : List α) (W : aa9), w.heap.size ≤ D → S xs → I xs W → W.heap[D]? = some (.deferred (some [])) → WQ Q .normal ⟨N.n, { target := .collected D, args := #[] } :: N.ds⟩ L W)
    (hstop : ∀ (D : Nat) (pre : List α) (W : aa9), w.heap.size ≤ D → Sp pre → Ir pre W → W.heap[D]? = some (.deferred (some [])) → WQ Q .ret ⟨N.n, { target := .collected D, args := #[] } :: N.ds⟩ L W) :
    WC P Q (.rangeFunc g #[p, q] asg body) N L w := by
  intro a ha;rw [← wpIn_wide (n := n)];refine wpIn_rangeFunc ?_;intro fn hfn;rw [show Fence.wide.round = none from rfl]
  obtain ⟨R, hR⟩ : ∃ R : LoopState → Option Code → Loop, R = fun s c => { state := s, pending := c, fn, tmps := a.tmps, params := #[p, q], assign := asg, body, defers := w.heap.size } := ⟨_, rfl⟩
  obtain ⟨V, hV⟩ : ∃ V, V = (w.alloc (.deferred (some []))).alloc (.loop (R .ready none)) := ⟨_, rfl⟩
  have v1 : V.heap[w.heap.size + 1]? = some (.loop (R .ready none)) := by rw [hV]; have := World.alloc_heap_new (w.alloc (.deferred (some []))) (.loop (R .ready none)); rwa [World.size_alloc] at this
  have v2 : V.heap[w.heap.size]? = some (.deferred (some [])) := by rw [hV]; exact (Below.heap_alloc _ _ _ (by simp)).trans (World.alloc_heap_new w _)
  have hlow : ∀ {A : aa9} {row : Option Nat}, (∀ r, row = some r → V.heap.size ≤ r ∧ ∃ o : Obj, A.heap[r]? = some o ∧ o.isWalk = true) → ∀ r, row = some r → w.heap.size ≤ r ∧ ∃ o : Obj, A.heap[r]? = some o ∧ o.isCells = false := fun h r e => by obtain ⟨hb, o, h1, h2⟩ := h r e;have := (Array.getElem?_eq_some_iff.1 v2).1;exact ⟨Om, o, h1, Obj.not_cells_of_walk h2⟩
  refine ⟨w.heap.size + 1, [{ target := .collected w.heap.size, args := #[] }], V, { target := .fn (.func gf) lb, args := #[.func (.yield (w.heap.size + 1)) #[] #[]] }, V, gf,
    #[.func (.yield (w.heap.size + 1)) #[] #[]] ++ lb, V, by rw [hV, hR]; exact run_enterLoop_outer _ _ _ _ _, by simp only [resolve, ha.ev hg]; simp [go_sem], fun _ _ => trivial, by simp [invoke, go_sem, eg], fun h => by simp [Fence.wide] at h, ?_⟩
  refine callsIn_wide.2 (Calls.mono (hseq (w.heap.size + 1) (fun pre W => I pre W ∧ W.heap[w.heap.size + 1]? = some (.loop (R .ready none)) ∧ W.heap[w.heap.size]? = some (.deferred (some [])))
    (fun pre W => Ir pre W ∧ W.heap[w.heap.size + 1]? = some (.loop (R .done (some .ret))) ∧ W.heap[w.heap.size]? = some (.deferred (some []))) V ?_ ?_ ?_ ⟨?_, v1, v2⟩) ?_)
  · rw [hV]; exact (((Below.refl _ w).alloc (Nat.le_refl _) _).alloc (by simp) _)
  · exact fun s A B row hs YW hr => ⟨hI s A B row hs.1 YW (hlow hr), (grownBy_keeps YW (fun r e => (hr r e).2) hs.2.1 rfl).trans hs.2.1, (grownBy_keeps YW (fun r e => (hr r e).2) hs.2.2 rfl).trans hs.2.2⟩
  · rintro pre x W0 W ⟨YX, YY, YZ⟩ hE hG
    have hi : I pre W := hI _ _ _ none YX (ig hE) (fun r e => by cases e);have hl := (hE.block _ (Array.getElem?_eq_some_iff.1 YY).1).trans YY;have hk := (hE.block _ (Array.getElem?_eq_some_iff.1 YZ).1).trans YZ;have hy := run_yield (P := P) (args := #[e1 x, e2 x]) hl (by rw [hR]; rfl);rw [hR] at hy
    have fr : Fr ⟨N.n, []⟩ ((q, e2 x) :: (p, e1 x) :: L) { tmps := (a.tmps.setIfInBounds p (e1 x)).setIfInBounds q (e2 x), defers := [] } := by
      have h1 : Fr ⟨N.n, []⟩ L { tmps := a.tmps, defers := [] } := ⟨ha.size, rfl, ha.has⟩
      exact (h1.put hp (e1 x)).put hq (e2 x)
    refine ⟨fn, _, asg, body, hy, roundIn_of_wpIn hfn (hasg _ _ pre x W0 W YX hE hi hG ?_ (fun ⟨_, _, h⟩ => h) _ (by simpa using fr))⟩;intro L' W2 k2 Y0 i2 Y2 _ Y3;have YU := k2.same _ _ Om hl rfl;have Za := k2.same _ _ (Nat.le_refl _) hk rfl;have hlt := (Array.getElem?_eq_some_iff.1 YU).1;refine ⟨_, run_beginRound YU (by rw [hR]), ?_⟩
    obtain ⟨U, hU⟩ : ∃ U, U = W2.putObj (w.heap.size + 1) (.loop { R .ready none with state := .busy }) := ⟨_, rfl⟩
    rw [← hU];have u1 : U.heap[w.heap.size + 1]? = some (.loop { R .ready none with state := .busy }) := by rw [hU]; exact World.putObj_heap_same hlt
    have u2 : U.heap[w.heap.size]? = some (.deferred (some [])) := by rw [hU]; exact (World.putObj_heap_other Om).trans Za
    have uk : Kp W2 U := by rw [hU]; exact hKb _ _ _ _ Om YU rfl rfl
    have ui : I pre U := by rw [hU]; exact hI.putObj _ i2 Om YU rfl
    have ua : As pre x L' U := by rw [hU]; exact (hAs pre x L').putObj (s := ()) _ Y2 Om YU rfl
    have fin : ∀ (j : Option Code) (X : aa9), KeepsFrom w.heap.size U X → (Instr.endRound (w.heap.size + 1) j).run P X = .ok (.bool j.isNone) (X.putObj (w.heap.size + 1) (.loop (R (if j.isNone then .ready else .done) j))) ∧
        X.heap[w.heap.size + 1]? = some (.loop { R .ready none with state := .busy }) ∧ (X.putObj (w.heap.size + 1) (.loop (R (if j.isNone then .ready else .done) j))).heap[w.heap.size + 1]? = some (.loop (R (if j.isNone then .ready else .done) j)) ∧
        (X.putObj (w.heap.size + 1) (.loop (R (if j.isNone then .ready else .done) j))).heap[w.heap.size]? = some (.deferred (some [])) := fun j X k3 => by
      have h3 := k3.same _ _ Om u1 rfl;have := run_endRound (P := P) j h3;rw [hR] at this ⊢;exact ⟨this, by rw [hR] at h3; exact h3, World.putObj_heap_same (Array.getElem?_eq_some_iff.1 h3).1, (World.putObj_heap_other Om).trans (k3.same _ _ (Nat.le_refl _) u2 rfl)⟩
    refine wpIn_mono (hbody _ (ownPostG w.heap.size Kp I (fun c xs W => c = .ret ∧ Ir xs W) (pre ++ [x]) U) pre x L' U ui ua (fun h1 h2 h3 _ _ => ⟨h1, h2, h3⟩) (fun h1 h2 _ _ => ⟨h1, rfl, h2⟩) xa _ Y3) ?_;rintro e _ X hX
    cases e with
    | normal =>
      obtain ⟨k3, Zb, i3⟩ := hX
      obtain ⟨f1, f2, f3, f4⟩ := fin none X k3
      exact ⟨_, _, f1, .inl ⟨rfl, ⟨hI.putObj _ i3 Om f2 rfl, f3, f4⟩, hKt Y0 (hKt (hKt uk Zb) (hKb _ _ _ _ Om f2 rfl rfl))⟩⟩
    | ret =>
      obtain ⟨k3, _, i3⟩ := hX
      obtain ⟨f1, f2, f3, f4⟩ := fin (some .ret) X k3
      exact ⟨_, _, f1, .inr ⟨rfl, hIr.putObj _ i3 Om f2 rfl, f3, f4⟩⟩
    | exit _ => exact absurd hX.2.1 (by simp)
    | goto _ => exact absurd hX.2.1 (by simp)
    | panic _ => exact hX.elim
    | outgrown => exact hX.elim
  · rw [hV]; exact hI.alloc _ (hI.alloc _ h0)
  rintro e W2 ⟨⟨v, rfl⟩, (⟨xs, hS, hi, hl, hk⟩ | ⟨pre, hSp, hi, hl, hk⟩)⟩
  · refine ⟨none, _, by have := run_endLoop (P := P) hl (by rw [hR]; simp); rw [hR] at this; exact this, ?_⟩
    exact hdone _ xs _ (Nat.le_refl _) hS (hI.putObj _ hi Om hl rfl) ((World.putObj_heap_other Om).trans hk) _ ⟨ha.size, by rw [ha.defers]; rfl, ha.has⟩
  refine ⟨some .ret, _, by have := run_endLoop (P := P) hl (by rw [hR]; simp); rw [hR] at this; exact this, ?_⟩;exact wpIn_ret (hstop _ pre _ (Nat.le_refl _) hSp (hIr.putObj _ hi Om hl rfl) ((World.putObj_heap_other Om).trans hk) _ ⟨ha.size, by rw [ha.defers]; rfl, ha.has⟩)
end
def Bx (S : List Nat) (w : aa9) (h : Hd) (xs : Lb) : Prop := qP w h xs ∧ (0 < h.n → ∀ b o, h.A = some ⟨b, o, none⟩ → b ∉ S)
section
variable {T : List Nat} {xs : Lb}
theorem Bx.bD (h : Bx S w H xs) (k : aI T w w') (hT : ∀ g ∈ T, g ∈ S) : Bx S w' H xs :=
 ⟨((Kp.bs h.1 fun hn g hg o e => h.2 hn g o e hg).bD k hT).out, h.2⟩
theorem Bx.ext (h : Bx S w H xs) (k : Ext w w') : Bx S w' H xs := h.bD (aI.of k []) (by simp)
theorem Bx.re (h : Bx S w H xs) (hS : ∀ g ∈ T, g ∈ S ∨ w.heap.size ≤ g) : Bx T w H xs := ⟨h.1, fun hn b o e hm => by
 rcases hS b hm with h1 | h1
 ·exact h.2 hn b o e h1
 have h2 := h.1;unfold qP at h2;rw [e] at h2;have := Bs.U1 h2 hn
 omega⟩
theorem Bx.of (h : Fb base w H.A H.n xs) (hS : ∀ g ∈ S, g < base) : Bx S w H xs := ⟨h.1, fun hn b o e hm => by have := h.2 hn b o e; grind⟩
theorem Bx.grown (h : Bx (o.toList ++ S) w H xs) (gr : w.grownBy w' o) (hgl : o' = o ∨ o' = some w.heap.size) : Bx (o'.toList ++ S) w' H xs := by
 have h1 := h.bD (aI.Pc gr) (fun g hg => List.mem_append_left _ hg);rcases hgl with rfl | rfl
 ·exact h1
 exact ⟨h1.1, (h.re (T := (some w.heap.size).toList ++ S) fun g hg => by
  grind).2⟩
theorem xQ {β : Type} {B : Nat} : OwnFrom B (fun (_ : β) W => Bx S W H xs) := fun s _ _ _ hs hg hr => ⟨MQ s _ _ _ hs.1 hg hr, hs.2⟩
theorem L9 {β : Type} {B : Nat} : OwnFrom B (fun (_ : β) W => je W b e sz A n c vs) := fun _ _ _ _ hs hg hr => by
 refine ⟨hs.1, ?_⟩
 rcases hs.2 with h0 | ⟨g, cap, cur, hv, hb, hc, r⟩
 ·exact .inl h0
 exact .inr ⟨g, cap, cur, hv, hb, (grownBy_keeps_cells hg (fun r e => (hr r e).2) hc rfl).trans hc, r⟩
end
def iI {α : Type} (RC : (Hd → List UInt8 → Prop) → Array Value → α → Prop) (sz : Nat) (e : TypeId) (base : Nat) (S : List Nat) (w : aa9) (A : Oa) (n c : Nat) (zs : List α) (vals : List Value) : Prop :=
 zs.length = n ∧ je w base e sz A n c vals ∧ ∀ i x, zs[i]? = some x → RC (Bx ((Value.slice A n c).ownBlock.toList ++ S) w) ((vals.drop (i * sz)).take sz).toArray x
def Xj {α : Type} (RC : (Hd → List UInt8 → Prop) → Array Value → α → Prop) (sz : Nat) (e : TypeId) (base : Nat) (S : List Nat) (w : aa9) (A : Oa) (n c : Nat) (zs : List α) : Prop := ∃ vals, iI RC sz e base S w A n c zs vals
def PD {α : Type} (RC : (Hd → List UInt8 → Prop) → Array Value → α → Prop) : Prop := ∀ (B B' : Hd → List UInt8 → Prop) (cs : Array Value) (x : α), RC B cs x → (∀ h xs, B h xs → B' h xs) → RC B' cs x
variable {α : Type} {RC : (Hd → List UInt8 → Prop) → Array Value → α → Prop} {T : List Nat} {zs : List α}
theorem iI.empty (RC : (Hd → List UInt8 → Prop) → Array Value → α → Prop) (sz : Nat) (e : TypeId) (base : Nat) (S : List Nat) (w : aa9) : iI RC sz e base S w none 0 0 [] [] := ⟨rfl, je.empty _ _ _ _, fun i x hx => by simp at hx⟩
theorem iI.bD (h : iI RC sz e base S w A n c zs vals) (I : PD RC) (k : aI T w w') (hT : ∀ g ∈ T, g ∈ S) (hb : ∀ g ∈ T, g < base) : iI RC sz e base S w' A n c zs vals :=
 ⟨h.1, h.2.1.bD k hb, fun i x hx => I _ _ _ _ (h.2.2 i x hx) fun _ _ b => b.bD k fun g hg => List.mem_append_right _ (hT g hg)⟩
theorem iI.ext (h : iI RC sz e base S w A n c zs vals) (I : PD RC) (k : Ext w w') : iI RC sz e base S w' A n c zs vals := h.bD I (aI.of k []) (by simp) (by simp)
theorem iI.own {β : Type} {B : Nat} (I : PD RC) : OwnFrom B (fun (_ : β) W => iI RC sz e base S W A n c zs vals) := fun s _ _ _ h hg hr =>
 ⟨h.1, L9 s _ _ _ h.2.1 hg hr, fun i x hx => I _ _ _ _ (h.2.2 i x hx) fun _ _ b => xQ s _ _ _ b hg hr⟩
theorem iI.other (h : iI RC sz e base (o.toList ++ S) w A n c zs vals) (I : PD RC) (gr : w.grownBy w' o) (hgl : o' = o ∨ o' = some w.heap.size) (hne : ∀ g ∈ (Value.slice A n c).ownBlock.toList, g ∉ o.toList) : iI RC sz e base (o'.toList ++ S) w' A n c zs vals := by
 obtain ⟨hl, hr, hk⟩ := h;refine ⟨hl, ⟨hr.1, ?_⟩, fun i x hx => I _ _ _ _ (hk i x hx) fun _ _ b => ?_⟩
 ·rcases hr.2 with h0 | ⟨g, cap, cur, hv, hb, hc, r⟩
  ·exact .inl h0
  exact .inr ⟨g, cap, cur, hv, hb, ((aI.Pc gr).block g (Array.getElem?_eq_some_iff.1 hc).1 (hne g (by injection hv with e1; subst e1; simp [Value.ownBlock]))).trans hc, r⟩
 have h1 : Bx (o.toList ++ ((Value.slice A n c).ownBlock.toList ++ S)) w _ _ := b.re fun g hg => .inl (by grind);exact (h1.grown gr hgl).re fun g hg => .inl (by grind)
theorem iI.W4 (h : iI RC sz e base S w A n c zs vals) (I : PD RC) : rz (fun w cs x => RC (qP w) cs x) sz w A n zs :=
 ⟨h.1, vals, h.2.1.len, h.2.1.at, fun i x hx => I _ _ _ _ (h.2.2 i x hx) fun _ _ b => b.1⟩
theorem iI.app {x : α} (h : iI RC sz e base S w A n c zs vals) (I : PD RC) (hx : RC (Bx ((Value.slice A n c).ownBlock.toList ++ S) w) cs x) (hz : cs.size = sz)
  (YU : je w' base e sz A' (n + 1) c' (vals ++ cs.toList)) (gr : w.grownBy w' (Value.slice A n c).ownBlock) (hgl : (Value.slice A' (n + 1) c').ownBlock = (Value.slice A n c).ownBlock ∨ (Value.slice A' (n + 1) c').ownBlock = some w.heap.size) : iI RC sz e base S w' A' (n + 1) c' (zs ++ [x]) (vals ++ cs.toList) := by
 obtain ⟨hl, hr, hk⟩ := h;have hvl := hr.len;refine ⟨by simp [hl], YU, fun i y hy => ?_⟩;rcases Nat.lt_or_ge i n with hi | hi
 ·rw [List.getElem?_append_left Om] at hy;have hm : (i + 1) * sz ≤ n * sz := Nat.mul_le_mul_right sz Om;rw [Nat.add_mul, Nat.one_mul] at hm;rw [List.drop_append_of_le_length Om, List.take_append_of_le_length (by grind)];exact I _ _ _ _ (hk i y hy) fun _ _ b => b.grown gr hgl
 rw [List.getElem?_append_right Om] at hy
 have YV : i - zs.length = 0 := by grind
 rw [YV] at hy;injection hy with hy
 subst hy;obtain rfl : i = n := Om
 rw [← hvl, List.drop_left, List.take_of_length_le (by simp [hz])];exact I _ _ _ _ hx fun _ _ b => b.grown gr hgl
end
section
open Go.RowKit Tryz
attribute [local irreducible] Y Ef WL WC WK WQ WM cu WN WF db WJ iC WG lW WR rQ
open Wire Nd Hk
def GN (b1 b2 bs bd bi : Nat) (G D I : Hd) (ss : Array Value) (w : aa9) : Prop :=
 aq w b1 58 #[.slice G.A G.n G.c] ∧ (∃ t, aq w b2 t #[.func (.func 128) #[] #[.pointer (cf bs), .pointer (cf bd), .pointer (cf bi)]]) ∧ aq w bs 44 ss ∧ aq w bd 23 #[.slice D.A D.n D.c] ∧ aq w bi 23 #[.slice I.A I.n I.c]
theorem AS (G D I : Hd) (ss : Array Value) (w : aa9) :
  Ct 60 #[.agg ss, .slice I.A I.n I.c, .slice G.A G.n G.c, .slice D.A D.n D.c] w fun e w' => ∃ b1 b2 bs bd bi, e = .returned (.func (.func 132) #[] #[.pointer (cf b1), .pointer (cf b2)]) ∧ GN b1 b2 bs bd bi G D I ss w' ∧ (∀ b ∈ [b1, b2, bs, bd, bi], w.heap.size ≤ b) ∧ Ext w w' := by
 have F := aI.refl [] w;refine ai 12 func60 ?_;intro _ aa4;refine aU ?_;intro _ _ B4 _ ex;have YU := B4.lt;replace F := F.ext ex;refine aU ?_;intro _ _ B5 _ ex;have YV := B5.lt;obtain ⟨F,B4⟩ := aS ex F B4;refine aU ?_;intro _ _ B6 _ ex;have YW := B6.lt;obtain ⟨F,B4,B5⟩ := bh ex F B4 B5;refine aU ?_;intro _ _ B7 _ ex;have YX := B7.lt;obtain ⟨F,B4,B5,B6⟩ := bG ex F B4 B5 B6;refine au 5 ?_;refine ak (gC rfl) ?_;refine aU ?_;intro _ _ B9 _ ex;obtain ⟨F,B4,B5,B6,B7⟩ := fR ex F B4 B5 B6 B7;refine aU ?_;intro _ D9 cg;replace F := aI.of ((F.bF (by simp)).aw cg Om) []; replace B4 := B4.aw cg Om; replace B5 := B5.aw cg Om; replace B6 := B6.aw cg Om; replace B7 := B7.aw cg Om; replace B9 := D9;refine au 4 ?_;refine ak (gC rfl) ?_;refine aU ?_;exact aa4 rfl ⟨_, _, _, _, _, rfl, ⟨B6, ⟨_, B9⟩, B4, B7, B5⟩, by simp; omega, F.bF (by simp)⟩
abbrev Yv := Array Value × Nat
def AG (n0 gx : Nat) (A B : aa9) : Prop := A.heap.size ≤ B.heap.size ∧ ∀ b, b < n0 → b ≠ gx → B.heap[b]? = A.heap[b]?
theorem AG.trans {A B : aa9} (h : AG n0 gx A B) (k : AG n0 gx B C) : AG n0 gx A C := ⟨Nat.le_trans h.1 k.1, fun b h1 h2 => (k.2 b h1 h2).trans (h.2 b h1 h2)⟩
theorem AG.kp {A B : aa9} {Φ : aa9 → Prop} (h : Kp n0 [gx] Φ A) (k : AG n0 gx A B) : Kp n0 [gx] Φ B :=
 ⟨Nat.le_trans h.1 k.1, fun w2 hw => h.2 w2 fun b hb hn => (hw b hb hn).trans (k.2 b hb (by simpa using hn))⟩
theorem AG.of {A B : aa9} (h : aI S A B) (hs : ∀ g ∈ S, n0 ≤ g ∨ g = gx) (hn : n0 ≤ A.heap.size) : AG n0 gx A B :=
 ⟨h.size, fun b hb hx => h.block b Om fun hm => (hs b hm).elim Om hx⟩
def TK (G D I : Hd) (ss : Array Value) (ts : List (List UInt8)) (seed inf : Lb) (gs : List Gs) (w : aa9) : Prop := rz qw 9 w G.A G.n gs ∧ cN w ss ts ∧ qP w D seed ∧ qP w I inf
abbrev qM (j seed inf : Lb) (gs : List Gs) (i : Nat) : nJ × Nat := nH j seed inf i (gs.getD i ⟨Pack.zero, []⟩)
def Ro (j seed inf : Lb) (gs : List Gs) (pre : List Yv) (x : Yv) (W0 W1 : aa9) : Prop :=
 pre.length < gs.length ∧ x.2 = (qM j seed inf gs pre.length).2 ∧ r9 W0.heap.size W1 x.1 (qM j seed inf gs pre.length).1
theorem Px {bs : Nat} {inf : Lb} (n l : Nat) (J Jx : List Yv → aa9 → Prop) (w : aa9) (H : Kp n0 [gx] (fun w => GN b1 b2 bs bd bi G D I ss w ∧ TK G D I ss ts seed inf gs w) w)
  (hs : ∀ x ∈ gs, x.pk.Small ∧ x.way.length ≤ 1000) (hj : (ts.getD 0 []).length ≤ 1000) (hD : D.n ≤ 1000) (hI : I.n ≤ 6000) (hG : G.n ≤ 100000)
  (hY : ∀ pre x W0 W1, J pre W0 → Ext W0 W1 → Ro (ts.getD 0 []) seed inf gs pre x W0 W1 → YieldAt Fence.wide (n - 1) Tryz.prog l #[.agg x.1, .int .u8 (x.2 : Int)] W1 fun e W' => (e = .returned (.bool true) ∧ J (pre ++ [x]) W' ∧ AG n0 gx W1 W') ∨ (e = .returned (.bool false) ∧ Jx (pre ++ [x]) W'))
  (h0 : J [] w) (hab : AbidesFrom w.heap.size J) :
  Ct 132 #[.func (.yield l) #[] #[], .pointer (cf b1), .pointer (cf b2)] w fun e W' => (∃ v, e = .returned v) ∧ ((∃ xs, xs.length = gs.length ∧ J xs W') ∨ (∃ pre : List Yv, True ∧ Jx pre W')) := by
 have hgl := H.out.2.1.1;refine eX 23 func132 ?_;intro _ aa4;refine au 2 ?_;refine ak (ah rfl Tn.u rfl (H.out.1.1.get (i := 0) rfl)) ?_;refine aU ?_;refine aE (fun n' L wr => ∃ (i : Nat) (pre : List Yv) (W0 : aa9), L = [(0, .func (.yield l) #[] #[]), (2, .pointer (cf b2)), (6, .slice G.A G.n G.c), (7, .int .i64 (G.n : Int)), (8, .int .i64 (i : Int))] ∧ n' = G.n - i ∧ (i ≤ G.n ∧ pre.length = i ∧ J pre W0 ∧ Ext W0 wr ∧ Kp n0 [gx] (fun w => GN b1 b2 bs bd bi G D I ss w ∧ TK G D I ss ts seed inf gs w) wr)) _ _ ⟨0, [], w, rfl, rfl, Om, rfl, h0, Ext.refl _, H⟩ Ls ?_;rintro _ n' L wr ⟨i, pre, W0, rfl, rfl, _, hpl, hJ, E, H⟩ YX;refine aa1 (fun YY => ?_) (fun YY => ?_)
 ·obtain ⟨Zc, o1, Zd, y, e1, _, hx, hcz, hR, hcx⟩ := H.out.2.1.CC Om (i := i) Om;obtain ⟨hys, hyw⟩ := hs y (List.mem_of_getElem? hx);have YZ := hR;obtain ⟨f0, f1, f2, f3, f4, f5, f6, f7, rfl, _⟩ := YZ;refine au 7 ?_;refine ak (fp (s := 9) (j := i) e1 rfl rfl Tn.u Kr rfl Om) ?_;refine ak (ew (cs := FV f0 f1 f2 f3 y.pk.leaf.src f4 f5 f6 f7) rfl Tn.u rfl Kr fun j v hv => by rw [Addr.add_plain]; grind) ?_;have z2 := E.size; have n2 := H.1;refine aU ?_;intro w3 g5 (B5 : aq _ _ _ (FV ar ar ar ar 0 ar ar ar ar)) Y0 ex;obtain ⟨E,H⟩ := aS ex E H;have Y2 := ex; have q5 := H.1;refine aU ?_;intro _ D5 cg;replace H := AG.kp H (AG.of (aI.one cg) So q5); replace E := E.aw cg Om; have Y3 := hR.ext (Y2.aw cg Y0); have Za := D5.congr (cs' := FV f0 f1 f2 f3 y.pk.leaf.src f4 f5 f6 f7) rfl;refine au 3 ?_;have hS := H.out;obtain ⟨⟨_, ⟨t2, S2⟩, S3, S4, S5⟩, _, HS, HD, HI⟩ := hS;have YV : qM (ts.getD 0 []) seed inf gs pre.length = nH (ts.getD 0 []) seed inf i y := by grind
  refine oB (n) ?_;refine dN (aL rfl) rfl ?_;refine dN (ah rfl underlying185 rfl (S2.get (i := 0) rfl)) rfl ?_;refine dN (aL rfl) rfl ?_;refine dN (aP rfl underlying68 rfl Kr Za) rfl ?_;have Ze := E.size;refine Ty (kD (us := [.pointer (cf bs), .pointer (cf bd), .pointer (cf bi)]) (xs := [.tmp 15, .tmp 16]) (vs := [.int .i64 (i : Int), .agg (FV f0 f1 f2 f3 y.pk.leaf.src f4 f5 f6 f7)]) (Φ := fun v w' => ∃ cs, v = .tuple #[.agg cs, .int .u8 ((nH (ts.getD 0 []) seed inf i y).2 : Int)] ∧ r9 _ w' cs (nH (ts.getD 0 []) seed inf i y).1 ∧ Ext _ w') rfl func128 rfl rfl rfl (MF i _ Y3 hys hyw S3 HS hj S4 HD Om S5 HI Om Om) (fun _ _ ⟨cs, h1, h2, h3⟩ => ⟨_, h1, cs, rfl, h2, h3⟩)) rfl ?_;rintro _ _ ⟨YW, rfl, G5, ex⟩;obtain ⟨E,H⟩ := aS ex E H;refine dN (cM rfl rfl) rfl ?_;refine dN (cM rfl rfl) rfl ?_;refine Dq rfl rfl rfl ((oE (hY pre (YW, (nH (ts.getD 0 []) seed inf i y).2) W0 _ hJ E ⟨Om, by rw [YV], by rw [YV]; exact G5.mono Om⟩))) rfl ?_;rintro e w6 ⟨_, rfl, hbt, hbf⟩;refine aU ?_;refine dN (pY rfl) rfl ?_;refine wQ ?_;refine aU ?_;refine bw rfl (fun YU => ?_) (fun YU => ?_)
  ·refine aU ?_;exact aa4 (.inl rfl) ⟨⟨_, rfl⟩, .inr ⟨_, trivial, hbf (by simpa using YU)⟩⟩
  obtain ⟨Zb, hk⟩ := hbt (by simpa using YU);replace H := AG.kp H hk;refine au 7 ?_;refine ae ?_;refine YX _ _ ⟨i + 1, pre ++ [(YW, (nH (ts.getD 0 []) seed inf i y).2)], w6, rfl, rfl, Om, by simp [hpl], Zb, Ext.refl _, H⟩ Om Ls
 refine aU ?_;exact aa4 (.inr rfl) ⟨⟨_, rfl⟩, .inl ⟨pre, Om, hab _ _ _ none hJ (ig E) (fun r e => by cases e)⟩⟩
end
open Go.RowKit Tryz
theorem OK {e : Exit} {L : List (Nat × Value)} (L' : List (Nat × Value)) (hS : mC L L') (h : WQ Q e N L' w) : WQ Q e N L w := fun a ha => h a (ha.sub hS)
section
variable {f : FuncId} {fn : Func} {c : Code} {R : Ending → aa9 → Prop}
theorem uD {p q : Tmp} {ty YU t : TypeId} (hr : fn.results = #[.cell p ty, .cell q YU]) (tmps : Array Value) {d d' : TypeDesc} {g g' : Nat} {cs : Array Value} {v : Value} (hp : tmps.getD p undef = .pointer (cf g)) (hq : tmps.getD q undef = .pointer (cf g')) (hg : aq w g t cs) (YV : w.cell? ⟨g', 0, none⟩ = some v)
  (hu : P.underlying ty = some d) (hd : (match d with | .struct _ | .array _ _ => true | _ => false) = true) (hi : (P.info? ty).map (·.size) = some cs.size) (YW : P.underlying YU = some d') (YX : (match d' with | .struct _ | .array _ _ => false | _ => true) = true) : (results fn tmps).run P w = .ok (.tuple #[.agg cs, v]) w := by
 have YY : tmps[p]?.getD undef = .pointer (cf g) := by simpa using hp
 have YZ : tmps[q]?.getD undef = .pointer (cf g') := by simpa using hq
 have h2 : (loadVar YU ⟨g', 0, none⟩).run P w = .ok v w := by simp [loadVar, oG (P := P) YW YX w, YV]
 simp [results, hr, YY, YZ, asAddr, run_loadVar_row w g t ty cs _ d hg hu hd hi, h2]
theorem Af {ty YW : TypeId} {s : Nat} {d d' : TypeDesc} (n N : Nat) {u t : Tmp} (hf : P.funcs[f]? = some fn) (hb : fn.body = some c) (hN : fn.ntmps = N) (hr : fn.results = #[.cell u ty, .cell t YW]) (hu : P.underlying ty = some d) (hd : (match d with | .struct _ | .array _ _ => true | _ => false) = true) (hs : (P.info? ty).map (·.size) = some s)
  (YX : P.underlying YW = some d') (YY : (match d' with | .struct _ | .array _ _ => false | _ => true) = true) (hsz : Nat.ble args.size N = true)
  (h : ∀ Q : Exit → Act → aa9 → Prop, (∀ {N : Nat} {L : List (Nat × Value)} {w : aa9} {g g' : Nat} {e : TypeId} {cs : Array Value} {v : Value}, look L u = some (.pointer (cf g)) → look L t = some (.pointer (cf g')) → aq w g e cs → cs.size = s → w.cell? ⟨g', 0, none⟩ = some v → R (.returned (.tuple #[.agg cs, v])) w → WQ Q .ret (⟨N, []⟩ : Nd) L w) →
   (∀ {N D : Nat} {L : List (Nat × Value)} {w : aa9} {g g' : Nat} {e : TypeId} {cs : Array Value} {v : Value}, look L u = some (.pointer (cf g)) → look L t = some (.pointer (cf g')) → w.heap[D]? = some (.deferred (some [])) → aq w g e cs → cs.size = s → w.cell? ⟨g', 0, none⟩ = some v → R (.returned (.tuple #[.agg cs, v])) (w.putObj D (.deferred none)) →
    WQ Q .ret (⟨N, [{ target := .collected D, args := #[] }]⟩ : Nd) L w) → WC P Q c ⟨N, []⟩ (gF 0 args.toList) w) : Calls P f args w R :=
 na n N hf hb hN hsz fun Q hQ => h Q
  (fun {N L w g g' e cs v} hv ht hg hz YU hR a ha => hQ (by
   show LeavesInM _ _ _ _ _ _ a.defers _ _;rw [ha.defers]
   exact ⟨_, uD hr _ (cI (ha.has _ _ hv)) (cI (ha.has _ _ ht)) hg YU hu hd (by grind) YX YY, hR⟩))
  (fun {N D L w g g' e cs v} hv ht hK hg hz YU hR a ha => hQ (by
   show LeavesInM _ _ _ _ _ _ a.defers _ _;rw [ha.defers];refine ⟨by simp, .inl ⟨_, _, rfl, run_takeDeferred hK, ?_⟩⟩;have hne : g ≠ D := fun e' => by subst e'; rw [show w.heap[g]? = _ from hg] at hK; cases hK
   have YV : g' ≠ D := fun e' => by subst e'; simp [World.cell?, hK] at YU
   have hG : aq (w.putObj D (.deferred none)) g e cs := (World.putObj_heap_other hne).trans hg;have YZ : (w.putObj D (.deferred none)).cell? ⟨g', 0, none⟩ = some v := (World.cell?_of_block (w := w) (World.putObj_heap_other YV)).trans YU
   exact ⟨_, uD hr _ (cI (ha.has _ _ hv)) (cI (ha.has _ _ ht)) hG YZ hu hd (by grind) YX YY, hR⟩))
end
attribute [local irreducible] Y Ef WL WC WK WQ WM cu WN WF db WJ iC WG lW WR rQ
open Wire Nd Hk
/-! What welcome.Make makes, plainly. -/
def UC (j seed inf : Lb) (gs : List Gs) : nG × Nat :=
 match (List.range gs.length).find? (fun i => decide ((qM j seed inf gs i).2 ≠ 0)) with
 | some i => (nG.zero, (qM j seed inf gs i).2)
 | none => (⟨(List.range gs.length).map fun i => (qM j seed inf gs i).1, inf⟩, 0)
theorem Eb {inf : Lb} (h : ∀ i, i < gs.length → (qM j seed inf gs i).2 = 0) : UC j seed inf gs = (⟨(List.range gs.length).map fun i => (qM j seed inf gs i).1, inf⟩, 0) := by
 have e : (List.range gs.length).find? (fun i => decide ((qM j seed inf gs i).2 ≠ 0)) = none := List.find?_eq_none.2 fun i hi => by grind
 unfold UC; rw [e]
theorem Oq {inf : Lb} (hi : i < gs.length) (h : ∀ k, k < i → (qM j seed inf gs k).2 = 0) (hn : (qM j seed inf gs i).2 ≠ 0) : UC j seed inf gs = (nG.zero, (qM j seed inf gs i).2) := by
 have e : (List.range gs.length).find? (fun i => decide ((qM j seed inf gs i).2 ≠ 0)) = some i := by simp_all
 unfold UC; rw [e]
def gd (ts : List (List UInt8)) (i : fK) (gs : List Gs) (seed : Lb) : nG × Nat :=
 if ¬ dk i then (nG.zero, 3) else if 64 < gs.length then (nG.zero, 6)
 else UC (ts.getD 0 []) seed (Gm.gO (Kdf.label (ts.getD 1 []) uz.data.toList [] 16) (Kdf.label (ts.getD 1 []) jt.data.toList [] 12) (mb i) []) gs
/-! What a round finds and leaves. -/
def mh (B : Hd → List UInt8 → Prop) (cs : Array Value) (x : nJ) : Prop := ∃ a b c, cs = eQ a b c ∧ B a x.ref ∧ B b x.enc ∧ B c x.box ∧ c.n ≤ c.c
theorem mh.imp : PD mh := fun _ _ _ _ ⟨a, b, c, e, h1, h2, h3, h4⟩ f => ⟨a, b, c, e, f _ _ h1, f _ _ h2, f _ _ h3, h4⟩
theorem mh.ac (h : mh (qP w) cs x) : tM w cs x := by obtain ⟨a, b, c, rfl, h1, h2, h3, h4⟩ := h;exact ⟨⟨a, b, c, rfl, h1, h2, h3⟩, fun A n c e => by have e' : some (Value.slice _ _ _) = _ := e; grind⟩
theorem r9.d (h : r9 base w cs x) (hS : ∀ g ∈ S, g < base) : mh (Bx S w) cs x := by obtain ⟨a, b, c, rfl, h1, h2, h3, h4⟩ := h;exact ⟨a, b, c, rfl, Bx.of h1 hS, Bx.of h2 hS, Bx.of h3 hS, h4⟩
theorem Pn : wW Tryz.prog 22 37 3 72 := wW.of (z := .agg #[.slice none 0 0, .slice none 0 0, .slice none 0 0]) underlying22 Kr Kr Om
section
variable (n0 g8 g9 g14 : Nat) (w0 : aa9) (I : Hd) (j seed inf : Lb) (gs : List Gs)
def Qj (A : Oa) (n c : Nat) (pre : List Yv) (W : aa9) : Prop :=
 n0 ≤ W.heap.size ∧ pre.length ≤ gs.length ∧ (∀ i, i < pre.length → (qM j seed inf gs i).2 = 0) ∧ Below w0.heap.size w0 W ∧ aq W g8 25 (gS ar ar) ∧ aq W g9 47 #[.int .u8 0] ∧ Bx [g14, g9, g8] W I inf ∧ (0 < I.n → ∀ b o, I.A = some ⟨b, o, none⟩ → b < n0) ∧
  aq W g14 25 (gS ⟨A, n, c⟩ I) ∧ Xj mh 3 37 n0 [g14, g9, g8] W A n c ((List.range pre.length).map fun i => (qM j seed inf gs i).1)
def Uz (pre : List Yv) (W : aa9) : Prop := ∃ A n c, Qj n0 g8 g9 g14 w0 I j seed inf gs A n c pre W
def VI (pre : List Yv) (v : Yv) (L : List (Nat × Value)) (W : aa9) : Prop := ∃ g15 A n c, L = [(8, .pointer (cf g8)), (9, .pointer (cf g9)), (14, .pointer (cf g14)), (15, .pointer (cf g15)), (16, .int .u8 (v.2 : Int))] ∧
 Qj n0 g8 g9 g14 w0 I j seed inf gs A n c pre W ∧ n0 ≤ g15 ∧ aq W g15 37 v.1 ∧ pre.length < gs.length ∧ v.2 = (qM j seed inf gs pre.length).2 ∧ mh (Bx ((Value.slice A n c).ownBlock.toList ++ [g14, g9, g8]) W) v.1 (qM j seed inf gs pre.length).1
def VR (pre : List Yv) (W : aa9) : Prop := ∃ i, i < gs.length ∧ (∀ k, k < i → (qM j seed inf gs k).2 = 0) ∧ (qM j seed inf gs i).2 ≠ 0 ∧ Below w0.heap.size w0 W ∧ aq W g8 25 (gS ar ar) ∧ aq W g9 47 #[.int .u8 ((qM j seed inf gs i).2 : Int)]
end
section
variable {g8 g9 g14 B : Nat} {inf : Lb}
theorem Qj.own {β : Type} {pre : List Yv} (hB : w0.heap.size ≤ B) : OwnFrom B (fun (_ : β) W => Qj n0 g8 g9 g14 w0 I j seed inf gs A n c pre W) := fun s W W' row ⟨h0, h1, h2, h3, h4, h5, h6, h7, h8, h9⟩ hg hr =>
 ⟨Nat.le_trans h0 hg.size, h1, h2, ownFrom_below (β := β) (Nat.le_refl _) hB s _ _ _ h3 hg hr, dH (f := fun _ : β => _) s _ _ _ h4 hg hr, dH (f := fun _ : β => _) s _ _ _ h5 hg hr, xQ s _ _ _ h6 hg hr, h7, dH (f := fun _ : β => _) s _ _ _ h8 hg hr, h9.imp fun _ h => iI.own mh.imp s _ _ _ h hg hr⟩
theorem Uz.own (hB : w0.heap.size ≤ B) : OwnFrom B (Uz n0 g8 g9 g14 w0 I j seed inf gs) := fun s W W' row ⟨A, n, c, h⟩ hg hr => ⟨A, n, c, Qj.own hB s W W' row h hg hr⟩
theorem VI.own (hB : w0.heap.size ≤ B) (pre : List Yv) (v : Yv) (L : List (Nat × Value)) : OwnFrom B (fun (_ : Unit) W => VI n0 g8 g9 g14 w0 I j seed inf gs pre v L W) := fun s W W' row ⟨g15, A, n, c, h1, h2, h3, h4, h5, h6, h7⟩ hg hr =>
 ⟨g15, A, n, c, h1, Qj.own hB s W W' row h2 hg hr, h3, dH (f := fun _ : Unit => _) s _ _ _ h4 hg hr, h5, h6, mh.imp _ _ _ _ h7 fun _ _ b => xQ s _ _ _ b hg hr⟩
theorem VR.own (hB : w0.heap.size ≤ B) : OwnFrom B (VR g8 g9 w0 j seed inf gs) := fun s W W' row ⟨i, h1, h2, h3, h4, h5, h6⟩ hg hr =>
 ⟨i, h1, h2, h3, ownFrom_below (β := List Yv) (Nat.le_refl _) hB s _ _ _ h4 hg hr, dH (f := fun _ : List Yv => _) s _ _ _ h5 hg hr, dH (f := fun _ : List Yv => _) s _ _ _ h6 hg hr⟩
end
theorem Qn {α : Type} {R : aa9 → Array Value → α → Prop} {xs : List α} (h : rz R sz w A n xs) (hR : ∀ cs x, R w cs x → Kp w.heap.size [] (fun w => R w cs x) w) : Kp w.heap.size [] (fun w => rz R sz w A n xs) w := by obtain ⟨hl, vs, h2, h3, h4⟩ := h;exact ⟨Nat.le_refl _, fun w2 hw => ⟨hl, vs, h2, (Kp.at h3 (by simp)).2 w2 hw, fun i x hx => (hR _ _ (h4 i x hx)).2 w2 hw⟩⟩
theorem Ti {x : Gs} (h : qw w cs x) : Kp w.heap.size [] (fun w => qw w cs x) w :=
 ⟨Nat.le_refl _, fun w2 hw => Ej.imp h fun _ _ b => (Kp.bs (S := []) b (by simp)).2 w2 hw⟩
theorem Kp.lift {W : aa9} {Φ : aa9 → Prop} (h : Kp w.heap.size [] Φ w) (E : Ext w W) (hS : ∀ g ∈ S, w.heap.size ≤ g) : Kp W.heap.size S Φ W :=
 ⟨Nat.le_refl _, fun w2 hw => h.2 w2 fun k hk _ => (hw k (Nat.lt_of_lt_of_le hk E.size) fun hm => by grind).trans (E.block k hk)⟩
theorem Kp.fA (h : aq w b t cs) (hS : b ∉ S) : Kp w.heap.size S (fun w => aq w b t cs) w := ⟨Nat.le_refl _, fun w2 hw => (hw b h.lt hS).trans h⟩
theorem Ue {bs : Nat} (h : GN b1 b2 bs bd bi G D I ss w) (hS : ∀ b ∈ [b1, b2, bs, bd, bi], b ∉ S) : Kp w.heap.size S (fun w => GN b1 b2 bs bd bi G D I ss w) w := by obtain ⟨h1, ⟨t, h2⟩, h3, h4, h5⟩ := h;simp only [List.mem_cons, List.not_mem_nil, or_false, forall_eq_or_imp, forall_eq] at hS;exact ⟨Nat.le_refl _, fun w2 hw => ⟨(Kp.fA h1 hS.1).2 w2 hw, ⟨t, (Kp.fA h2 hS.2.1).2 w2 hw⟩, (Kp.fA h3 hS.2.2.1).2 w2 hw, (Kp.fA h4 hS.2.2.2.1).2 w2 hw, (Kp.fA h5 hS.2.2.2.2).2 w2 hw⟩⟩
theorem BG {B : Nat} {W : aa9} (h : aI S W W') (hS : ∀ g ∈ S, g < B ∨ ∃ t cs, aq W g t cs) : KeepsFrom B W W' :=
 ⟨h.size, fun k o hB hk ho => (h.block k (Array.getElem?_eq_some_iff.1 hk).1 fun hm => by
  rcases hS k hm with h1 | ⟨t, cs, hb⟩
  ·omega
  rw [show W.heap[k]? = _ from hb] at hk; injection hk with hk; subst hk; cases ho).trans hk⟩
theorem je.cells {xs : List Value} (h : je w base e sz A n c xs) : ∀ g ∈ (Value.slice A n c).ownBlock.toList, ∃ t cs, aq w g t cs := by
 intro g hg
 rcases h.2 with ⟨hv, _⟩ | ⟨g', cap, cur, hv, _, hb, _⟩
 ·rw [hv] at hg; simp [Value.ownBlock] at hg
 rw [hv] at hg; simp [Value.ownBlock] at hg; subst hg; exact ⟨_, _, hb⟩
theorem Ph {k : Nat} (hk : n0 ≤ k) (W : aa9) (l : Nat) (o o' : Obj) (hl : k ≤ l) : AG n0 gx W (W.putObj l o') := ⟨by simp_all, fun b hb _ => World.putObj_heap_other Om⟩
theorem IW {x : fK} (w : aa9) (HS : cN w ss ts) (hj : (ts.getD 0 []).length ≤ 1000) (Zx : (ts.getD 1 []).length ≤ 1000) (HI : eP w is x) (hx : x.ctx.Small) (ht : x.tag.length ≤ 1000) (h6 : x.sig.length ≤ 1000)
  (HG : rz qw 9 w G.A G.n gs) (hs : ∀ x ∈ gs, x.pk.Small ∧ x.way.length ≤ 1000) (HD : qP w D seed) (hD : D.n ≤ 1000) :
  Ct 21 #[.agg ss, .agg is, .slice G.A G.n G.c, .slice D.A D.n D.c] w fun e w' => ∃ cs, e = .returned (.tuple #[.agg cs, .int .u8 ((gd ts x gs seed).2 : Int)]) ∧ tf w' cs (gd ts x gs seed).1 ∧ Ext w w' := by
 have E := Ext.refl w;have hgl := HG.1;have K0 : Kp w.heap.size [] (fun w => rz qw 9 w G.A G.n gs ∧ cN w ss ts ∧ qP w D seed) w := (Qn HG fun _ _ h => Ti h).and ((xU HS gA).and (Kp.bs HD (by simp)));obtain ⟨a0, a1, a2, a3, a4, a5, a6, a7, a8, a9, Zq, Zr, rfl⟩ := HS.form;have Zy := HI;obtain ⟨i0, i1, i2, i3, i4, rfl, _⟩ := Zy;refine Af (s := 2) (3) 64 func21 rfl rfl rfl underlying25 rfl Kr underlying47 rfl rfl ?_;intro _ Y2 hretD;refine aU ?_;intro _ _ B4 _ ex;have ZH := B4.lt;replace E := E.ext ex;refine aU ?_;intro _ _ B5 _ ex;have ZI := B5.lt;obtain ⟨E,B4⟩ := aS ex E B4;refine aU ?_;intro v8 g8 (B8 : aq _ _ _ (gS ar ar)) ZJ ex;obtain ⟨E,B4,B5⟩ := bh ex E B4 B5;have l8 := B8.lt;refine aU ?_;intro _ g9 B9 _ ex;obtain ⟨E,B4,B5,B8⟩ := bG ex E B4 B5 B8;refine aU ?_;refine aB func59 rfl (vd _ (HI.ext E) hx ht h6) ?_;rintro e _ ⟨_, YW, _, _, rfl, Zc, _, _, ex⟩;obtain ⟨E,B4,B8,B9⟩ := bG ex E B4 B8 B9;refine aa1 (fun Zs => ?_) (fun Zs => ?_)
 ·refine au 2 ?_;refine ak (aA rfl (cells := gS ar ar) Kr) ?_;refine aU ?_;intro w2 D8 cg;replace E := E.aw cg Om; replace B9 := B9.aw cg Om; replace B8 := D8.congr (cs' := gS ar ar) rfl;refine aU ?_;intro w3 D9 cg;replace E := E.aw cg Om; replace B8 := B8.aw cg Om; replace B9 := D9;refine aU ?_;refine Y2 rfl rfl B8 rfl (B9.get (i := 0) rfl) ?_;have hno : ¬ dk x := fun o => Zs (by rw [(Zc.1 o).1]; rfl);obtain ⟨hz, _⟩ := Zc.2 hno;subst hz;have e1 : gd ts x gs seed = (nG.zero, 3) := by unfold gd; rw [if_pos hno]
  rw [e1]; exact ⟨_, rfl, xP _, E⟩
 have okx : dk x := Classical.byContradiction fun hno => by have := (Zc.2 hno).1; omega
 have Za := (Zc.1 okx).2;refine aa1 (fun Zz => ?_) (fun Zz => ?_)
 ·refine au 2 ?_;refine ak (aA rfl (cells := gS ar ar) Kr) ?_;refine aU ?_;intro w2 D8 cg;replace E := E.aw cg Om; replace B9 := B9.aw cg Om; replace B8 := D8.congr (cs' := gS ar ar) rfl;refine aU ?_;intro w3 D9 cg;replace E := E.aw cg Om; replace B8 := B8.aw cg Om; replace B9 := D9;refine aU ?_;refine Y2 rfl rfl B8 rfl (B9.get (i := 0) rfl) ?_;have e1 : gd ts x gs seed = (nG.zero, 6) := by unfold gd; rw [if_neg (fun h => h okx), if_pos Om]
  rw [e1]; exact ⟨_, rfl, xP _, E⟩
 obtain ⟨V, hV⟩ : ∃ V, V = Gm.gO (Kdf.label (ts.getD 1 []) uz.data.toList [] 16) (Kdf.label (ts.getD 1 []) jt.data.toList [] 12) (mb x) [] := ⟨_, rfl⟩
 have e1 : gd ts x gs seed = UC (ts.getD 0 []) seed V gs := by unfold gd; rw [if_neg (fun h => h okx), if_neg Om, ← hV]
 refine aU ?_;refine aB func40 rfl (vT _ ts _ (HS.ext E) Zx) ?_;rintro e w4 ⟨_, _, _, _, rfl, Ze, Zf, ex⟩;obtain ⟨E,B4,B8,B9,Za⟩ := fR ex E B4 B8 B9 Za;have l9 := B9.lt; have y8 := B8.lt;refine aU ?_;intro w5 g14 (YX : aq _ _ _ (gS ar ar)) ZA ex;obtain ⟨E,B4,B8,B9,Za,Ze,Zf⟩ := iW ex E B4 B8 B9 Za Ze Zf;refine aU ?_;have ZB := YX.lt;refine aB func55 rfl (wE _ Ze Zf Za Om (Bs.nil _ _) Om Om) ?_;rintro e _ ⟨YU, YY, rfl, YZ, ex⟩;refine au 1 ?_;obtain ⟨E,B4,B8,B9,YX⟩ := fR ex E B4 B8 B9 YX;rw [← hV] at YZ; have Zt := YZ.bn.2;refine aU ?_;intro _ Zg cg;replace E := E.aw cg Om; replace B8 := B8.aw cg Om; replace B9 := B9.aw cg Om; replace B4 := B4.aw cg Om; replace YZ := YZ.aw cg (by intro b o e; have := Zt b o e; omega); replace YX := Zg.congr (cs' := gS ar ⟨YU, YW + 16, YY⟩) rfl;refine aU ?_;have ZK := YX.lt;refine aB func60 rfl (AS G D ⟨YU, YW + 16, YY⟩ _ _) ?_;rintro e w9 ⟨b1, b2, bs, bd, bi, rfl, HSl, _, ex⟩;obtain ⟨E,B8,B9,YX,YZ⟩ := fR ex E B8 B9 YX YZ;have z9 := E.size; have ZL := YX.lt; have ZM := B8.lt; have ZN := B9.lt; have Zu := YZ.bs;have ZO : ∀ b o, YU = some ⟨b, o, none⟩ → g14 < b := fun b o e => by have := Zt b o e; omega
 have Zh : ∀ b o, YU = some ⟨b, o, none⟩ → b < w9.heap.size := fun b o e => by subst e; exact (YZ.lt).2
 have HK : Kp w9.heap.size [g14] (fun w => GN b1 b2 bs bd bi G D ⟨YU, YW + 16, YY⟩ (wR a0 a1 a2 a3 a4 a5 a6 a7 a8 a9 Zq Zr) w ∧ TK G D ⟨YU, YW + 16, YY⟩ (wR a0 a1 a2 a3 a4 a5 a6 a7 a8 a9 Zq Zr) ts seed V gs w) w9 := ((Ue HSl (fun b hm => by grind)).and ((K0.lift E So).and (Kp.bs Zu (fun _ g hg o e => by grind)))).map fun _ ⟨a, ⟨b, c, d⟩, e⟩ => ⟨a, b, c, d, e⟩
 have Zi : Uz w9.heap.size g8 g9 g14 w ⟨YU, YW + 16, YY⟩ (ts.getD 0 []) seed V gs [] w9 := ⟨none, 0, 0, Nat.le_refl _, Nat.zero_le _, (fun i h => by cases h), E, B8, B9, ⟨Zu, fun _ b o e hm => by grind⟩, fun _ b o e => Zh b o e, YX, [], iI.empty _ _ _ _ _ _⟩
 refine aU ?_;refine IX (n := 3) (S := fun xs : List Yv => xs.length = gs.length) (Sp := fun _ => True) (Kp := AG w9.heap.size g14) (Good := Ro (ts.getD 0 []) seed V gs) (e1 := fun v : Yv => .agg v.1) (e2 := fun v : Yv => .int .u8 (v.2 : Int)) rfl (enters func132 rfl rfl) (fun l J Jx W hW hJ hY h0 => Px 2 l J Jx W (HK.below hW (Nat.le_refl _)) hs hj hD (by grind) Om hY h0 hJ) AG.trans (fun W l o o' hl _ _ _ => Ph (Nat.le_refl _) W l o o' hl) (Uz w9.heap.size g8 g9 g14 w ⟨YU, YW + 16, YY⟩ (ts.getD 0 []) seed V gs) (VR g8 g9 w (ts.getD 0 []) seed V gs) (Uz.own z9) (VR.own z9) Zi rfl rfl (VI w9.heap.size g8 g9 g14 w ⟨YU, YW + 16, YY⟩ (ts.getD 0 []) seed V gs) (VI.own z9) ?_ ?_ ?_ ?_
 ·intro kR Q2 pre v _ W2 Zi hE hI hG hout;obtain ⟨A, n, c, S0⟩ := Zi;obtain ⟨hlt, hz, Gx⟩ := hG;have S2 : Qj w9.heap.size g8 g9 g14 w ⟨YU, YW + 16, YY⟩ (ts.getD 0 []) seed V gs A n c pre W2 := Qj.own (β := Unit) z9 () _ _ none S0 (ig hE) (fun r e => by cases e);obtain ⟨vals, _, hr, _⟩ := S0.2.2.2.2.2.2.2.2.2;have s0 := S0.1; have s2 := S2.1
  have GD := Gx.d (S := (Value.slice A n c).ownBlock.toList ++ [g14, g9, g8]) (fun g hg => by
   rcases List.mem_append.1 hg with h | h
   ·exact (hr.mz g h).2
   grind)
  obtain ⟨fa, fb, fc, Zd, _⟩ := id Gx;rw [Zd];refine fW ?_; intro ZP Zj;refine dd ?_;refine aU ?_;intro wa g15 (Zk : aq _ _ _ (eQ ar ar ar)) Zb ex;have XA := ex;refine aU ?_;intro _ Zv cg;have XB := XA.aw cg Zb; have Zv := Zv.congr (cs' := eQ fa fb fc) rfl;refine au 1 ?_;refine ae (Zj ?_);refine dd ?_;refine aU ?_;refine OK [(8, .pointer (cf g8)), (9, .pointer (cf g9)), (14, .pointer (cf g14)), (15, .pointer (cf g15)), (16, .int .u8 (v.2 : Int))] Ls (hout (kb (aI.of XB []) (by simp)) (AG.of (aI.of XB []) (by simp) s2) (Uz.own z9 _ _ _ none hI (ig XB) (fun r e => by cases e)) ⟨g15, A, n, c, rfl, Qj.own (β := Unit) z9 () _ _ none S2 (ig XB) (fun r e => by cases e), Om, by grind, hlt, hz, mh.imp _ _ _ _ GD fun _ _ b => b.ext XB⟩)
 ·intro kR Q2 pre v _ W2 hI hA hout hstop;obtain ⟨g15, A, n, c, rfl, ⟨s0, s1, s2, s3, s4, s5, s6, s7, s8, s9⟩, Zb, Zk, hlt, hz, GD⟩ := hA;obtain ⟨fa, fb, fc, Zd, _⟩ := id GD;rw [Zd] at Zk;refine tv ?_;refine fW ?_; intro ZQ Zl;refine fW ?_; intro ZR Zm;refine dd ?_;refine au 3 ?_;refine ae (Zm ?_);refine MX rfl (fun ZC => ?_) (fun ZC => ?_)
  ·skip;refine fW ?_; intro ZS Zn;refine dd ?_;refine ak (aA rfl (cells := gS ar ar) Kr) ?_;refine aU ?_;intro w2 D8 YV;have ZT := YV.size; replace s5 := s5.aw YV Om; replace s4 := D8.congr (cs' := gS ar ar) rfl;refine aU ?_;intro w3 D9 Y0;replace s4 := s4.aw Y0 Om;refine au 1 ?_;refine ae (Zn ?_);refine SK ?_;refine aU ?_;exact hstop (kb (aI.tr (aI.mono (S' := [g8, g9]) (aI.one YV) (by simp)) (aI.mono (S' := [g8, g9]) (aI.one Y0) (by simp))) So) ⟨pre.length, hlt, s2, Om, (s3.grown YV Om (fun k e => by grind)).grown Y0 Om (fun k e => by grind), s4, by grind⟩
  skip;refine Fj ?_;refine ae (Zl ?_);have ZU : v.2 = 0 := Om
  refine dd ?_;refine aU ?_;have ZV := Zk.lt;refine af (sM (cells := eQ fa fb fc) Tn.u rfl Kr) rfl ?_;rintro _ w3 ⟨_, rfl, ZD, _, ex⟩;have X3 := ex; have ZE := mh.imp _ _ _ _ GD fun _ _ b => b.ext ex; obtain ⟨vals, V9⟩ := s9; have V8 := V9.ext mh.imp ex; have hr := V8.2.1; have hl := V8.1; have ZB := s8.lt; replace s8 := s8.ext ex; replace s4 := s4.ext ex; replace s5 := s5.ext ex; replace s3 := s3.trans (ex.mono Om); have y3 := ex.size; have ZW : pre.length = n := by simpa using hl
  refine af (xJ (A := A) (n := n) (c := c) rfl rfl Pn hr ZD rfl (bu rfl) Om Om Om) rfl ?_;rintro _ w4 ⟨A4, c4, rfl, R4, Zo, hgl⟩;have HE := V8.app mh.imp (by rw [← Zd]; exact ZE) rfl R4 Zo hgl; have hog := fun g hg => (hr.mz (m := n) g hg); have C4 := aI.Pc Zo; replace s8 := s8.bD C4 (fun hm => by grind); replace s4 := s4.bD C4 (fun hm => by grind); replace s5 := s5.bD C4 (fun hm => by grind); have y4 := C4.size;refine aU ?_;intro w5 Zg Y3;refine aU ?_;have ZF := V9.2.1;have CT : aI ((Value.slice A n c).ownBlock.toList ++ [g14]) W2 w5 := aI.tr (aI.of X3 _) (aI.tr (aI.mono C4 (fun k hk => List.mem_append_left _ hk)) (aI.mono (aI.one Y3) (fun k hk => List.mem_append_right _ hk)));refine hout (BG CT fun g hg => ?_) (AG.of CT (fun g hg => ?_) s0) ⟨A4, n + 1, c4, ?_, ?_, ?_, ?_, s4.aw Y3 Om, s5.aw Y3 Om, ⟨((Kp.bs s6.1 (S := (Value.slice A n c).ownBlock.toList ++ [g14]) ?_).bD CT (fun k hk => hk)).out, s6.2⟩, s7, Zg, vals ++ (eQ fa fb fc).toList, ?_⟩
  ·rcases List.mem_append.1 hg with h | h
   ·exact .inr (ZF.cells g h)
   grind
  ·grind
  ·have := Y3.size; omega
  ·grind
  ·grind
  ·exact (s3.grown Zo Om (fun k e => by have := (hog k (by rw [e]; simp)).1; omega)).grown Y3 Om (fun k e => by grind)
  ·grind
  rw [List.length_append, List.length_singleton, List.range_succ, List.map_append];exact HE.bD mh.imp (aI.one Y3) (by simp) So
 ·intro D _ W2 hD Zp ⟨A, n, c, s0, s1, s2, s3, s4, s5, s6, s7, s8, s9⟩ hKD;have HD : vB W2 D := hKD;refine aU ?_;intro ZG D8 YV;replace HD : vB ZG D := (YV.block D HD.lt (by grind)).trans HD; replace s5 := s5.aw YV Om; have ZX := YV.size;refine aU ?_;intro Zw D9 Y0;replace HD : vB Zw D := (Y0.block D HD.lt (by grind)).trans HD; replace D8 := D8.aw Y0 Om;refine aU ?_;refine hretD rfl rfl HD D8 rfl (D9.get (i := 0) rfl) ?_;obtain ⟨vals, V9⟩ := s9;have hn : n = gs.length := by rw [← V9.1, List.length_map, List.length_range, Zp]
  subst hn;rw [e1, Eb (fun i hi => s2 i Om)];have X9 := (V9.bD mh.imp (aI.one YV) (by simp) So).bD mh.imp (aI.one Y0) (by simp) So;have X6 := (s6.bD (aI.one YV) (by simp)).bD (aI.one Y0) (by simp);have Y9 := (iI.own (β := Unit) (B := w9.heap.size) mh.imp).putObj (s := ()) (.deferred none) X9 hD HD rfl;have Y6 := (xQ (β := Unit) (B := w9.heap.size)).putObj (s := ()) (.deferred none) X6 hD HD rfl;rw [Zp] at Y9;refine ⟨_, rfl, ⟨⟨A, gs.length, c⟩, ⟨YU, YW + 16, YY⟩, rfl, ?_, Y6.1, YZ.cap⟩, ((s3.grown YV Om (fun k e => by grind)).grown Y0 Om (fun k e => by grind)).trans (belowK_b (w := w) (Nat.le_refl _) Zw D _ _ Om HD rfl rfl)⟩;obtain ⟨g1, vs, g2, g3, g4⟩ := Y9.W4 mh.imp;exact ⟨g1, vs, g2, g3, fun i x hx => (g4 i x hx).ac⟩
 intro D pre W2 hD Zp ⟨i, q1, q2, q3, q4, q5, q6⟩ hKD;refine aU ?_;refine hretD rfl rfl hKD q5 rfl (q6.get (i := 0) rfl) ?_;rw [e1, Oq q1 q2 q3];exact ⟨_, rfl, xP _, q4.trans (belowK_b (w := w) (Nat.le_refl _) W2 D _ _ Om hKD rfl rfl)⟩
end Go.Proofs.YtgfafidlkldeaaaGreat
