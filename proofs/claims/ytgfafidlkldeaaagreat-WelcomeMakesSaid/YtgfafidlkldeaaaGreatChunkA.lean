/- A range over a function whose body is one region: a law for the small judgements. No conditions: plain lemmas of the model. slices.Chunk of bytes and its iterator: what it gives, where the length is so many times the size. What a loop over a function's pieces asks of its body: small laws. -/
import Derived.Test.YtgfafidlkldeaaaGreatVc7
import Derived.RangeFuncNested
import Derived.RangeFuncBound
import Derived.RangeFuncCalls
import Derived.RangeFuncLeaves
import Derived.Test.YtgfafidlkldeaaaGreatRow
import Derived.Test.YtgfafidlkldeaaaGreatLib
import Derived.Test.YtgfafidlkldeaaaGreatAu
set_option linter.unusedVariables false
set_option linter.unusedSimpArgs false
set_option maxHeartbeats 4000000
set_option maxRecDepth 4000
namespace Go.Proofs.YtgfafidlkldeaaaGreat
section
open Go.RowKit Tryz
section
variable {P : Program} {ops : Array Oper} {Q : Exit → Act → World → Prop} {n k : Nat} {a : Act} {w : World}
theorem yB {row : String} {args : Array Value} {R : Value → World → Prop} (h : Rows P row args w R) : RowsIn Fence.wide n P row args w R :=
 fun c cs _ => let ⟨v, w', r, s⟩ := h c cs; ⟨v, w', r, stepsIn_wide.2 s⟩
theorem xA {o : Oper} {next next' : Act → World → Prop} (hn : ∀ a w, next a w → next' a w) : ∀ {r : Result Next}, o.upon P a next Q r → o.uponIn (Fence.wide.inRound k) n P a next' Q r
  | .ok (.value v) w', h => hn _ _ h
  | .ok .skip w', h => hn _ _ h
  | .ok (.defer d) w', h => hn _ _ h
  | .ok (.enter f args) w', h => by
    refine ⟨fun e => by simp [Fence.wide] at e, CallsIn.inRound k (callsIn_wide.2 (Calls.mono h ?_))⟩
    intro e Vl hr
    cases e with
    | returned v => exact hn _ _ hr
    | panicked c => exact hr
    | outgrown => exact hr
  | .ok (.row row args) w', h => ⟨fun e => by simp [Fence.wide] at e, (yB (h.mono fun v Vl hr => hn _ _ hr) : RowsIn Fence.wide (n - 1) P row args w' _)⟩
  | .halt (.panic v) w', h => h
theorem so (hQ : ¬ LetsOut Q) : ∀ {l : List Oper} {a : Act} {w : World}, (∀ o ∈ l, ∀ c, o.op ≠ .defer c) → wpList P ops Q l a w → wpListIn (Fence.wide.inRound k) n P ops Q l a w
  | [], a, w, _, h => h
  | o :: l, a, w, hd, h => by
    have ih := fun a w => @so hQ l a w (fun o ho => hd o (List.mem_cons_of_mem _ ho))
    unfold wpList at h
    unfold wpListIn
    split at h
    · rename_i hw
      rw [if_pos hw]
      rcases h with h | h
      · refine ⟨fun _ _ => trivial, ?_⟩
        rw [show (Fence.wide.inRound k).round = some k from rfl, Oper.semAt_some k a.eval o (hd o (List.mem_cons_self ..))]
        exact xA ih h
      · exact absurd h.2 hQ
    · rename_i hw
      rw [if_neg hw]
      exact ⟨fun _ _ => trivial, ih _ _ h⟩
end
def lx : Op → Bool
 | .defer _ => false
 | _ => true
section
variable {P : Program} {Q : Exit → Act → World → Prop} {N : Nd} {L : List (Nat × Value)} {w : World} {n : Nat}
theorem wV {α : Type} {B b : Nat} {Kp : World → World → Prop} {I : List α → World → Prop} {Ix : Code → List α → World → Prop} {xs : List α} {W : World} : ¬ LetsOut (Exit.inBlock b (ownPostG B Kp I Ix xs W)) := fun ⟨_, _, h⟩ => h
theorem AM {α : Type} {g : Operand} {p x r0 r1 b gf M : Nat} {Vo : TypeId} {Vm : String} {Vl : Array Edge} {lb : Array Value} {l : List Oper} {enc : α → Value} {Kp : World → World → Prop} {S Sp : List α → Prop}
  (hn : 1 ≤ n) (hg : ev L g = some (.func (.func gf) #[] lb)) (eg : ∀ args w, (callFunc gf args).run P w = .ok (.enter gf args) w)
  (hseq : SeqStopsK Fence.wide (n - 1) P gf lb (fun v => #[enc v]) Kp S Sp M w)
  (hKt : ∀ {A B C : World}, Kp A B → Kp B C → Kp A C) (hKb : ∀ (W : World) (l : Nat) (o o' : Obj), w.heap.size ≤ l → W.heap[l]? = some o → o.isCells = false → o.isWalk = false → Kp W (W.putObj l o'))
  (I : List α → World → Prop) (hI : OwnFrom w.heap.size I) (h0 : I [] w) (hp : Nat.ble (p + 1) N.n = true) (hx : Nat.ble (x + 1) N.n = true) (hdl : l.all (fun o => lx o.op) = true)
  (hbody : ∀ (Q' : Exit → Act → World → Prop) (pre : List α) (v : α) (W : World), I pre W → pre.length < M → (∀ {N' : Nd} {L' : List (Nat × Value)} {W' : World}, KeepsFrom w.heap.size W W' → Kp W W' → I (pre ++ [v]) W' → WQ Q' .normal N' L' W') → WL P l.toArray Q' l ⟨N.n, []⟩ ((x, enc v) :: (p, enc v) :: L) W)
  (hdone : ∀ (D : Nat) (xs : List α) (W : World), w.heap.size ≤ D → S xs → I xs W → W.heap[D]? = some (.deferred (some [])) → WQ Q .normal ⟨N.n, { target := .collected D, args := #[] } :: N.ds⟩ L W) :
  WC P Q (.rangeFunc g #[p] (.region r0 #[⟨some x, .assign (.tmp p), Vo, Vm, Vl, none⟩] false) (.block b (.region r1 l.toArray false))) N L w := by
 intro a ha
 rw [← wpIn_wide (n := n)]
 have Vp : p < a.tmps.size := by rw [ha.size]; exact Nat.le_of_ble_eq_true hp
 have fr : ∀ v, Fr ⟨N.n, []⟩ ((x, enc v) :: (p, enc v) :: L) { tmps := (a.tmps.setIfInBounds p (enc v)).setIfInBounds x (enc v), defers := [] } := fun v => by
  have h1 : Fr ⟨N.n, []⟩ L { tmps := a.tmps, defers := [] } := ⟨ha.size, rfl, ha.has⟩
  exact (h1.put hp (enc v)).put hx (enc v)
 refine wpIn_rangeFunc_ownG rfl hn (ha.ev hg) trivial eg hseq hKt hKb (Below.refl _ _) (fun _ => rfl) I (fun _ _ _ => False) hI (fun _ _ _ _ _ hs _ _ => hs) h0 (fun v => { tmps := (a.tmps.setIfInBounds p (enc v)).setIfInBounds x (enc v), defers := [] }) ?_ ?_ ?_ ?_
 ·intro k v W _ hK
  refine wpIn_region_list ?_
  refine wpListIn_plain rfl fun K' Vq => ?_
  refine ⟨fun _ _ => trivial, ?_⟩
  rw [show (Fence.wide.inRound k).round = some k from rfl, Oper.semAt_some k _ _ (fun c e => by cases e)]
  have e : ∀ ρ : Operand → Value, (execOp ρ ⟨some x, .assign (.tmp p), Vo, Vm, Vl, none⟩).run P W = .ok (.value (ρ (.tmp p))) W := fun ρ => by simp [execOp]
  rw [e]
  refine Vq _ _ ?_
  simpa [wpListIn, Act.put, Act.eval, Vp, Exit.then] using hK
 ·intro k pre v W Vn hl
  refine wpIn_block (wpIn_region_lit (so wV ?_ ?_))
  ·intro o ho c e
   have := List.all_eq_true.1 hdl o ho
   rw [e] at this
   cases this
  ·exact hbody _ pre v W Vn hl (fun h1 h2 h3 _ _ => ⟨h1, h2, h3⟩) _ (fr v)
 ·intro D xs W hD hS Vn hK
  exact hdone D xs W hD hS Vn hK _ ⟨ha.size, by rw [ha.defers], ha.has⟩
 ·intro D c pre W _ _ h _
  exact h.elim
end
/-! A function that holds such a loop: what it owes where it returns. -/
section
variable {P : Program} {w : World} {f : FuncId} {fn : Func} {c : Code} {args : Array Value} {R : Ending → World → Prop}
theorem jI (n N : Nat) (hf : P.funcs[f]? = some fn) (hb : fn.body = some c) (hN : fn.ntmps = N) (hsz : Nat.ble args.size N = true)
  (h : ∀ Q : Exit → Act → World → Prop, (∀ {e : Exit} {a : Act} {w : World}, bodyPostM Fence.wide n P fn R e a w → Q e a w) → WC P Q c ⟨N, []⟩ (eX 0 args.toList) w) : Calls P f args w R := by
 subst hN
 exact (callsIn_wide (n := n)).1 (callsIn_of_wp_marks hf hb trivial (wpIn_wide.2 (h _ (fun h => h) _ (tC hsz))))
theorem vI (n N : Nat) {t : Tmp} (hf : P.funcs[f]? = some fn) (hb : fn.body = some c) (hN : fn.ntmps = N) (hr : fn.results = #[.tmp t]) (hsz : Nat.ble args.size N = true)
  (h : ∀ Q : Exit → Act → World → Prop, (∀ {N : Nat} {L : List (Nat × Value)} {w : World} {v : Value}, look L t = some v → R (.returned v) w → WQ Q .ret (⟨N, []⟩ : Nd) L w) →
   (∀ {N D : Nat} {L : List (Nat × Value)} {w : World} {v : Value}, look L t = some v → w.heap[D]? = some (.deferred (some [])) → R (.returned v) (w.putObj D (.deferred none)) → WQ Q .ret (⟨N, [{ target := .collected D, args := #[] }]⟩ : Nd) L w) → WC P Q c ⟨N, []⟩ (eX 0 args.toList) w) : Calls P f args w R :=
 jI n N hf hb hN hsz fun Q hQ => h Q
  (fun hv hR a ha => hQ (by
   show LeavesInM _ _ _ _ _ _ a.defers _ _
   rw [ha.defers]
   exact ⟨_, results_tmp hr _ _ _, by rw [cE (ha.has _ _ hv)]; exact hR⟩))
  (fun hv hK hR a ha => hQ (by
   show LeavesInM _ _ _ _ _ _ a.defers _ _
   rw [ha.defers]
   refine ⟨by simp, .inl ⟨_, _, rfl, run_takeDeferred hK, ?_⟩⟩
   exact ⟨_, results_tmp hr _ _ _, by rw [cE (ha.has _ _ hv)]; exact hR⟩))
end
theorem ux {P : Program} {w : World} {f : FuncId} {fn : Func} {c : Code} {args : Array Value} {R : Ending → World → Prop} {ty : TypeId} {s : Nat} {d : TypeDesc} (n N : Nat) {u : Tmp} (hf : P.funcs[f]? = some fn) (hb : fn.body = some c) (hN : fn.ntmps = N) (hr : fn.results = #[.cell u ty]) (hu : P.underlying ty = some d)
  (hd : (match d with | .struct _ | .array _ _ => true | _ => false) = true) (hs : (P.info? ty).map (·.size) = some s) (hsz : Nat.ble args.size N = true)
  (h : ∀ Q : Exit → Act → World → Prop, (∀ {N D : Nat} {L : List (Nat × Value)} {w : World} {g : Nat} {e : TypeId} {cs : Array Value}, look L u = some (.pointer (some ⟨g, 0, none⟩)) → w.heap[D]? = some (.deferred (some [])) → ao w g e cs → cs.size = s → R (.returned (.agg cs)) (w.putObj D (.deferred none)) →
   WQ Q .ret (⟨N, [{ target := .collected D, args := #[] }]⟩ : Nd) L w) → WC P Q c ⟨N, []⟩ (eX 0 args.toList) w) : Calls P f args w R :=
 jI n N hf hb hN hsz fun Q hQ => h Q
  (fun {N D L w g e cs} hv hK hg hz hR a ha => hQ (by
   show LeavesInM _ _ _ _ _ _ a.defers _ _
   rw [ha.defers]
   refine ⟨by simp, .inl ⟨_, _, rfl, run_takeDeferred hK, ?_⟩⟩
   have hne : g ≠ D := fun e' => by subst e'; rw [show w.heap[g]? = _ from hg] at hK; cases hK
   have Vl : ao (w.putObj D (.deferred none)) g e cs := (World.putObj_heap_other hne).trans hg
   exact ⟨_, results_cell_row hr _ _ _ _ _ _ _ (cE (ha.has _ _ hv)) Vl hu hd (by rw [hz]; exact hs), hR⟩))
/-! An iterator's region that calls yield. -/
section
variable {P : Program} {ops : Array Oper} {Q : Exit → Act → World → Prop} {rest : List Oper} {N : Nd} {L : List (Nat × Value)} {w : World} {n : Nat}
def Eg (n : Nat) (P : Program) (ops : Array Oper) (Q : Exit → Act → World → Prop) (l : List Oper) (N : Nd) (L : List (Nat × Value)) (w : World) : Prop := ∀ a, Fr N L a → wpListIn Fence.wide n P ops Q l a w
theorem kT (n : Nat) {id : Nat} {l : List Oper} (h : Eg n P l.toArray Q l N L w) : WC P Q (.region id l.toArray false) N L w := fun a ha => (wpIn_wide (n := n)).1 (wpIn_region_lit (h a ha))
theorem sc (h : WQ Q .normal N L w) : Eg n P ops Q [] N L w := h
theorem db {op : Op} {ty : TypeId} {v : Value} {d : Tmp} {pos : String} {after : Array Edge} (h : Y P L w op ty v) (hd : Nat.ble (d + 1) N.n = true) (hr : Eg n P ops Q rest N ((d, v) :: L) w) :
  Eg n P ops Q (⟨some d, op, ty, pos, after, none⟩ :: rest) N L w := by
 intro a ha
 refine wpListIn_plain rfl fun K hK => ⟨fun _ _ => trivial, ?_⟩
 rw [show Fence.wide.round = none from rfl, Oper.semAt_none, h a.eval (fun _ _ hx => ha.ev hx) w (Ext.refl w)]
 exact hK _ _ (hr _ (ha.put hd v))
theorem qU {x y : Operand} {ats : Array TypeId} {ty : TypeId} {u : Value} {lp : Nat} {R : Ending → World → Prop} {d : Tmp} {pos : String} {after : Array Edge} (hx : ev L x = some (.func (.yield lp) #[] #[])) (hy : ev L y = some u)
  (h : YieldAt Fence.wide (n - 1) P lp #[u] w R) (hd : Nat.ble (d + 1) N.n = true) (hr : ∀ e w', R e w' → ∃ v, e = .returned v ∧ Eg n P ops Q rest N ((d, v) :: L) w') :
  Eg n P ops Q (⟨some d, .call { callee := .value x, args := #[y], argTypes := ats }, ty, pos, after, none⟩ :: rest) N L w := by
 intro a ha
 refine wpListIn_plain rfl fun K hK => ⟨fun _ _ => trivial, ?_⟩
 obtain ⟨fn, tmps, assign, body, Vl, hR⟩ := h
 rw [show Fence.wide.round = none from rfl, Oper.semAt_none]
 have e : (execOp a.eval ⟨some d, .call { callee := .value x, args := #[y], argTypes := ats }, ty, pos, after, none⟩).run P w = .ok (.round lp fn tmps assign body) w := by
  simp [execOp, resolve, invoke, Deferred.ofValue, ha.ev hx, ha.ev hy, Vl]
 rw [e]
 refine ⟨fun e => by simp [Fence.wide] at e, hR.mono ?_⟩
 intro e w' Vm
 obtain ⟨v, rfl, hv⟩ := hr e w' Vm
 exact hK _ _ (hv _ (ha.put hd v))
end
theorem kF {F : Fence} {m : Nat} {P : Program} {l : Nat} {args : Array Value} {W : World} {Rt Rf : World → Prop} (h : YieldAt F m P l args W fun e W' => (e = .returned (.bool true) ∧ Rt W') ∨ (e = .returned (.bool false) ∧ Rf W')) :
  YieldAt F m P l args W fun e W' => ∃ b, e = .returned (.bool b) ∧ (b = true → Rt W') ∧ (b = false → Rf W') := by
 obtain ⟨fn, tmps, assign, body, hy, hR⟩ := h
 refine ⟨fn, tmps, assign, body, hy, hR.mono ?_⟩
 rintro e _ (⟨rfl, h⟩ | ⟨rfl, h⟩)
 ·exact ⟨true, rfl, fun _ => h, fun e => by cases e⟩
 ·exact ⟨false, rfl, fun e => (by cases e), fun _ => h⟩
theorem tK {P : Program} {L : List (Nat × Value)} {w : World} {t ty e : TypeId} {x y z u : Operand} {g o n c' j h m s : Nat} {k k2 k3 : IntKind} {a b d : Int} (hx : ev L x = some (.slice (some ⟨g, o, none⟩) n c')) (hy : ev L y = some (.int k a)) (hz : ev L z = some (.int k2 b)) (hv : ev L u = some (.int k3 d)) (hu : P.underlying t = some (.slice e)) (hs : (P.info? e).map (·.size) = some s) (ha : a = (j : Int)) (Vl : b = (h : Int)) (hd : d = (m : Int)) (hj : j ≤ h) (hh : h ≤ m) (hm : m ≤ c') (hjm : j < m) :
  Y P L w (.slice t x (some y) (some z) (some u)) ty (.slice (some ⟨g, o + j * s, none⟩) (h - j) (m - j)) := fun ρ hρ w' _ _ _ _ _ => by
 subst ha; subst Vl; subst hd
 have hb : ((Instr.sliceBounds true n c' (some (.int k j)) (some (.int k2 h)) (some (.int k3 m))).run P w') = .ok (j, h, m) w' := by
  simp [Instr.sliceBounds, Instr.sliceBound, asIntOf, hj, hh, hm]
 have hne : ¬ (m = j) := by omega
 simp [execOp, hρ _ _ hx, hρ _ _ hy, hρ _ _ hz, hρ _ _ hv, Instr.sliceAt, Instr.slice, run_underlying hu, hb, bo hs, hne, Addr.add]
end
section
open Go.RowKit Tryz
attribute [local irreducible] Y Ef WL WC WK WQ WM cx WN WF cT
def sE (g off K j : Nat) : Value := .slice (some ⟨g, off + K * j, none⟩) K K
def rO (b1 b2 : Nat) (W W' : World) : Prop := W.heap.size ≤ W'.heap.size ∧ W'.heap[b1]? = W.heap[b1]? ∧ W'.heap[b2]? = W.heap[b2]?
theorem rO.trans {b1 b2 : Nat} {A B C : World} (h : rO b1 b2 A B) (k : rO b1 b2 B C) : rO b1 b2 A C := ⟨Nat.le_trans h.1 k.1, k.2.1.trans h.2.1, k.2.2.trans h.2.2⟩
theorem rO.Lk {b1 b2 : Nat} {A B : World} {t : TypeId} {cs : Array Value} (h : rO b1 b2 A B) (D : ao A b1 t cs) : ao B b1 t cs := h.2.1.trans D
theorem rO.Lr {b1 b2 : Nat} {A B : World} {t : TypeId} {cs : Array Value} (h : rO b1 b2 A B) (D : ao A b2 t cs) : ao B b2 t cs := h.2.2.trans D
theorem fo {A B : World} (h : Ext A B) : A.grownBy B none := ⟨h.os, h.tape, h.output, h.size, fun k hk _ => h.block k hk⟩
theorem vB (n l g off c K m b1 b2 : Nat) (J Jx : List (Fin m) → World → Prop) (w : World) (hK : 1 ≤ K) (hc : K * m ≤ c) (hm : K * m ≤ 70368744177664) (hab : AbidesFrom w.heap.size J)
  (C1 : ao w b1 23 #[.slice (some ⟨g, off, none⟩) (K * m) c]) (C2 : ao w b2 3 #[.int .i64 (K : Int)])
  (hY : ∀ pre x W1, J pre W1 → pre.length < m → YieldAt Fence.wide (n - 1) Tryz.prog l #[sE g off K x.val] W1 fun e W' => (e = .returned (.bool true) ∧ J (pre ++ [x]) W' ∧ rO b1 b2 W1 W') ∨ (e = .returned (.bool false) ∧ Jx (pre ++ [x]) W'))
  (h0 : J [] w) :
  Ct 228 #[.func (.yield l) #[] #[], .pointer (some ⟨b1, 0, none⟩), .pointer (some ⟨b2, 0, none⟩)] w fun e W' => (∃ v, e = .returned v) ∧ ((∃ xs, xs = List.finRange m ∧ J xs W') ∨ (∃ pre : List (Fin m), True ∧ Jx pre W')) := by
 refine jG 31 func228 rfl rfl rfl rfl ?_
 intro _ hret
 refine aU ?_
 refine aF (fun n' L wr => ∃ i : Nat, L = [(0, .func (.yield l) #[] #[]), (1, .pointer (some ⟨b1, 0, none⟩)), (2, .pointer (some ⟨b2, 0, none⟩)), (4, .int .i64 ((K * i : Nat) : Int))] ∧ n' = m - i ∧ (i ≤ m ∧ J ((List.finRange m).take i) wr ∧ ao wr b1 23 #[.slice (some ⟨g, off, none⟩) (K * m) c] ∧ ao wr b2 3 #[.int .i64 (K : Int)])) _ _ ⟨0, rfl, rfl, by omega, h0, C1, C2⟩ Ls ?_
 rintro _ n' L wr ⟨i, rfl, rfl, _, hJ, D1, D2⟩ Vm
 refine aU ?_
 refine al rfl (fun Vn => ?_) (fun Vn => ?_)
 ·have hki : K * i < K * m := by omega
  have hlt : i < m := Nat.lt_of_mul_lt_mul_left hki
  have hge : K * i + K ≤ K * m := by rw [← Nat.mul_succ]; exact Nat.mul_le_mul_left _ hlt
  refine aU ?_
  refine aA Kr 7 rfl ?_; intro Vp ex Vq
  obtain ⟨D1,D2⟩ := aY ex D1 D2
  replace hJ := hab _ _ _ none hJ (fo ex) (fun r e => by cases e)
  refine zm [0, 1, 2] ?_
  refine my 3 rfl (ph (s := 1) rfl rfl Tn.u Kr (j := K * i) rfl Om) ?_
  refine zm [4] ?_
  refine my 5 rfl (Y.as (xY rfl rfl) (congrArg (Value.int .i64) (if_neg Om))) ?_
  refine Cc [6] ?_
  refine au 6 ?_
  refine kT (n) ?_
  refine db (bj rfl) rfl ?_
  refine db (ah rfl underlying23 rfl (D1.get (i := 0) rfl)) rfl ?_
  refine db (bj rfl) rfl ?_
  refine db (bj rfl) rfl ?_
  refine db (bj rfl) rfl ?_
  refine db (aN rfl rfl (br Om Om)) rfl ?_
  refine db (bj rfl) rfl ?_
  refine db (bj rfl) rfl ?_
  refine db (aN rfl rfl (br Om Om)) rfl ?_
  refine db (Y.as (tK (s := 1) rfl rfl rfl rfl underlying23 Kr (j := K * i) (h := K * i + K) (m := K * i + K) rfl Om Om Om Om Om Om) (show _ = sE g off K i from by unfold sE; rw [Nat.mul_one, Nat.add_sub_cancel_left])) rfl ?_
  refine qU rfl rfl ((kF (hY ((List.finRange m).take i) ⟨i, hlt⟩ _ hJ (by rw [List.length_take, List.length_finRange]; omega)))) rfl ?_
  rintro e _ ⟨_, rfl, hbt, hbf⟩
  refine aU ?_
  refine db (kz rfl) rfl ?_
  refine sc ?_
  refine aU ?_
  refine bW rfl (fun Vl => ?_) (fun Vl => ?_)
  ·refine aU ?_
   refine hret (.inl rfl) ?_
   exact ⟨⟨_, rfl⟩, .inr ⟨_, trivial, hbf (by simpa using Vl)⟩⟩
  ·obtain ⟨Vo, hk⟩ := hbt (by simpa using Vl)
   replace D1 := hk.Lk D1
   replace D2 := hk.Lr D2
   refine au 9 ?_
   refine ae ?_
   refine Vm _ _ ⟨i + 1, rfl, rfl, by omega, by rw [List.take_succ_eq_append_getElem (by rw [List.length_finRange]; omega)]; simpa using Vo, D1, D2⟩ Om Ls
 ·refine aU ?_
  refine hret (.inr rfl) ?_
  exact ⟨⟨_, rfl⟩, .inl ⟨_, rfl, by rw [List.take_of_length_le (by rw [List.length_finRange]; exact Nat.le_of_mul_le_mul_left (show K * m ≤ K * i by omega) hK)] at hJ; exact hJ⟩⟩
theorem th (n g off c K m b1 b2 : Nat) (w : World) (hK : 1 ≤ K) (hc : K * m ≤ c) (hm : K * m ≤ 70368744177664)
  (C1 : ao w b1 23 #[.slice (some ⟨g, off, none⟩) (K * m) c]) (C2 : ao w b2 3 #[.int .i64 (K : Int)]) :
  SeqStopsK Fence.wide n Tryz.prog 228 #[.pointer (some ⟨b1, 0, none⟩), .pointer (some ⟨b2, 0, none⟩)] (fun x : Fin m => #[sE g off K x.val]) (rO b1 b2) (fun xs => xs = List.finRange m) (fun _ => True) m w :=
 fun l J Jx W hW hJ _ hY h0 => callsIn_wide.2 (vB n l g off c K m b1 b2 J Jx W hK hc hm hJ (C1.ext hW) (C2.ext hW) hY h0)
theorem zI (g off c K m : Nat) (w : World) (hK : 1 ≤ K) :
  Ct 176 #[.slice (some ⟨g, off, none⟩) (K * m) c, .int .i64 (K : Int)] w fun e w' => ∃ b1 b2, e = .returned (.func (.func 228) #[] #[.pointer (some ⟨b1, 0, none⟩), .pointer (some ⟨b2, 0, none⟩)]) ∧ w.heap.size ≤ b1 ∧ w.heap.size ≤ b2 ∧
   ao w' b1 23 #[.slice (some ⟨g, off, none⟩) (K * m) c] ∧ ao w' b2 3 #[.int .i64 (K : Int)] ∧ Ext w w' := by
 have E := Ext.refl w
 refine aj 9 func176 rfl rfl rfl rfl ?_
 intro _ hret
 refine aU ?_
 intro _ g1 B1 Vl ex
 replace E := E.ext ex
 have Vm := E.size
 refine aU ?_
 intro _ g2 B2 _ ex
 obtain ⟨E,B1⟩ := aY ex E B1
 refine au 15 ?_
 refine ak (jc rfl) ?_
 refine aU ?_
 refine hret rfl ?_
 exact ⟨g1, g2, rfl, Vl, by omega, B1, B2, E⟩
end
section
open Go.RowKit Tryz
def ri (w : World) (D : Nat) : Prop := w.heap[D]? = some (.deferred (some []))
theorem ri.lt {w : World} {D : Nat} (h : ri w D) : D < w.heap.size := (Array.getElem?_eq_some_iff.1 h).1
theorem ri.ext {w w' : World} {D : Nat} (h : ri w D) (k : Ext w w') : ri w' D := (k.block D h.lt).trans h
theorem tQ {B g : Nat} {W W' : World} (hg : W.grownBy W' (some g)) (h : g < B) : KeepsFrom B W W' := KeepsFrom.of_grownBy hg (fun j e => by injection e with e; omega)
theorem yU {b1 b2 g : Nat} {W W' : World} (hg : W.grownBy W' (some g)) (h1 : b1 < W.heap.size) (h2 : b2 < W.heap.size) (n1 : b1 ≠ g) (n2 : b2 ≠ g) : rO b1 b2 W W' :=
 ⟨hg.size, hg.block b1 h1 (fun e => n1 (by injection e)), hg.block b2 h2 (fun e => n2 (by injection e))⟩
theorem oo {b1 b2 : Nat} (W : World) (l : Nat) (o o' : Obj) (h1 : b1 < l) (h2 : b2 < l) (h : W.heap[l]? = some o) : rO b1 b2 W (W.putObj l o') :=
 ⟨by simp [World.putObj], World.putObj_heap_other Om, World.putObj_heap_other Om⟩
theorem enters {P : Program} {f : FuncId} {fn : Func} {c : Code} (hf : P.funcs[f]? = some fn) (hb : fn.body = some c) (hn : (fn.name == "runtime.NumGoroutine") = false) (args : Array Value) (w : World) : (callFunc f args).run P w = .ok (.enter f args) w := by
 have Vl : ¬ fn.name = "runtime.NumGoroutine" := by simpa using hn
 simp [callFunc, hf, hb, Vl]
theorem cX {β : Type} {B g : Nat} {t : TypeId} {f : β → Array Value} : OwnFrom B (fun s W => ao W g t (f s)) := fun s W W' row hs hg hr =>
 (grownBy_keeps_cells hg (fun r e => (hr r e).2) hs rfl).trans hs
theorem Bd {β : Type} {B : Nat} {A : Oa} {n : Nat} {xs : Lb} : OwnFrom B (fun (_ : β) W => Bs W A n xs) := fun s W W' row hs hg hr => by
 refine ⟨hs.1, ?_⟩
 rcases hs.2 with h | ⟨b, off, hA, hc⟩
 ·exact .inl h
 ·exact .inr ⟨b, off, hA, fun j u hj => cell_kept (hc j u hj) hg (fun r e => (hr r e).2)⟩
theorem ly {β : Type} {B k : Nat} : OwnFrom B (fun (_ : β) W => k ≤ W.heap.size) := fun _ _ _ _ hs hg _ => Nat.le_trans hs hg.size
end
end Go.Proofs.YtgfafidlkldeaaaGreat
