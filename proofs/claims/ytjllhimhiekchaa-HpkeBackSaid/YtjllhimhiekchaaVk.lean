/- A region that draws its order, with blocks that every operation keeps. No conditions: plain lemmas of the model. -/
import Derived.Test.YtjllhimhiekchaaVc7
import Derived.RangeFuncNested
import Derived.RangeFuncBound
import Derived.RangeFuncCalls
import Derived.RangeFuncLeaves
import Derived.Test.YtjllhimhiekchaaRow
import Derived.Test.YtjllhimhiekchaaLib
import Derived.Test.YtjllhimhiekchaaVs
/- A range over a function whose body is one region: a law for the small judgements. No conditions: plain lemmas of the model. slices.Chunk of bytes and its iterator: what it gives, where the length is so many times the size. What a loop over a function's pieces asks of its body: small laws. -/
namespace Go.Proofs.Ytjllhimhiekchaa
section
open Go.RowKit
section
variable {P : Program} {ops : Array Oper} {Q : Exit → Act → World → Prop} {n k : Nat} {a : Act} {w : World}
theorem rows_in {row : String} {args : Array Value} {R : Value → World → Prop} (h : Rows P row args w R) : RowsIn Fence.wide n P row args w R :=
  fun c cs _ => let ⟨v, w', r, s⟩ := h c cs; ⟨v, w', r, stepsIn_wide.2 s⟩
theorem upon_in {o : Oper} {next next' : Act → World → Prop} (hn : ∀ a w, next a w → next' a w) : ∀ {r : Result Next}, o.upon P a next Q r → o.uponIn (Fence.wide.inRound k) n P a next' Q r
  | .ok (.value v) w', h => hn _ _ h
  | .ok .skip w', h => hn _ _ h
  | .ok (.defer d) w', h => hn _ _ h
  | .ok (.enter f args) w', h => by
    refine ⟨fun e => by simp [Fence.wide] at e, CallsIn.inRound k (callsIn_wide.2 (Calls.mono h ?_))⟩
    intro e w'' hr
    cases e with
    | returned v => exact hn _ _ hr
    | panicked c => exact hr
    | outgrown => exact hr
  | .ok (.row row args) w', h => ⟨fun e => by simp [Fence.wide] at e, (rows_in (h.mono fun v w'' hr => hn _ _ hr) : RowsIn Fence.wide (n - 1) P row args w' _)⟩
  | .halt (.panic v) w', h => h
theorem list_in (hQ : ¬ LetsOut Q) : ∀ {l : List Oper} {a : Act} {w : World}, (∀ o ∈ l, ∀ c, o.op ≠ .defer c) → wpList P ops Q l a w → wpListIn (Fence.wide.inRound k) n P ops Q l a w
  | [], a, w, _, h => h
  | o :: l, a, w, hd, h => by
    have ih := fun a w => @list_in hQ l a w (fun o ho => hd o (List.mem_cons_of_mem _ ho))
    unfold wpList at h
    unfold wpListIn
    split at h
    · rename_i hw
      rw [if_pos hw]
      rcases h with h | h
      · refine ⟨fun _ _ => trivial, ?_⟩
        rw [show (Fence.wide.inRound k).round = some k from rfl, Oper.semAt_some k a.eval o (hd o (List.mem_cons_self ..))]
        exact upon_in ih h
      · exact absurd h.2 hQ
    · rename_i hw
      rw [if_neg hw]
      exact ⟨fun _ _ => trivial, ih _ _ h⟩
end
def noDefer : Op → Bool
  | .defer _ => false
  | _ => true
section
variable {P : Program} {Q : Exit → Act → World → Prop} {N : Nd} {L : List (Nat × Value)} {w : World} {n : Nat}
end
/-! A function that holds such a loop: what it owes where it returns. -/
section
variable {P : Program} {w : World} {f : FuncId} {fn : Func} {c : Code} {args : Array Value} {R : Ending → World → Prop}
theorem vc_enterM (n N : Nat) (hf : P.funcs[f]? = some fn) (hb : fn.body = some c) (hN : fn.ntmps = N) (hsz : Nat.ble args.size N = true)
    (h : ∀ Q : Exit → Act → World → Prop, (∀ {e : Exit} {a : Act} {w : World}, bodyPostM Fence.wide n P fn R e a w → Q e a w) → WC P Q c ⟨N, []⟩ (slots 0 args.toList) w) : Calls P f args w R := by
  subst hN
  exact (callsIn_wide (n := n)).1 (callsIn_of_wp_marks hf hb trivial (wpIn_wide.2 (h _ (fun h => h) _ (fr_enter hsz))))
/-- One result in a slot. -/
theorem vc_enterM1 (n N : Nat) {t : Tmp} (hf : P.funcs[f]? = some fn) (hb : fn.body = some c) (hN : fn.ntmps = N) (hr : fn.results = #[.tmp t]) (hsz : Nat.ble args.size N = true)
    (h : ∀ Q : Exit → Act → World → Prop, (∀ {N : Nat} {L : List (Nat × Value)} {w : World} {v : Value}, look L t = some v → R (.returned v) w → WQ Q .ret (⟨N, []⟩ : Nd) L w) →
      (∀ {N D : Nat} {L : List (Nat × Value)} {w : World} {v : Value}, look L t = some v → w.heap[D]? = some (.deferred (some [])) → R (.returned v) (w.putObj D (.deferred none)) → WQ Q .ret (⟨N, [{ target := .collected D, args := #[] }]⟩ : Nd) L w) → WC P Q c ⟨N, []⟩ (slots 0 args.toList) w) : Calls P f args w R :=
  vc_enterM n N hf hb hN hsz fun Q hQ => h Q
    (fun hv hR a ha => hQ (by
      show LeavesInM _ _ _ _ _ _ a.defers _ _
      rw [ha.defers]
      exact ⟨_, results_tmp hr _ _ _, by rw [getD_of (ha.has _ _ hv)]; exact hR⟩))
    (fun hv hK hR a ha => hQ (by
      show LeavesInM _ _ _ _ _ _ a.defers _ _
      rw [ha.defers]
      refine ⟨by simp, .inl ⟨_, _, rfl, run_takeDeferred hK, ?_⟩⟩
      exact ⟨_, results_tmp hr _ _ _, by rw [getD_of (ha.has _ _ hv)]; exact hR⟩))
end
/-! An iterator's region that calls yield. -/
section
variable {P : Program} {ops : Array Oper} {Q : Exit → Act → World → Prop} {rest : List Oper} {N : Nd} {L : List (Nat × Value)} {w : World} {n : Nat}
def WLI (n : Nat) (P : Program) (ops : Array Oper) (Q : Exit → Act → World → Prop) (l : List Oper) (N : Nd) (L : List (Nat × Value)) (w : World) : Prop := ∀ a, Fr N L a → wpListIn Fence.wide n P ops Q l a w
theorem wci_region (n : Nat) {id : Nat} {l : List Oper} (h : WLI n P l.toArray Q l N L w) : WC P Q (.region id l.toArray false) N L w := fun a ha => (wpIn_wide (n := n)).1 (wpIn_region_lit (h a ha))
theorem wli_nil (h : WQ Q .normal N L w) : WLI n P ops Q [] N L w := h
theorem wli_y {op : Op} {ty : TypeId} {v : Value} {d : Tmp} {pos : String} {after : Array Edge} (h : Y P L w op ty v) (hd : Nat.ble (d + 1) N.n = true) (hr : WLI n P ops Q rest N ((d, v) :: L) w) :
    WLI n P ops Q (⟨some d, op, ty, pos, after, none⟩ :: rest) N L w := by
  intro a ha
  refine wpListIn_plain rfl fun K hK => ⟨fun _ _ => trivial, ?_⟩
  rw [show Fence.wide.round = none from rfl, Oper.semAt_none, h a.eval (fun _ _ hx => ha.ev hx) w (Ext.refl w)]
  exact hK _ _ (hr _ (ha.put hd v))
theorem wli_yield {x y : Operand} {ats : Array TypeId} {ty : TypeId} {u : Value} {lp : Nat} {R : Ending → World → Prop} {d : Tmp} {pos : String} {after : Array Edge} (hx : ev L x = some (.func (.yield lp) #[] #[])) (hy : ev L y = some u)
    (h : YieldAt Fence.wide (n - 1) P lp #[u] w R) (hd : Nat.ble (d + 1) N.n = true) (hr : ∀ e w', R e w' → ∃ v, e = .returned v ∧ WLI n P ops Q rest N ((d, v) :: L) w') :
    WLI n P ops Q (⟨some d, .call { callee := .value x, args := #[y], argTypes := ats }, ty, pos, after, none⟩ :: rest) N L w := by
  intro a ha
  refine wpListIn_plain rfl fun K hK => ⟨fun _ _ => trivial, ?_⟩
  obtain ⟨fn, tmps, assign, body, hy', hR⟩ := h
  rw [show Fence.wide.round = none from rfl, Oper.semAt_none]
  have e : (execOp a.eval ⟨some d, .call { callee := .value x, args := #[y], argTypes := ats }, ty, pos, after, none⟩).run P w = .ok (.round lp fn tmps assign body) w := by
    simp [execOp, resolve, invoke, Deferred.ofValue, ha.ev hx, ha.ev hy, hy']
  rw [e]
  refine ⟨fun e => by simp [Fence.wide] at e, hR.mono ?_⟩
  intro e w' hr'
  obtain ⟨v, rfl, hv⟩ := hr e w' hr'
  exact hK _ _ (hv _ (ha.put hd v))
end
theorem yield_bool {F : Fence} {m : Nat} {P : Program} {l : Nat} {args : Array Value} {W : World} {Rt Rf : World → Prop} (h : YieldAt F m P l args W fun e W' => (e = .returned (.bool true) ∧ Rt W') ∨ (e = .returned (.bool false) ∧ Rf W')) :
    YieldAt F m P l args W fun e W' => ∃ b, e = .returned (.bool b) ∧ (b = true → Rt W') ∧ (b = false → Rf W') := by
  obtain ⟨fn, tmps, assign, body, hy, hR⟩ := h
  refine ⟨fn, tmps, assign, body, hy, hR.mono ?_⟩
  rintro e w' (⟨rfl, h⟩ | ⟨rfl, h⟩)
  · exact ⟨true, rfl, fun _ => h, fun e => by cases e⟩
  · exact ⟨false, rfl, fun e => (by cases e), fun _ => h⟩
theorem y_cutlhm {P : Program} {L : List (Nat × Value)} {w : World} {t ty e : TypeId} {x y z u : Operand} {g o n c' j h m s : Nat} {k k2 k3 : IntKind} {a b d : Int} (hx : ev L x = some (.slice (some ⟨g, o, none⟩) n c')) (hy : ev L y = some (.int k a)) (hz : ev L z = some (.int k2 b)) (hv : ev L u = some (.int k3 d)) (hu : P.underlying t = some (.slice e)) (hs : (P.info? e).map (·.size) = some s) (ha : a = (j : Int)) (hb' : b = (h : Int)) (hd : d = (m : Int)) (hj : j ≤ h) (hh : h ≤ m) (hm : m ≤ c') (hjm : j < m) :
    Y P L w (.slice t x (some y) (some z) (some u)) ty (.slice (some ⟨g, o + j * s, none⟩) (h - j) (m - j)) := fun ρ hρ w' _ _ _ _ _ => by
  subst ha; subst hb'; subst hd
  have hb : ((Instr.sliceBounds true n c' (some (.int k j)) (some (.int k2 h)) (some (.int k3 m))).run P w') = .ok (j, h, m) w' := by
    simp [Instr.sliceBounds, Instr.sliceBound, asIntOf, hj, hh, hm]
  have hne : ¬ (m = j) := by omega
  simp [execOp, hρ _ _ hx, hρ _ _ hy, hρ _ _ hz, hρ _ _ hv, Instr.sliceAt, Instr.slice, run_underlying hu, hb, size_of_info hs, hne, Addr.add]
end
section
open Go.RowKit
attribute [local irreducible] Y Ef WL WC WK WQ WM OpM WN WF OpN
/-- What a round leaves the iterator. -/
def KpB (b1 b2 : Nat) (W W' : World) : Prop := W.heap.size ≤ W'.heap.size ∧ W'.heap[b1]? = W.heap[b1]? ∧ W'.heap[b2]? = W.heap[b2]?
theorem KpB.trans {b1 b2 : Nat} {A B C : World} (h : KpB b1 b2 A B) (k : KpB b1 b2 B C) : KpB b1 b2 A C := ⟨Nat.le_trans h.1 k.1, k.2.1.trans h.2.1, k.2.2.trans h.2.2⟩
theorem KpB.blk1 {b1 b2 : Nat} {A B : World} {t : TypeId} {cs : Array Value} (h : KpB b1 b2 A B) (D : Blk A b1 t cs) : Blk B b1 t cs := h.2.1.trans D
theorem KpB.blk2 {b1 b2 : Nat} {A B : World} {t : TypeId} {cs : Array Value} (h : KpB b1 b2 A B) (D : Blk A b2 t cs) : Blk B b2 t cs := h.2.2.trans D
theorem grown_ext {A B : World} (h : Ext A B) : A.grownBy B none := ⟨h.os, h.tape, h.output, h.size, fun k hk _ => h.block k hk⟩
end
section
open Go.RowKit
/-- The block of the rounds' deferred calls. -/
def Dfr (w : World) (D : Nat) : Prop := w.heap[D]? = some (.deferred (some []))
theorem Dfr.lt {w : World} {D : Nat} (h : Dfr w D) : D < w.heap.size := (Array.getElem?_eq_some_iff.1 h).1
theorem Dfr.ext {w w' : World} {D : Nat} (h : Dfr w D) (k : Ext w w') : Dfr w' D := (k.block D h.lt).trans h
theorem kpb_put {b1 b2 : Nat} (W : World) (l : Nat) (o o' : Obj) (h1 : b1 < l) (h2 : b2 < l) (h : W.heap[l]? = some o) : KpB b1 b2 W (W.putObj l o') :=
  ⟨by simp [World.putObj], World.putObj_heap_other (by omega), World.putObj_heap_other (by omega)⟩

theorem enters {P : Program} {f : FuncId} {fn : Func} {c : Code} (hf : P.funcs[f]? = some fn) (hb : fn.body = some c) (hn : (fn.name == "runtime.NumGoroutine") = false) (args : Array Value) (w : World) : (callFunc f args).run P w = .ok (.enter f args) w := by
  have hn' : ¬ fn.name = "runtime.NumGoroutine" := by simpa using hn
  simp [callFunc, hf, hb, hn']
theorem own_blk {β : Type} {B g : Nat} {t : TypeId} {f : β → Array Value} : OwnFrom B (fun s W => Blk W g t (f s)) := fun s W W' row hs hg hr =>
  (grownBy_keeps_cells hg (fun r e => (hr r e).2) hs rfl).trans hs
theorem own_size {β : Type} {B k : Nat} : OwnFrom B (fun (_ : β) W => k ≤ W.heap.size) := fun _ _ _ _ hs hg _ => Nat.le_trans hs hg.size
end
end Go.Proofs.Ytjllhimhiekchaa

/- slices.Chunk of bytes of any number: the last piece may be shorter. No conditions: contracts of functions. -/
namespace Go.Proofs.Ytjllhimhiekchaa
open Go.RowKit
attribute [local irreducible] Y Ef WL WC WK WQ WM OpM WN WF OpN
/-- The j-th piece. -/
def pieceW (g off K T j : Nat) : Value := .slice (some ⟨g, off + K * j, none⟩) (min K (T - K * j)) (min K (T - K * j))
theorem chunkG_any (n l g off c K T m b1 b2 : Nat) (A : Option Addr) (J Jx : List (Fin m) → World → Prop) (w : World) (hK : 1 ≤ K) (hA : 0 < T → A = some ⟨g, off, none⟩) (hc : T ≤ c) (hm : K * m ≤ 70368744177664) (hT : T ≤ K * m) (hj : ∀ j, j < m → K * j < T) (hab : AbidesFrom w.heap.size J)
    (C1 : Blk w b1 22 #[.slice A T c]) (C2 : Blk w b2 3 #[.int .i64 (K : Int)])
    (hY : ∀ pre x W1, J pre W1 → pre.length < m → YieldAt Fence.wide (n - 1) Try.prog l #[pieceW g off K T x.val] W1 fun e W' => (e = .returned (.bool true) ∧ J (pre ++ [x]) W' ∧ KpB b1 b2 W1 W') ∨ (e = .returned (.bool false) ∧ Jx (pre ++ [x]) W'))
    (h0 : J [] w) :
    Calls Try.prog 80 #[.func (.yield l) #[] #[], .pointer (some ⟨b1, 0, none⟩), .pointer (some ⟨b2, 0, none⟩)] w fun e W' => (∃ v, e = .returned v) ∧ ((∃ xs, xs = List.finRange m ∧ J xs W') ∨ (∃ pre : List (Fin m), True ∧ Jx pre W')) := by
  refine vc_enter0 31 Try.func80 rfl rfl rfl rfl ?_
  intro Q hret
  refine wc_seq ?_; intro K1 hK1
  refine wc_region ?_
  refine wl_y (y_assign rfl) rfl ?_
  refine wl_nil ?_
  refine wq_then_norm (hK1 ?_)
  refine wc_block ?_
  refine wc_loop (fun n' L wr => ∃ i : Nat, L = [(0, .func (.yield l) #[] #[]), (1, .pointer (some ⟨b1, 0, none⟩)), (2, .pointer (some ⟨b2, 0, none⟩)), (4, .int .i64 ((K * i : Nat) : Int))] ∧ n' = m - i ∧ (i ≤ m ∧ J ((List.finRange m).take i) wr ∧ Blk wr b1 22 #[.slice A T c] ∧ Blk wr b2 3 #[.int .i64 (K : Int)])) _ _ ⟨0, rfl, rfl, by omega, h0, C1, C2⟩ ⟨rfl, rfl, rfl, (by first | rfl | exact congrArg some (int_val (by omega))), trivial⟩ ?_
  rintro KL1 n' L wr ⟨i, rfl, rfl, hi, hJ, D1, D2⟩ hL1
  refine wc_seq ?_; intro K2 hK2
  refine wc_seq ?_; intro K3 hK3
  refine wc_region ?_
  refine wl_y (y_move rfl) rfl ?_
  refine wl_y (y_load1 rfl Try.underlying22 rfl (D1.get (i := 0) rfl)) rfl ?_
  refine wl_y (y_len_slice rfl Try.underlying22) rfl ?_
  refine wl_y (y_lss rfl rfl) rfl ?_
  refine wl_nil ?_
  refine wq_then_norm (hK3 ?_)
  refine wc_dec rfl (fun hc1 => ?_) (fun hc1 => ?_)
  · skip
    have hki : K * i < T := by omega
    have hlt : i < m := by
      rcases Nat.lt_or_ge i m with h | h
      · exact h
      · obtain rfl : i = m := by omega
        omega
    have hge : K * i + K ≤ K * m := by rw [← Nat.mul_succ]; exact Nat.mul_le_mul_left _ hlt
    obtain rfl := hA (by omega)
    obtain ⟨e, he⟩ : ∃ e, e = min K (T - K * i) := ⟨_, rfl⟩
    have he1 : 1 ≤ e := by omega
    have he2 : K * i + e ≤ T := by omega
    refine wc_skip ?_
    refine wq_then_norm (hK2 ?_)
    refine wc_seq ?_; intro K4 hK4
    refine wc_block ?_
    refine wc_seq ?_; intro K5 hK5
    refine wc_draw (by kernel_rfl) 7 rfl ?_; intro wd3 ex hd3
    replace D1 := D1.ext ex
    replace D2 := D2.ext ex
    replace hJ := hab _ _ _ none hJ (grown_ext ex) (fun r e => by cases e)
    refine wm_y 0 rfl (by kernel_rfl) (y_load1 rfl Try.underlying3 rfl (D2.get (i := 0) rfl)) rfl ?_
    refine wm_y 1 rfl (by kernel_rfl) (y_load1 rfl Try.underlying22 rfl (D1.get (i := 0) rfl)) rfl ?_
    refine wm_y 2 rfl (by kernel_rfl) (y_move rfl) rfl ?_
    refine wm_y 3 rfl (by kernel_rfl) (y_cutl (s := 1) rfl rfl Try.underlying22 (by kernel_rfl) (j := K * i) rfl (by omega)) rfl ?_
    refine wm_y 4 rfl (by kernel_rfl) (y_len_slice rfl Try.underlying22) rfl ?_
    refine wm_y 5 rfl (by kernel_rfl) (Y.as (y_min rfl rfl) (congrArg (Value.int .i64) (show _ = ((e : Nat) : Int) by split <;> omega))) rfl ?_
    refine wm_y 6 rfl (by kernel_rfl) (y_assign rfl) rfl ?_
    refine wm_done (by kernel_rfl) ?_
    refine wq_nop ?_
    refine wq_then_norm (hK5 ?_)
    refine wc_seq ?_; intro K6 hK6
    refine wci_region (n) ?_
    refine wli_y (y_move rfl) rfl ?_
    refine wli_y (y_load1 rfl Try.underlying22 rfl (D1.get (i := 0) rfl)) rfl ?_
    refine wli_y (y_move rfl) rfl ?_
    refine wli_y (y_move rfl) rfl ?_
    refine wli_y (y_move rfl) rfl ?_
    refine wli_y (y_add rfl rfl (i64_ok (by omega) (by omega))) rfl ?_
    refine wli_y (y_move rfl) rfl ?_
    refine wli_y (y_move rfl) rfl ?_
    refine wli_y (y_add rfl rfl (i64_ok (by omega) (by omega))) rfl ?_
    refine wli_y (Y.as (y_cutlhm (s := 1) rfl rfl rfl rfl Try.underlying22 (by kernel_rfl) (j := K * i) (h := K * i + e) (m := K * i + e) rfl (by omega) (by omega) (by omega) (by omega) (by omega) (by omega)) (show _ = pieceW g off K T i from by unfold pieceW; rw [Nat.mul_one, Nat.add_sub_cancel_left, he])) rfl ?_
    refine wli_yield rfl rfl ((yield_bool (hY ((List.finRange m).take i) ⟨i, hlt⟩ _ hJ (by rw [List.length_take, List.length_finRange]; omega)))) rfl ?_
    rintro e w4 ⟨bb, rfl, hbt, hbf⟩
    refine ⟨_, rfl, ?_⟩
    refine wli_y (y_not rfl) rfl ?_
    refine wli_nil ?_
    refine wq_then_norm (hK6 ?_)
    refine wc_cond rfl (fun hc2 => ?_) (fun hc2 => ?_)
    · skip
      refine wc_ret ?_
      refine wq_blk_ret ?_
      refine wq_then_ret ?_
      refine wq_then_ret ?_
      refine wq_blk_ret ?_
      refine hret (.inl rfl) ?_
      exact ⟨⟨_, rfl⟩, .inr ⟨_, trivial, hbf (by simpa using hc2)⟩⟩
    · skip
      obtain ⟨hJ2, hk⟩ := hbt (by simpa using hc2)
      replace D1 := hk.blk1 D1
      replace D2 := hk.blk2 D2
      refine wc_skip ?_
      refine wq_blk_norm ?_
      refine wq_then_norm (hK4 ?_)
      refine wc_region ?_
      refine wl_y (y_move rfl) rfl ?_
      refine wl_y (y_load1 rfl Try.underlying3 rfl (D2.get (i := 0) rfl)) rfl ?_
      refine wl_y (y_add rfl rfl (i64_ok (by omega) (by omega))) rfl ?_
      refine wl_y (y_assign rfl) rfl ?_
      refine wl_nil ?_
      refine wq_then_norm ?_
      refine hL1 _ _ ⟨i + 1, rfl, rfl, by omega, by rw [List.take_succ_eq_append_getElem (by rw [List.length_finRange]; omega)]; simpa using hJ2, D1, D2⟩ (by omega) ⟨rfl, rfl, rfl, (by first | rfl | exact congrArg some (int_val (by omega))), trivial⟩
  · skip
    refine wc_exit ?_
    refine wq_then_exit ?_
    refine wq_then_exit ?_
    refine wq_blk_hit ?_
    refine hret (.inr rfl) ?_
    have hfin : m ≤ i := by
      rcases Nat.lt_or_ge i m with h | h
      · have := hj i h; omega
      · exact h
    exact ⟨⟨_, rfl⟩, .inl ⟨_, rfl, by rw [List.take_of_length_le (by rw [List.length_finRange]; exact hfin)] at hJ; exact hJ⟩⟩
theorem chunk_stopsW (n g off c K T m b1 b2 : Nat) (A : Option Addr) (w : World) (hK : 1 ≤ K) (hA : 0 < T → A = some ⟨g, off, none⟩) (hc : T ≤ c) (hm : K * m ≤ 70368744177664) (hT : T ≤ K * m) (hj : ∀ j, j < m → K * j < T)
    (C1 : Blk w b1 22 #[.slice A T c]) (C2 : Blk w b2 3 #[.int .i64 (K : Int)]) :
    SeqStopsK Fence.wide n Try.prog 80 #[.pointer (some ⟨b1, 0, none⟩), .pointer (some ⟨b2, 0, none⟩)] (fun x : Fin m => #[pieceW g off K T x.val]) (KpB b1 b2) (fun xs => xs = List.finRange m) (fun _ => True) m w :=
  fun l J Jx W hW hJ _ hY h0 => callsIn_wide.2 (chunkG_any n l g off c K T m b1 b2 A J Jx W hK hA hc hm hT hj hJ (C1.ext hW) (C2.ext hW) hY h0)
theorem chunkW_any (K T c : Nat) (A : Option Addr) (w : World) (hK : 1 ≤ K) :
    Calls Try.prog 60 #[.slice A T c, .int .i64 (K : Int)] w fun e w' => ∃ b1 b2, e = .returned (.func (.func 80) #[] #[.pointer (some ⟨b1, 0, none⟩), .pointer (some ⟨b2, 0, none⟩)]) ∧ w.heap.size ≤ b1 ∧ w.heap.size ≤ b2 ∧
      Blk w' b1 22 #[.slice A T c] ∧ Blk w' b2 3 #[.int .i64 (K : Int)] ∧ Ext w w' := by
  have E := Ext.refl w
  refine vc_enter1 9 Try.func60 rfl rfl rfl rfl ?_
  intro Q hret
  refine wc_seq ?_; intro K1 hK1
  refine wc_region ?_
  refine wl_ef (ef_box (cs := #[.slice A T c]) rfl rfl) rfl ?_
  rintro _ w1 ⟨g1, rfl, B1, hg1, ex⟩
  replace E := E.ext ex
  skip
  have hw1 := E.size
  refine wl_ef (ef_box (cs := #[.int .i64 (K : Int)]) rfl rfl) rfl ?_
  rintro _ w2 ⟨g2, rfl, B2, hg2, ex⟩
  replace E := E.ext ex
  replace B1 := B1.ext ex
  skip
  refine wl_y (y_assign rfl) rfl ?_
  refine wl_nil ?_
  refine wq_then_norm (hK1 ?_)
  refine wc_seq ?_; intro K2 hK2
  refine wc_seq ?_; intro K3 hK3
  refine wc_region ?_
  refine wl_y (y_load1 rfl Try.underlying3 rfl (B2.get (i := 0) rfl)) rfl ?_
  refine wl_y (Y.as (y_lss rfl rfl) (congrArg Value.bool (decide_eq_false (by omega)))) rfl ?_
  refine wl_nil ?_
  refine wq_then_norm (hK3 ?_)
  refine wc_false rfl rfl ?_
  refine wc_skip ?_
  refine wq_then_norm (hK2 ?_)
  refine wc_seq ?_; intro K4 hK4
  refine wc_region ?_
  refine wl_y (y_func rfl) rfl ?_
  refine wl_y (y_assign rfl) rfl ?_
  refine wl_nil ?_
  refine wq_then_norm (hK4 ?_)
  refine wc_ret ?_
  refine hret rfl ?_
  exact ⟨g1, g2, rfl, hg1, by omega, B1, B2, E⟩
end Go.Proofs.Ytjllhimhiekchaa

namespace Go.Proofs.Ytjllhimhiekchaa
open Go.RowKit
/-- The blocks of G are as they were. -/
def Kept (G : List Nat) (w w' : World) : Prop := ∀ b ∈ G, w'.heap[b]? = w.heap[b]?
theorem Kept.refl (G : List Nat) (w : World) : Kept G w w := fun _ _ => rfl
theorem Kept.tr {G : List Nat} {w w' w'' : World} (h : Kept G w w') (k : Kept G w' w'') : Kept G w w'' := fun b hb => (k b hb).trans (h b hb)
theorem Kept.ext {G : List Nat} {w w' : World} (e : Ext w w') (h : ∀ b ∈ G, b < w.heap.size) : Kept G w w' := fun b hb => e.block b (h b hb)
theorem Kept.chs {G S : List Nat} {w w' : World} (e : Chs S w w') (h : ∀ b ∈ G, b < w.heap.size) (hn : ∀ b ∈ G, b ∉ S) : Kept G w w' := fun b hb => e.block b (h b hb) (hn b hb)
theorem Kept.chg {G : List Nat} {g : Nat} {w w' : World} (e : Chg w g w') (h : ∀ b ∈ G, b < w.heap.size) (hn : ∀ b ∈ G, b ≠ g) : Kept G w w' := fun b hb => e.block b (h b hb) (fun k => hn b hb (by injection k))
section
variable {P : Program} {ops : Array Oper} {Q : Exit → Act → World → Prop} {N : Nd} {L : List (Nat × Value)} {w : World} {G : List Nat}
section
variable {f : FuncId} {xs : List Operand} {ats : Array TypeId} {vs : List Value} {R : Ending → World → Prop} {fn : Func} {c : Code} {ty : TypeId} {dst : Option Tmp} {pos : String} {after : Array Edge}
end
end
end Go.Proofs.Ytjllhimhiekchaa
