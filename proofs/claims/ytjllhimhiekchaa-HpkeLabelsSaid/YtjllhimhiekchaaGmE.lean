/- gcm.masked. No conditions: contracts of functions. -/
import Derived.Test.YtjllhimhiekchaaVk
import Derived.Test.YtjllhimhiekchaaAeC
import Derived.Sort.LoopGhostIn
import Derived.Test.YtjllhimhiekchaaGmC
/- A range over a function whose body is any code: judgements for what runs in a round. No conditions: plain lemmas of the model. -/
namespace Go.Proofs.Ytjllhimhiekchaa
open Go.RowKit
section
variable {P : Program} {ops : Array Oper} {Q : Exit → Act → World → Prop} {N : Nd} {L : List (Nat × Value)} {w : World} {k n : Nat}
theorem nolet_then {K : Act → World → Prop} (h : ¬ LetsOut Q) : ¬ LetsOut (Exit.then K Q) := fun ⟨a, w, h'⟩ => h ⟨a, w, h'⟩
theorem nolet_blk {b : Nat} (h : ¬ LetsOut Q) : ¬ LetsOut (Exit.inBlock b Q) := fun ⟨a, w, h'⟩ => h ⟨a, w, h'⟩
theorem nolet_nop (h : ¬ LetsOut Q) : ¬ LetsOut (NoP Q) := fun ⟨a, w, h'⟩ => h ⟨a, w, h'⟩
/-- Code in a round. -/
def WR (k n : Nat) (P : Program) (Q : Exit → Act → World → Prop) (c : Code) (N : Nd) (L : List (Nat × Value)) (w : World) : Prop := ¬ LetsOut Q → ∀ a, Fr N L a → c.wpIn (Fence.wide.inRound k) n P Q a w
theorem ops_in (hQ : ¬ LetsOut Q) (hd : ∀ (i : Nat) (o : Oper), ops[i]? = some o → ∀ c, o.op ≠ .defer c) : ∀ (l : List Nat) (a : Act) (w : World), wpOps P ops Q l a w → wpOpsIn (Fence.wide.inRound k) n P ops Q l a w
  | [], a, w, h => h
  | i :: rest, a, w, h => by
    have ih := fun a w => ops_in hQ hd rest a w
    unfold wpOps at h
    unfold wpOpsIn
    cases ho : ops[i]? with
    | none => rw [ho] at h; exact ih _ _ h
    | some o =>
      rw [ho] at h
      simp only at h ⊢
      by_cases hw : Region.wanted o (yielded ops a.tmps) = true
      · rw [if_pos hw] at h ⊢
        rcases h with h | h
        · refine ⟨fun _ _ => trivial, ?_⟩
          rw [show (Fence.wide.inRound k).round = some k from rfl, Oper.semAt_some k a.eval o (hd i o ho)]
          exact upon_in ih h
        · exact absurd h.2 hQ
      · rw [if_neg hw] at h ⊢
        exact ⟨fun _ _ => trivial, ih _ _ h⟩
theorem noDefer_all {l : List Oper} (h : l.all (fun o => noDefer o.op) = true) (i : Nat) (o : Oper) (ho : l.toArray[i]? = some o) : ∀ c, o.op ≠ .defer c := fun c e => by
  have hm : o ∈ l := by
    rw [List.getElem?_toArray] at ho
    exact List.mem_of_getElem? ho
  have := List.all_eq_true.1 h o hm
  rw [e] at this
  cases this
theorem wr_region {id : Nat} {l : List Oper} (h : WL P l.toArray Q l N L w) (hd : l.all (fun o => noDefer o.op) = true := by kernel_rfl) : WR k n P Q (.region id l.toArray false) N L w := fun hQ a ha =>
  wpIn_region_lit (list_in hQ (fun o ho c e => by
    have := List.all_eq_true.1 hd o ho
    rw [e] at this
    cases this) (h a ha))
theorem in_any {id : Nat} {l : List Oper} (hd : l.all (fun o => noDefer o.op) = true) (hm : P.follows .mixedOrders = true) (hQ : ¬ LetsOut Q) {a : Act} (h : wpAny P .any l.toArray (NoP Q) l.toArray.size (Array.replicate l.toArray.size false) a w.drew) :
    (Code.region id l.toArray true).wpIn (Fence.wide.inRound k) n P Q a w := by
  have h1 : (Code.region id l.toArray true).wpIn (Fence.wide.inRound k) n P (NoP Q) a w := by
    refine wpIn_region_draw fun t => ?_
    simp only [Region.schedule, hm, Bool.true_or, if_true]
    exact ops_in (nolet_nop hQ) (noDefer_all hd) _ _ _ (wpAny_sound l.toArray.size t _ a _ h)
  refine wpIn_mono h1 fun e a w hq => ?_
  cases e <;> first | exact hq | exact hq.elim
theorem wr_draw {id : Nat} {l : List Oper} (hm : P.follows .mixedOrders = true) (n' : Nat) (hn : l.length = n') (h : ∀ w', Ext w w' → w'.heap = w.heap → WM P l.toArray (NoP Q) n' (Array.replicate n' false) N L w') (hd : l.all (fun o => noDefer o.op) = true := by kernel_rfl) : WR k n P Q (.region id l.toArray true) N L w := by
  intro hQ a ha
  subst hn
  refine in_any hd hm hQ (wpM_any _ _ _ _ ?_)
  rw [List.size_toArray]
  exact h _ (Ext.drew w) rfl a ha
theorem wr_seq {x y : Code} (h : ∀ K : Act → World → Prop, (∀ {N L w}, WR k n P Q y N L w → WK K N L w) → WR k n P (Exit.then K Q) x N L w) : WR k n P Q (.seq x y) N L w :=
  fun hQ a ha => wpIn_seq (h (y.wpIn (Fence.wide.inRound k) n P Q) (fun h => h hQ) (nolet_then hQ) a ha)
theorem wr_cond {c : Operand} {x y : Code} {b : Bool} (hc : ev L c = some (.bool b)) (ht : b = true → WR k n P Q x N L w) (hf : b = false → WR k n P Q y N L w) : WR k n P Q (.cond c x y) N L w :=
  fun hQ a ha => wpIn_cond_split (ha.ev hc) (fun e => ht e hQ a ha) (fun e => hf e hQ a ha)
theorem wr_dec {c : Operand} {x y : Code} {p : Prop} [Decidable p] (hc : ev L c = some (.bool (decide p))) (ht : p → WR k n P Q x N L w) (hf : ¬ p → WR k n P Q y N L w) : WR k n P Q (.cond c x y) N L w :=
  wr_cond hc (fun e => ht (of_decide_eq_true e)) (fun e => hf (of_decide_eq_false e))
theorem wr_skip (h : WQ Q .normal N L w) : WR k n P Q .skip N L w := fun _ a ha => wpIn_skip (h a ha)
theorem wr_exit {id : Nat} (h : WQ Q (.exit id) N L w) : WR k n P Q (.exit id) N L w := fun _ a ha => wpIn_exit (h a ha)
theorem wr_block {id : Nat} {c : Code} (h : WR k n P (Exit.inBlock id Q) c N L w) : WR k n P Q (.block id c) N L w := fun hQ a ha => wpIn_block (h (nolet_blk hQ) a ha)
theorem wr_loop {c : Code} (J : Nat → List (Nat × Value) → World → Prop) (n₀ : Nat) (L₀ : List (Nat × Value)) (h₀ : J n₀ L₀ w) (hS : allIn L L₀)
    (round : ∀ (K : Act → World → Prop) (m : Nat) (L : List (Nat × Value)) (w : World), J m L w → (∀ {L1 : List (Nat × Value)} {w' : World} (n' : Nat) (L' : List (Nat × Value)), J n' L' w' → n' < m → allIn L1 L' → WK K N L1 w') →
      WR k n P (Exit.then K Q) c N L w) :
    WR k n P Q (.loop c) N L w := by
  intro hQ a ha
  refine wpIn_loop_ghost (fun n a w => ∃ L, Fr N L a ∧ J n L w) n₀ ⟨L₀, ha.sub hS, h₀⟩ ?_
  rintro m a w ⟨L, ha, hJ⟩
  exact round _ m L w hJ (fun n' L' hJ' hn hin a' ha' => ⟨n', hn, L', ha'.sub hin, hJ'⟩) (nolet_then hQ) a ha
end
section
variable {P : Program} {Q : Exit → Act → World → Prop} {N : Nd} {L : List (Nat × Value)} {w : World} {n : Nat}
theorem no_let_ownI {α : Type} {B b : Nat} {Kp : World → World → Prop} {I : List α → World → Prop} {Ix : Code → List α → World → Prop} {xs : List α} {W : World} : ¬ LetsOut (Exit.inBlock b (ownPostG B Kp I Ix xs W)) := fun ⟨_, _, h⟩ => h
/-- A range over a function whose body is any code; the body does not jump out. -/
theorem wc_rangeI {α : Type} {g : Operand} {p x r0 b gf M : Nat} {ty0 : TypeId} {pos0 : String} {after0 : Array Edge} {lb : Array Value} {body : Code} {enc : α → Value} {Kp : World → World → Prop} {S Sp : List α → Prop}
    (hn : 1 ≤ n) (hg : ev L g = some (.func (.func gf) #[] lb)) (eg : ∀ args w, (callFunc gf args).run P w = .ok (.enter gf args) w)
    (hseq : SeqStopsK Fence.wide (n - 1) P gf lb (fun v => #[enc v]) Kp S Sp M w)
    (hKt : ∀ {A B C : World}, Kp A B → Kp B C → Kp A C) (hKb : ∀ (W : World) (l : Nat) (o o' : Obj), w.heap.size ≤ l → W.heap[l]? = some o → o.isCells = false → o.isWalk = false → Kp W (W.putObj l o'))
    (I : List α → World → Prop) (hI : OwnFrom w.heap.size I) (h0 : I [] w) (hp : Nat.ble (p + 1) N.n = true) (hx : Nat.ble (x + 1) N.n = true)
    (hbody : ∀ (k : Nat) (Q' : Exit → Act → World → Prop) (pre : List α) (v : α) (W : World), I pre W → pre.length < M → (∀ {N' : Nd} {L' : List (Nat × Value)} {W' : World}, KeepsFrom w.heap.size W W' → Kp W W' → I (pre ++ [v]) W' → WQ Q' .normal N' L' W') →
      WR k (n - 1 - 1) P Q' body ⟨N.n, []⟩ ((x, enc v) :: (p, enc v) :: L) W)
    (hdone : ∀ (D : Nat) (xs : List α) (W : World), w.heap.size ≤ D → S xs → I xs W → W.heap[D]? = some (.deferred (some [])) → WQ Q .normal ⟨N.n, { target := .collected D, args := #[] } :: N.ds⟩ L W) :
    WC P Q (.rangeFunc g #[p] (.region r0 #[⟨some x, .assign (.tmp p), ty0, pos0, after0, none⟩] false) (.block b body)) N L w := by
  intro a ha
  rw [← wpIn_wide (n := n)]
  have hp' : p < a.tmps.size := by rw [ha.size]; exact Nat.le_of_ble_eq_true hp
  have hx' : x < a.tmps.size := by rw [ha.size]; exact Nat.le_of_ble_eq_true hx
  have fr : ∀ v, Fr ⟨N.n, []⟩ ((x, enc v) :: (p, enc v) :: L) { tmps := (a.tmps.setIfInBounds p (enc v)).setIfInBounds x (enc v), defers := [] } := fun v => by
    have h1 : Fr ⟨N.n, []⟩ L { tmps := a.tmps, defers := [] } := ⟨ha.size, rfl, ha.has⟩
    exact (h1.put hp (enc v)).put hx (enc v)
  refine wpIn_rangeFunc_ownG rfl hn (ha.ev hg) trivial eg hseq hKt hKb (Below.refl _ _) (fun _ => rfl) I (fun _ _ _ => False) hI (fun _ _ _ _ _ hs _ _ => hs) h0 (fun v => { tmps := (a.tmps.setIfInBounds p (enc v)).setIfInBounds x (enc v), defers := [] }) ?_ ?_ ?_ ?_
  · intro k v W K hK
    refine wpIn_region_list ?_
    refine wpListIn_plain rfl fun K' hK' => ?_
    refine ⟨fun _ _ => trivial, ?_⟩
    rw [show (Fence.wide.inRound k).round = some k from rfl, Oper.semAt_some k _ _ (fun c e => by cases e)]
    have e : ∀ ρ : Operand → Value, (execOp ρ ⟨some x, .assign (.tmp p), ty0, pos0, after0, none⟩).run P W = .ok (.value (ρ (.tmp p))) W := fun ρ => by simp [execOp]
    rw [e]
    refine hK' _ _ ?_
    simpa [wpListIn, Act.put, Act.eval, hp', Exit.then] using hK
  · intro k pre v W hI' hl
    refine wpIn_block ?_
    exact hbody k _ pre v W hI' hl (fun h1 h2 h3 _ _ => ⟨h1, h2, h3⟩) no_let_ownI _ (fr v)
  · intro D xs W hD hS hI' hK
    exact hdone D xs W hD hS hI' hK _ ⟨ha.size, by rw [ha.defers], ha.has⟩
  · intro D c pre W _ _ h _
    exact h.elim
end
section
variable {P : Program} {Q : Exit → Act → World → Prop} {N : Nd} {L : List (Nat × Value)} {w : World} {c : Code}
/-- A loop of few rounds, one by one. -/
def WLr (n : Nat) (P : Program) (Q : Exit → Act → World → Prop) (c : Code) (N : Nd) (L : List (Nat × Value)) (w : World) : Prop := ∀ a, Fr N L a → Code.rounds P c Q n a w
theorem wc_unroll (n : Nat) (h : WLr n P Q c N L w) : WC P Q (.loop c) N L w := fun a ha => wp_loop_rounds n (h a ha)
theorem wlr_succ {n : Nat} (h : ∀ K : Act → World → Prop, (∀ {N L w}, WLr n P Q c N L w → WK K N L w) → WC P (Exit.then K Q) c N L w) : WLr (n + 1) P Q c N L w := fun a ha =>
  h (Code.rounds P c Q n) (fun h => h) a ha
end
section
variable {P : Program} {w : World} {f : FuncId} {fn : Func} {c : Code} {args : Array Value} {R : Ending → World → Prop}
/-- One result in a slot; two such loops may have run. -/
theorem vc_enterMM1 (n N : Nat) {t : Tmp} (hf : P.funcs[f]? = some fn) (hb : fn.body = some c) (hN : fn.ntmps = N) (hr : fn.results = #[.tmp t]) (hsz : Nat.ble args.size N = true)
    (h : ∀ Q : Exit → Act → World → Prop,
      (∀ {N D D' : Nat} {L : List (Nat × Value)} {w : World} {v : Value}, look L t = some v → w.heap[D]? = some (.deferred (some [])) → w.heap[D']? = some (.deferred (some [])) → D ≠ D' → R (.returned v) ((w.putObj D (.deferred none)).putObj D' (.deferred none)) → WQ Q .ret (⟨N, [{ target := .collected D, args := #[] }, { target := .collected D', args := #[] }]⟩ : Nd) L w) →
      WC P Q c ⟨N, []⟩ (slots 0 args.toList) w) : Calls P f args w R :=
  vc_enterM n N hf hb hN hsz fun Q hQ => h Q
    (fun {N D D' L w v} hv hK hK' hne hR a ha => hQ (by
      show LeavesInM _ _ _ _ _ _ a.defers _ _
      rw [ha.defers]
      refine ⟨by simp, .inl ⟨_, _, rfl, run_takeDeferred hK, ?_⟩⟩
      refine ⟨by simp, .inl ⟨_, _, rfl, run_takeDeferred ((World.putObj_heap_other (Ne.symm hne)).trans hK'), ?_⟩⟩
      exact ⟨_, results_tmp hr _ _ _, by rw [getD_of (ha.has _ _ hv)]; exact hR⟩))
end
section
/-- Only known blocks have turned: what a body of a range owes. -/
theorem keeps_chs {B : Nat} {S : List Nat} {W W' : World} (h : Chs S W W') (hS : ∀ g ∈ S, g < B) : KeepsFrom B W W' :=
  ⟨h.size, fun i o hB hi _ => (h.block i (Array.getElem?_eq_some_iff.1 hi).1 (fun hm => absurd (hS i hm) (by omega))).trans hi⟩
theorem kpb_chs {b1 b2 : Nat} {S : List Nat} {W W' : World} (h : Chs S W W') (h1 : b1 < W.heap.size) (h2 : b2 < W.heap.size) (n1 : b1 ∉ S) (n2 : b2 ∉ S) : KpB b1 b2 W W' :=
  ⟨h.size, h.block b1 h1 n1, h.block b2 h2 n2⟩
end
end Go.Proofs.Ytjllhimhiekchaa

/- gcm: a text held against masks. No conditions: contracts of functions. -/
namespace Go.Proofs.Ytjllhimhiekchaa
open Go.RowKit
attribute [local irreducible] Y Ef WL WC WK WQ WM OpM WN WF OpN WJ OpJ WR WLr
open Ae Gm
namespace Gm
/-- The first i bytes of the j-th piece held against a mask. -/
def mkP (m : List UInt8) (j : Nat) (out : List UInt8) : Nat → List UInt8
  | 0 => out
  | i + 1 => (mkP m j out i).set (16 * j + i) (UInt8.ofNat (cell (mkP m j out i) (16 * j + i) ^^^ cell m i))
def mkS (key nn : List UInt8) (n : Nat) (s : List UInt8 × Nat) (j : Nat) : List UInt8 × Nat := (mkP (msk key nn (s.2 + 1)) j s.1 (min 16 (n - 16 * j)), s.2 + 1)
def mkL (key nn : List UInt8) (n : Nat) (s : List UInt8 × Nat) (js : List Nat) : List UInt8 × Nat := js.foldl (mkS key nn n) s
def mkd (key nn t : List UInt8) : List UInt8 := (mkL key nn t.length (t, 1) (List.range ((t.length + 15) / 16))).1
theorem mkP_length (m : List UInt8) (j : Nat) (out : List UInt8) : ∀ i, (mkP m j out i).length = out.length
  | 0 => rfl
  | i + 1 => by rw [mkP, List.length_set, mkP_length]
theorem mkL_snoc (key nn : List UInt8) (n : Nat) (s : List UInt8 × Nat) (js : List Nat) (j : Nat) : mkL key nn n s (js ++ [j]) = mkS key nn n (mkL key nn n s js) j := by
  unfold mkL; rw [List.foldl_append]; rfl
theorem mkL_len (key nn : List UInt8) (n : Nat) : ∀ (js : List Nat) (s : List UInt8 × Nat), (mkL key nn n s js).1.length = s.1.length ∧ (mkL key nn n s js).2 = s.2 + js.length
  | [], s => ⟨rfl, rfl⟩
  | j :: js, s => by
    have h := mkL_len key nn n js (mkS key nn n s j)
    refine ⟨h.1.trans (mkP_length _ _ _ _), h.2.trans ?_⟩
    show s.2 + 1 + js.length = s.2 + (js.length + 1)
    omega
theorem mkd_length (key nn t : List UInt8) : (mkd key nn t).length = t.length := (mkL_len key nn _ _ _).1
theorem cell_ext {a b : List UInt8} (hl : a.length = b.length) (h : ∀ k, k < b.length → cell a k = cell b k) : a = b := by
  refine List.ext_getElem hl fun k h1 h2 => ?_
  have := h k h2
  unfold cell at this
  rw [List.getD_eq_getElem?_getD, List.getD_eq_getElem?_getD, List.getElem?_eq_getElem h1, List.getElem?_eq_getElem h2] at this
  exact UInt8.toNat_inj.1 (by simpa using this)
end Gm
/-- A row's block is no loop's record. -/
theorem own_row {β : Type} {B base n c : Nat} {e : TypeId} {A : Option Addr} {f : β → List Value} : OwnFrom B (fun s W => Row W base e A n c (f s)) := fun s W W' row hs hg hr => by
  refine World.ownsRow.kept (row := row) hs hg ?_
  rcases hs.2 with ⟨hv, _⟩ | ⟨g, cap, cur, hv, _, hB, _⟩
  · injection hv with hA _ _; subst hA; exact .inl rfl
  · injection hv with hA _ _
    subst hA
    refine .inr fun h => ?_
    have h' : row = some g := h.symm
    obtain ⟨_, o, ho, hc⟩ := hr g h'
    rw [show W.heap[g]? = _ from hB] at ho
    injection ho with ho
    subst ho
    cases hc
end Go.Proofs.Ytjllhimhiekchaa

namespace Go.Proofs.Ytjllhimhiekchaa
open Go.RowKit
attribute [local irreducible] Y Ef WL WC WK WQ WM OpM WN WF OpN WJ OpJ WR WLr
open Ae Gm
set_option maxHeartbeats 2000000 in
theorem gmasked_any {A B C : Option Addr} {n c d e : Nat} {key nn t : List UInt8} (w : World) (HA : Bs w A 16 key) (HB : Bs w B 12 nn) (HC : Bs w C n t) (hn : n ≤ 100000) :
    Calls Try.prog 42 #[.slice A 16 c, .slice B 12 d, .slice C n e] w fun e w' => ∃ A' c', e = .returned (.slice A' n c') ∧ Row w' w.heap.size 5 A' n c' ((mkd key nn t).map bv) ∧ Ext w w' := by
  have E := Ext.refl w
  have htl := HC.1
  have hnl := HB.1
  refine vc_enterM1 (3) 40 Try.func42 rfl rfl rfl rfl ?_
  intro Q hret0 hretD
  refine wc_seq ?_; intro K1 hK1
  refine wc_region ?_
  refine wl_ef (ef_box rfl rfl) rfl ?_
  rintro _ wB3 ⟨gB3, rfl, B3, hgB3, ex⟩
  have lB3 := B3.lt; have zB3 := ex.size
  replace E := E.ext ex
  refine wl_ef (ef_box rfl rfl) rfl ?_
  rintro _ wB4 ⟨gB4, rfl, B4, hgB4, ex⟩
  have lB4 := B4.lt; have zB4 := ex.size
  replace E := E.ext ex
  replace B3 := B3.ext ex
  refine wl_y (y_assign rfl) rfl ?_
  refine wl_nil ?_
  refine wq_then_norm (hK1 ?_)
  refine wc_seq ?_; intro K2 hK2
  refine wc_region ?_
  refine wl_y (y_move rfl) rfl ?_
  refine wl_call Try.func65 rfl rfl rfl (clone_any C n e t _ (HC.wk E) (by omega)) rfl ?_
  rintro e w2 ⟨A7, c7, rfl, O7, ex⟩
  refine ⟨_, rfl, ?_⟩
  replace E := E.ext ex
  replace B3 := B3.ext ex
  replace B4 := B4.ext ex
  have R7 : Row w2 wB4.heap.size 5 A7 n c7 (t.map bv) := O7; have hz7 := E.size
  refine wl_y (y_assign rfl) rfl ?_
  refine wl_nil ?_
  refine wq_then_norm (hK2 ?_)
  refine wc_seq ?_; intro K3 hK3
  refine wc_region ?_
  refine wl_ef (ef_alloc (Z := #[.int .u32 0]) (by kernel_rfl)) rfl ?_
  rintro _ wA8 ⟨gB8, rfl, D8, hgB8, exA⟩
  refine wl_ef (ef_storeB (i := 0) rfl rfl rfl (by kernel_rfl) D8 (Nat.le_of_ble_eq_true rfl)) rfl ?_
  rintro _ wB8 ⟨rfl, B8, cg⟩
  have ex := exA.chg cg hgB8; clear cg exA D8
  have lB8 := B8.lt; have zB8 := ex.size
  replace E := E.ext ex
  replace B3 := B3.ext ex
  replace B4 := B4.ext ex
  replace R7 := R7.ext ex
  refine wl_nil ?_
  refine wq_then_norm (hK3 ?_)
  refine wc_seq ?_; intro K4 hK4
  refine wc_seq ?_; intro K5 hK5
  refine wc_region ?_
  refine wl_y (y_move rfl) rfl ?_
  obtain ⟨g7, hA7, hg7⟩ : ∃ g7, (0 < n → A7 = some ⟨g7, 0, none⟩) ∧ (0 < n → wB4.heap.size ≤ g7 ∧ g7 < gB8) := by
    rcases Nat.eq_zero_or_pos n with h | h
    · exact ⟨0, fun h' => by omega, fun h' => by omega⟩
    · obtain ⟨g, v, h1, _⟩ := R7.get (i := 0) h
      refine ⟨g, fun _ => h1, fun _ => ?_⟩
      subst h1
      exact ⟨R7.lt.1, Nat.lt_of_lt_of_le (Row.lt O7).2 hgB8⟩
  refine wl_call Try.func60 rfl rfl rfl (chunkW_any 16 n c7 A7 _ (by omega)) rfl ?_
  rintro e w6 ⟨b1, b2, rfl, hb1, hb2, C1, C2, ex⟩
  refine ⟨_, rfl, ?_⟩
  replace E := E.ext ex
  replace B3 := B3.ext ex
  replace B4 := B4.ext ex
  replace R7 := R7.ext ex
  replace B8 := B8.ext ex
  obtain ⟨M, hM⟩ : ∃ M, M = (n + 15) / 16 := ⟨_, rfl⟩; have hq1 := C1.lt; have hq2 := C2.lt
  refine wl_nil ?_
  refine wq_then_norm (hK5 ?_)
  refine wc_block ?_
  refine wc_rangeI (n := 3) (S := fun xs => xs = List.finRange M) (by omega) rfl (enters Try.func80 rfl rfl) (chunk_stopsW 2 g7 0 c7 16 n M b1 b2 A7 _ (by omega) hA7 R7.cap (by omega) (by omega) (by intro j hj; omega) C1 C2) KpB.trans (fun W l o o' hl ho _ _ => kpb_put W l o o' (by omega) (by omega) ho) (fun pre W => Row W wB4.heap.size 5 A7 n c7 ((mkL key nn n (t, 1) (pre.map (·.val))).1.map bv) ∧ Blk W gB8 85 #[.int .u32 ((1 + pre.length : Nat) : Int)] ∧ Blk W gB3 22 #[.slice A 16 c] ∧ Blk W gB4 22 #[.slice B 12 d] ∧ Below w.heap.size w W ∧ w6.heap.size ≤ W.heap.size) (OwnFrom.and own_row (OwnFrom.and own_blk (OwnFrom.and own_blk (OwnFrom.and own_blk (OwnFrom.and (ownFrom_below (Nat.le_refl _) (by omega)) own_size))))) ⟨R7, B8, B3, B4, E, Nat.le_refl _⟩ rfl rfl ?_ ?_
  · intro kR Q2 pre v W2 ⟨R, B8, B3, B4, E, hz⟩ hl hout
    have hv := v.isLt
    obtain ⟨j, hj⟩ : ∃ j, j = v.val := ⟨_, rfl⟩
    obtain ⟨e1, he1⟩ : ∃ e1, e1 = min 16 (n - 16 * j) := ⟨_, rfl⟩
    have hjn : 16 * j < n := by omega
    obtain ⟨hg71, hg72⟩ := hg7 (by omega)
    obtain rfl := hA7 (by omega)
    obtain ⟨V, hV⟩ : ∃ V, V = (mkL key nn n (t, 1) (pre.map (·.val))).1 := ⟨_, rfl⟩
    have hVl : V.length = n := by rw [hV, (mkL_len _ _ _ _ _).1]; exact htl
    have hV2 : (mkL key nn n (t, 1) (pre.map (·.val))).2 = 1 + pre.length := by rw [(mkL_len _ _ _ _ _).2, List.length_map]
    rw [← hV] at R
    have hpw : pieceW g7 0 16 n v.val = .slice (some ⟨g7, 0 + 16 * j, none⟩) e1 e1 := by unfold pieceW; rw [he1, hj]
    rw [hpw]
    have Cw := Chs.refl [g7, gB8] W2
    refine wr_seq ?_; intro K6 hK6
    refine wr_region ?_
    refine wl_y (y_load1 rfl Try.underlying85 rfl (B8.get (i := 0) rfl)) rfl ?_
    refine wl_y (y_add rfl rfl (IntWalk.u32_in _ ⟨by omega, by omega⟩)) rfl ?_
    refine wl_ef (ef_storeB (i := 0) rfl rfl rfl (by kernel_rfl) B8 (Nat.le_of_ble_eq_true rfl)) rfl ?_
    rintro _ w5 ⟨rfl, D8, cg⟩
    replace R := R.chg cg (by intro b off e; injection e with e; injection e; omega); replace B3 := B3.chg cg (by omega); replace B4 := B4.chg cg (by omega); replace E := E.chg cg (by omega); replace B8 := D8.congr (cs' := #[.int .u32 ((2 + pre.length : Nat) : Int)]) (by show #[Value.int .u32 (((1 + pre.length : Nat) : Int) + 1)] = #[Value.int .u32 ((2 + pre.length : Nat) : Int)]; rw [show (((1 + pre.length : Nat) : Int) + 1) = ((2 + pre.length : Nat) : Int) by omega]); replace Cw := Cw.chs (Chs.one cg); have hz5 := cg.size
    refine wl_nil ?_
    refine wq_then_norm (hK6 ?_)
    refine wr_seq ?_; intro K7 hK7
    refine wr_region ?_
    refine wl_y (y_load1 rfl Try.underlying22 rfl (B3.get (i := 0) rfl)) rfl ?_
    refine wl_y (y_load1 rfl Try.underlying22 rfl (B4.get (i := 0) rfl)) rfl ?_
    refine wl_y (y_load1 rfl Try.underlying85 rfl (B8.get (i := 0) rfl)) rfl ?_
    refine wl_call Try.func63 rfl rfl rfl (gmask_any _ (HA.wk E) (HB.wk E)) rfl ?_
    rintro e w8 ⟨A10, c10, rfl, R10, ex⟩
    refine ⟨_, rfl, ?_⟩
    replace R := R.ext ex
    replace B3 := B3.ext ex
    replace B4 := B4.ext ex
    replace E := E.ext ex
    replace B8 := B8.ext ex
    obtain ⟨g10, _, rfl, _⟩ := R10.get (i := 0) (by omega); replace Cw := Cw.ext ex
    refine wl_y (y_assign rfl) rfl ?_
    refine wl_nil ?_
    refine wq_then_norm (hK7 ?_)
    refine wr_seq ?_; intro K8 hK8
    refine wr_region ?_
    refine wl_y (y_move rfl) rfl ?_
    refine wl_y (y_len_slice rfl Try.underlying22) rfl ?_
    refine wl_y (y_move rfl) rfl ?_
    refine wl_nil ?_
    refine wq_then_norm (hK8 ?_)
    refine wr_block ?_
    refine wr_loop (fun n' L wr => ∃ (i : Nat), L = [(9, .slice (some ⟨g7, 0 + 16 * j, none⟩) e1 e1), (10, .slice (some ⟨g10, 0, none⟩) 16 c10), (24, .int .i64 (e1 : Int)), (25, .int .i64 (i : Int))] ∧ n' = e1 - i ∧ (i ≤ e1 ∧ Chs [g7] w8 wr ∧ Row wr wB4.heap.size 5 (some ⟨g7, 0, none⟩) n c7 ((mkP (msk key nn (2 + pre.length)) j V i).map bv))) _ _ ⟨0, rfl, rfl, Nat.zero_le _, Chs.refl _ _, R⟩ ⟨rfl, rfl, (by first | rfl | exact congrArg some (int_val (by omega))), (by first | rfl | exact congrArg some (int_val (by omega))), trivial⟩ ?_
    rintro KL1 n' L wr ⟨i, rfl, rfl, hi, X, R⟩ hL1
    refine wr_seq ?_; intro K9 hK9
    refine wr_region ?_
    refine wl_y (y_lss rfl rfl) rfl ?_
    refine wl_nil ?_
    refine wq_then_norm (hK9 ?_)
    refine wr_seq ?_; intro K10 hK10
    refine wr_dec rfl (fun hc1 => ?_) (fun hc1 => ?_)
    · skip
      refine wr_skip ?_
      refine wq_then_norm (hK10 ?_)
      refine wr_seq ?_; intro K11 hK11
      refine wr_block ?_
      refine wr_seq ?_; intro K12 hK12
      refine wr_region ?_
      refine wl_y (y_move rfl) rfl ?_
      refine wl_y (y_assign rfl) rfl ?_
      refine wl_nil ?_
      refine wq_then_norm (hK12 ?_)
      obtain ⟨U, hU⟩ : ∃ U, U = mkP (msk key nn (2 + pre.length)) j V i := ⟨_, rfl⟩
      have hUl : U.length = n := by rw [hU, mkP_length]; exact hVl
      rw [← hU] at R
      have HU := R.bs
      have HM := (R10.chs X (by simp; omega)).bs
      refine wr_draw (by kernel_rfl) 11 rfl ?_; intro wd10 ex hd10
      replace X := X.ext ex
      replace R := R.ext ex
      replace HU := HU.ext ex
      replace HM := HM.ext ex
      refine wm_z 0 rfl (by kernel_rfl) (fun _ => y_move rfl) rfl ?_
      refine wm_z 1 rfl (by kernel_rfl) (fun _ => y_move rfl) rfl ?_
      refine wm_z 2 rfl (by kernel_rfl) (fun _ => y_ixs1 rfl rfl Try.underlying22 (by kernel_rfl) (j := i) (by omega) (by omega)) rfl ?_
      refine wm_y 3 rfl (by kernel_rfl) (y_load1 rfl Try.underlying5 rfl (show _ = some (.int .u8 ((cell U (16 * j + i) : Nat) : Int)) from by rw [show 0 + 16 * j + i = 0 + (16 * j + i) by omega]; exact bsget HU (k := 16 * j + i) (by omega))) rfl ?_
      refine wm_z 4 rfl (by kernel_rfl) (fun _ => y_move rfl) rfl ?_
      refine wm_z 5 rfl (by kernel_rfl) (fun _ => y_move rfl) rfl ?_
      refine wm_z 6 rfl (by kernel_rfl) (fun _ => y_ixs1 rfl rfl Try.underlying22 (by kernel_rfl) (j := i) (by omega) (by omega)) rfl ?_
      refine wm_y 7 rfl (by kernel_rfl) (y_load1 rfl Try.underlying5 rfl (bsget HM (k := i) (by omega))) rfl ?_
      refine wm_z 8 rfl (by kernel_rfl) (fun _ => y_xor rfl rfl ((bits_u8 (Ae.c8 _ _) (Ae.c8 _ _)).2.2)) rfl ?_
      refine wm_z 9 rfl (by kernel_rfl) (fun _ => y_ixs1 rfl rfl Try.underlying22 (by kernel_rfl) (j := i) (by omega) (by omega)) rfl ?_
      refine wm_one 10 (by kernel_rfl) ?_; refine om_ef rfl (ef_storeR (i := 16 * j + i) (congrArg (fun z => some (Value.pointer (some ⟨g7, z, none⟩))) (show 0 + 16 * j + i = 0 + (16 * j + i) from Nat.add_assoc _ _ _)) rfl rfl (by kernel_rfl) R (by omega)) rfl ?_
      rintro _ w11 ⟨rfl, R11, cg⟩
      refine ⟨.inl rfl, ?_⟩
      have X11 := X.chs (Chs.one cg); have R12 : Row w11 wB4.heap.size 5 (some ⟨g7, 0, none⟩) n c7 ((U.set (16 * j + i) (UInt8.ofNat (cell U (16 * j + i) ^^^ cell (msk key nn (2 + pre.length)) i))).map bv) := (by rw [List.map_set, bv, u8_ofNat (x8 (Ae.c8 _ _) (Ae.c8 _ _))]; exact R11)
      refine wm_done (by kernel_rfl) ?_
      refine wq_nop ?_
      refine wq_blk_norm ?_
      refine wq_then_norm (hK11 ?_)
      refine wr_region ?_
      refine wl_y (y_add rfl rfl (i64_ok (by omega) (by omega))) rfl ?_
      refine wl_y (y_move rfl) rfl ?_
      refine wl_nil ?_
      refine wq_then_norm ?_
      refine hL1 _ _ ⟨i + 1, rfl, rfl, by omega, X11, (by rw [mkP, ← hU]; exact R12)⟩ (by omega) ⟨rfl, rfl, (by first | rfl | exact congrArg some (int_val (by omega))), (by first | rfl | exact congrArg some (int_val (by omega))), trivial⟩
    · skip
      refine wr_exit ?_
      refine wq_then_exit ?_
      refine wq_then_exit ?_
      refine wq_blk_hit ?_
      obtain rfl : i = e1 := by omega
      have Cz := Cw.chs X
      have hz9 := Cz.size
      refine hout (keeps_chs Cz (by simp; omega)) (kpb_chs Cz (by omega) (by omega) (by simp; omega) (by simp; omega)) ⟨?_, ?_, B3.chs X (by simp; omega), B4.chs X (by simp; omega), E.chsN X (by simp; omega), by omega⟩
      · rw [List.map_append, List.map_singleton, mkL_snoc]
        unfold mkS
        rw [← hV, hV2, ← hj, ← he1, show 1 + pre.length + 1 = 2 + pre.length by omega]
        exact R
      · exact (B8.chs X (by simp; omega)).congr (by rw [List.length_append, List.length_singleton, show 1 + (pre.length + 1) = 2 + pre.length by omega])
  · intro D xs2 W2 hD hS2 ⟨I1, I2, I3, I4, I5, I6⟩ hKD
    obtain rfl := hS2
    have hfin : ((List.finRange M).map (·.val)) = List.range M := List.ext_getElem (by simp) (fun i h1 h2 => by simp)
    rw [hfin, hM, ← htl] at I1
    have HD : Dfr W2 D := hKD
    have hDw : w.heap.size ≤ D := by omega
    refine wq_blk_norm ?_
    refine wq_then_norm (hK4 ?_)
    refine wc_seq ?_; intro K13 hK13
    refine wc_region ?_
    refine wl_y (y_move rfl) rfl ?_
    refine wl_y (y_assign rfl) rfl ?_
    refine wl_nil ?_
    refine wq_then_norm (hK13 ?_)
    refine wc_ret ?_
    refine hretD rfl HD ?_
    exact ⟨A7, c7, rfl, by unfold mkd; rw [htl] at I1 ⊢; exact Row.lower (ownsRow_putObj I1 _ HD rfl) (by omega), I5.trans (belowK_b (w := w) (Nat.le_refl _) W2 D _ _ hDw HD rfl rfl)⟩
end Go.Proofs.Ytjllhimhiekchaa
