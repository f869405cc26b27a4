/- gcm: a text held against masks. No conditions: contracts of functions. -/
import Derived.Test.YtjllhimhiekchaaVk
import Derived.Test.YtjllhimhiekchaaVs
import Derived.Sort.LoopGhostIn
import Derived.Test.YtjllhimhiekchaaGmC
/- A range over a function whose body is any code: judgements for what runs in a round. No conditions: plain lemmas of the model. -/
namespace Go.Proofs.Ytjllhimhiekchaa
open Go.RowKit
section
variable {P : Program} {ops : Array Oper} {Q : Exit → Act → World → Prop} {N : Nd} {L : List (Nat × Value)} {w : World} {k n : Nat}
theorem nolet_then {K : Act → World → Prop} (h : ¬ LetsOut Q) : ¬ LetsOut (Exit.then K Q) := fun ⟨a, w, h'⟩ => h ⟨a, w, h'⟩
theorem nolet_blk {b : Nat} (h : ¬ LetsOut Q) : ¬ LetsOut (Exit.inBlock b Q) := fun ⟨a, w, h'⟩ => h ⟨a, w, h'⟩
theorem nolet_nop (h : ¬ LetsOut Q) : ¬ LetsOut (NoP Q) := fun ⟨a, w, h'⟩ => h ⟨a, w, h'⟩
/-- Code in a round. -/
def WR (k n : Nat) (P : Program) (Q : Exit → Act → World → Prop) (c : Code) (N : Nd) (L : List (Nat × Value)) (w : World) : Prop := ¬ LetsOut Q → ∀ a, Fr N L a → c.wpIn (Fence.wide.inRound k) n P Q a w
theorem ops_in (hQ : ¬ LetsOut Q) (hd : ∀ (i : Nat) (o : Oper), ops[i]? = some o → ∀ c, o.op ≠ .defer c) : ∀ (l : List Nat) (a : Act) (w : World), wpOps P ops Q l a w → wpOpsIn (Fence.wide.inRound k) n P ops Q l a w
  | [], a, w, h => h
  | i :: rest, a, w, h => by
    have ih := fun a w => ops_in hQ hd rest a w
    unfold wpOps at h
    unfold wpOpsIn
    cases ho : ops[i]? with
    | none => rw [ho] at h; exact ih _ _ h
    | some o =>
      rw [ho] at h
      simp only at h ⊢
      by_cases hw : Region.wanted o (yielded ops a.tmps) = true
      · rw [if_pos hw] at h ⊢
        rcases h with h | h
        · refine ⟨fun _ _ => trivial, ?_⟩
          rw [show (Fence.wide.inRound k).round = some k from rfl, Oper.semAt_some k a.eval o (hd i o ho)]
          exact upon_in ih h
        · exact absurd h.2 hQ
      · rw [if_neg hw] at h ⊢
        exact ⟨fun _ _ => trivial, ih _ _ h⟩
theorem noDefer_all {l : List Oper} (h : l.all (fun o => noDefer o.op) = true) (i : Nat) (o : Oper) (ho : l.toArray[i]? = some o) : ∀ c, o.op ≠ .defer c := fun c e => by
  have hm : o ∈ l := by
    rw [List.getElem?_toArray] at ho
    exact List.mem_of_getElem? ho
  have := List.all_eq_true.1 h o hm
  rw [e] at this
  cases this
theorem wr_region {id : Nat} {l : List Oper} (h : WL P l.toArray Q l N L w) (hd : l.all (fun o => noDefer o.op) = true := by kernel_rfl) : WR k n P Q (.region id l.toArray false) N L w := fun hQ a ha =>
  wpIn_region_lit (list_in hQ (fun o ho c e => by
    have := List.all_eq_true.1 hd o ho
    rw [e] at this
    cases this) (h a ha))
theorem in_any {id : Nat} {l : List Oper} (hd : l.all (fun o => noDefer o.op) = true) (hm : P.follows .mixedOrders = true) (hQ : ¬ LetsOut Q) {a : Act} (h : wpAny P .any l.toArray (NoP Q) l.toArray.size (Array.replicate l.toArray.size false) a w.drew) :
    (Code.region id l.toArray true).wpIn (Fence.wide.inRound k) n P Q a w := by
  have h1 : (Code.region id l.toArray true).wpIn (Fence.wide.inRound k) n P (NoP Q) a w := by
    refine wpIn_region_draw fun t => ?_
    simp only [Region.schedule, hm, Bool.true_or, if_true]
    exact ops_in (nolet_nop hQ) (noDefer_all hd) _ _ _ (wpAny_sound l.toArray.size t _ a _ h)
  refine wpIn_mono h1 fun e a w hq => ?_
  cases e <;> first | exact hq | exact hq.elim
theorem wr_draw {id : Nat} {l : List Oper} (hm : P.follows .mixedOrders = true) (n' : Nat) (hn : l.length = n') (h : ∀ w', Ext w w' → w'.heap = w.heap → WM P l.toArray (NoP Q) n' (Array.replicate n' false) N L w') (hd : l.all (fun o => noDefer o.op) = true := by kernel_rfl) : WR k n P Q (.region id l.toArray true) N L w := by
  intro hQ a ha
  subst hn
  refine in_any hd hm hQ (wpM_any _ _ _ _ ?_)
  rw [List.size_toArray]
  exact h _ (Ext.drew w) rfl a ha
theorem wr_seq {x y : Code} (h : ∀ K : Act → World → Prop, (∀ {N L w}, WR k n P Q y N L w → WK K N L w) → WR k n P (Exit.then K Q) x N L w) : WR k n P Q (.seq x y) N L w :=
  fun hQ a ha => wpIn_seq (h (y.wpIn (Fence.wide.inRound k) n P Q) (fun h => h hQ) (nolet_then hQ) a ha)
theorem wr_cond {c : Operand} {x y : Code} {b : Bool} (hc : ev L c = some (.bool b)) (ht : b = true → WR k n P Q x N L w) (hf : b = false → WR k n P Q y N L w) : WR k n P Q (.cond c x y) N L w :=
  fun hQ a ha => wpIn_cond_split (ha.ev hc) (fun e => ht e hQ a ha) (fun e => hf e hQ a ha)
theorem wr_dec {c : Operand} {x y : Code} {p : Prop} [Decidable p] (hc : ev L c = some (.bool (decide p))) (ht : p → WR k n P Q x N L w) (hf : ¬ p → WR k n P Q y N L w) : WR k n P Q (.cond c x y) N L w :=
  wr_cond hc (fun e => ht (of_decide_eq_true e)) (fun e => hf (of_decide_eq_false e))
theorem wr_skip (h : WQ Q .normal N L w) : WR k n P Q .skip N L w := fun _ a ha => wpIn_skip (h a ha)
theorem wr_exit {id : Nat} (h : WQ Q (.exit id) N L w) : WR k n P Q (.exit id) N L w := fun _ a ha => wpIn_exit (h a ha)
theorem wr_block {id : Nat} {c : Code} (h : WR k n P (Exit.inBlock id Q) c N L w) : WR k n P Q (.block id c) N L w := fun hQ a ha => wpIn_block (h (nolet_blk hQ) a ha)
theorem wr_loop {c : Code} (J : Nat → List (Nat × Value) → World → Prop) (n₀ : Nat) (L₀ : List (Nat × Value)) (h₀ : J n₀ L₀ w) (hS : allIn L L₀)
    (round : ∀ (K : Act → World → Prop) (m : Nat) (L : List (Nat × Value)) (w : World), J m L w → (∀ {L1 : List (Nat × Value)} {w' : World} (n' : Nat) (L' : List (Nat × Value)), J n' L' w' → n' < m → allIn L1 L' → WK K N L1 w') →
      WR k n P (Exit.then K Q) c N L w) :
    WR k n P Q (.loop c) N L w := by
  intro hQ a ha
  refine wpIn_loop_ghost (fun n a w => ∃ L, Fr N L a ∧ J n L w) n₀ ⟨L₀, ha.sub hS, h₀⟩ ?_
  rintro m a w ⟨L, ha, hJ⟩
  exact round _ m L w hJ (fun n' L' hJ' hn hin a' ha' => ⟨n', hn, L', ha'.sub hin, hJ'⟩) (nolet_then hQ) a ha
end
section
variable {P : Program} {Q : Exit → Act → World → Prop} {N : Nd} {L : List (Nat × Value)} {w : World} {n : Nat}
theorem no_let_ownI {α : Type} {B b : Nat} {Kp : World → World → Prop} {I : List α → World → Prop} {Ix : Code → List α → World → Prop} {xs : List α} {W : World} : ¬ LetsOut (Exit.inBlock b (ownPostG B Kp I Ix xs W)) := fun ⟨_, _, h⟩ => h
/-- A range over a function whose body is any code; the body does not jump out. -/
theorem wc_rangeI {α : Type} {g : Operand} {p x r0 b gf M : Nat} {ty0 : TypeId} {pos0 : String} {after0 : Array Edge} {lb : Array Value} {body : Code} {enc : α → Value} {Kp : World → World → Prop} {S Sp : List α → Prop}
    (hn : 1 ≤ n) (hg : ev L g = some (.func (.func gf) #[] lb)) (eg : ∀ args w, (callFunc gf args).run P w = .ok (.enter gf args) w)
    (hseq : SeqStopsK Fence.wide (n - 1) P gf lb (fun v => #[enc v]) Kp S Sp M w)
    (hKt : ∀ {A B C : World}, Kp A B → Kp B C → Kp A C) (hKb : ∀ (W : World) (l : Nat) (o o' : Obj), w.heap.size ≤ l → W.heap[l]? = some o → o.isCells = false → o.isWalk = false → Kp W (W.putObj l o'))
    (I : List α → World → Prop) (hI : OwnFrom w.heap.size I) (h0 : I [] w) (hp : Nat.ble (p + 1) N.n = true) (hx : Nat.ble (x + 1) N.n = true)
    (hbody : ∀ (k : Nat) (Q' : Exit → Act → World → Prop) (pre : List α) (v : α) (W : World), I pre W → pre.length < M → (∀ {N' : Nd} {L' : List (Nat × Value)} {W' : World}, KeepsFrom w.heap.size W W' → Kp W W' → I (pre ++ [v]) W' → WQ Q' .normal N' L' W') →
      WR k (n - 1 - 1) P Q' body ⟨N.n, []⟩ ((x, enc v) :: (p, enc v) :: L) W)
    (hdone : ∀ (D : Nat) (xs : List α) (W : World), w.heap.size ≤ D → S xs → I xs W → W.heap[D]? = some (.deferred (some [])) → WQ Q .normal ⟨N.n, { target := .collected D, args := #[] } :: N.ds⟩ L W) :
    WC P Q (.rangeFunc g #[p] (.region r0 #[⟨some x, .assign (.tmp p), ty0, pos0, after0, none⟩] false) (.block b body)) N L w := by
  intro a ha
  rw [← wpIn_wide (n := n)]
  have hp' : p < a.tmps.size := by rw [ha.size]; exact Nat.le_of_ble_eq_true hp
  have hx' : x < a.tmps.size := by rw [ha.size]; exact Nat.le_of_ble_eq_true hx
  have fr : ∀ v, Fr ⟨N.n, []⟩ ((x, enc v) :: (p, enc v) :: L) { tmps := (a.tmps.setIfInBounds p (enc v)).setIfInBounds x (enc v), defers := [] } := fun v => by
    have h1 : Fr ⟨N.n, []⟩ L { tmps := a.tmps, defers := [] } := ⟨ha.size, rfl, ha.has⟩
    exact (h1.put hp (enc v)).put hx (enc v)
  refine wpIn_rangeFunc_ownG rfl hn (ha.ev hg) trivial eg hseq hKt hKb (Below.refl _ _) (fun _ => rfl) I (fun _ _ _ => False) hI (fun _ _ _ _ _ hs _ _ => hs) h0 (fun v => { tmps := (a.tmps.setIfInBounds p (enc v)).setIfInBounds x (enc v), defers := [] }) ?_ ?_ ?_ ?_
  · intro k v W K hK
    refine wpIn_region_list ?_
    refine wpListIn_plain rfl fun K' hK' => ?_
    refine ⟨fun _ _ => trivial, ?_⟩
    rw [show (Fence.wide.inRound k).round = some k from rfl, Oper.semAt_some k _ _ (fun c e => by cases e)]
    have e : ∀ ρ : Operand → Value, (execOp ρ ⟨some x, .assign (.tmp p), ty0, pos0, after0, none⟩).run P W = .ok (.value (ρ (.tmp p))) W := fun ρ => by simp [execOp]
    rw [e]
    refine hK' _ _ ?_
    simpa [wpListIn, Act.put, Act.eval, hp', Exit.then] using hK
  · intro k pre v W hI' hl
    refine wpIn_block ?_
    exact hbody k _ pre v W hI' hl (fun h1 h2 h3 _ _ => ⟨h1, h2, h3⟩) no_let_ownI _ (fr v)
  · intro D xs W hD hS hI' hK
    exact hdone D xs W hD hS hI' hK _ ⟨ha.size, by rw [ha.defers], ha.has⟩
  · intro D c pre W _ _ h _
    exact h.elim
end
section
variable {P : Program} {Q : Exit → Act → World → Prop} {N : Nd} {L : List (Nat × Value)} {w : World} {c : Code}
/-- A loop of few rounds, one by one. -/
def WLr (n : Nat) (P : Program) (Q : Exit → Act → World → Prop) (c : Code) (N : Nd) (L : List (Nat × Value)) (w : World) : Prop := ∀ a, Fr N L a → Code.rounds P c Q n a w
theorem wc_unroll (n : Nat) (h : WLr n P Q c N L w) : WC P Q (.loop c) N L w := fun a ha => wp_loop_rounds n (h a ha)
theorem wlr_succ {n : Nat} (h : ∀ K : Act → World → Prop, (∀ {N L w}, WLr n P Q c N L w → WK K N L w) → WC P (Exit.then K Q) c N L w) : WLr (n + 1) P Q c N L w := fun a ha =>
  h (Code.rounds P c Q n) (fun h => h) a ha
end
section
variable {P : Program} {w : World} {f : FuncId} {fn : Func} {c : Code} {args : Array Value} {R : Ending → World → Prop}
/-- One result in a slot; two such loops may have run. -/
theorem vc_enterMM1 (n N : Nat) {t : Tmp} (hf : P.funcs[f]? = some fn) (hb : fn.body = some c) (hN : fn.ntmps = N) (hr : fn.results = #[.tmp t]) (hsz : Nat.ble args.size N = true)
    (h : ∀ Q : Exit → Act → World → Prop,
      (∀ {N D D' : Nat} {L : List (Nat × Value)} {w : World} {v : Value}, look L t = some v → w.heap[D]? = some (.deferred (some [])) → w.heap[D']? = some (.deferred (some [])) → D ≠ D' → R (.returned v) ((w.putObj D (.deferred none)).putObj D' (.deferred none)) → WQ Q .ret (⟨N, [{ target := .collected D, args := #[] }, { target := .collected D', args := #[] }]⟩ : Nd) L w) →
      WC P Q c ⟨N, []⟩ (slots 0 args.toList) w) : Calls P f args w R :=
  vc_enterM n N hf hb hN hsz fun Q hQ => h Q
    (fun {N D D' L w v} hv hK hK' hne hR a ha => hQ (by
      show LeavesInM _ _ _ _ _ _ a.defers _ _
      rw [ha.defers]
      refine ⟨by simp, .inl ⟨_, _, rfl, run_takeDeferred hK, ?_⟩⟩
      refine ⟨by simp, .inl ⟨_, _, rfl, run_takeDeferred ((World.putObj_heap_other (Ne.symm hne)).trans hK'), ?_⟩⟩
      exact ⟨_, results_tmp hr _ _ _, by rw [getD_of (ha.has _ _ hv)]; exact hR⟩))
end
section
/-- Only known blocks have turned: what a body of a range owes. -/
theorem keeps_chs {B : Nat} {S : List Nat} {W W' : World} (h : Chs S W W') (hS : ∀ g ∈ S, g < B) : KeepsFrom B W W' :=
  ⟨h.size, fun i o hB hi _ => (h.block i (Array.getElem?_eq_some_iff.1 hi).1 (fun hm => absurd (hS i hm) (by omega))).trans hi⟩
theorem kpb_chs {b1 b2 : Nat} {S : List Nat} {W W' : World} (h : Chs S W W') (h1 : b1 < W.heap.size) (h2 : b2 < W.heap.size) (n1 : b1 ∉ S) (n2 : b2 ∉ S) : KpB b1 b2 W W' :=
  ⟨h.size, h.block b1 h1 n1, h.block b2 h2 n2⟩
end
end Go.Proofs.Ytjllhimhiekchaa

namespace Go.Proofs.Ytjllhimhiekchaa
open Go.RowKit
attribute [local irreducible] Y Ef WL WC WK WQ WM OpM WN WF OpN WJ OpJ WR WLr
open Ae Gm
namespace Gm
/-- The first i bytes of the j-th piece held against a mask. -/
def mkP (m : List UInt8) (j : Nat) (out : List UInt8) : Nat → List UInt8
  | 0 => out
  | i + 1 => (mkP m j out i).set (16 * j + i) (UInt8.ofNat (cell (mkP m j out i) (16 * j + i) ^^^ cell m i))
def mkS (key nn : List UInt8) (n : Nat) (s : List UInt8 × Nat) (j : Nat) : List UInt8 × Nat := (mkP (msk key nn (s.2 + 1)) j s.1 (min 16 (n - 16 * j)), s.2 + 1)
def mkL (key nn : List UInt8) (n : Nat) (s : List UInt8 × Nat) (js : List Nat) : List UInt8 × Nat := js.foldl (mkS key nn n) s
def mkd (key nn t : List UInt8) : List UInt8 := (mkL key nn t.length (t, 1) (List.range ((t.length + 15) / 16))).1
theorem mkP_length (m : List UInt8) (j : Nat) (out : List UInt8) : ∀ i, (mkP m j out i).length = out.length
  | 0 => rfl
  | i + 1 => by rw [mkP, List.length_set, mkP_length]
theorem mkL_snoc (key nn : List UInt8) (n : Nat) (s : List UInt8 × Nat) (js : List Nat) (j : Nat) : mkL key nn n s (js ++ [j]) = mkS key nn n (mkL key nn n s js) j := by
  unfold mkL; rw [List.foldl_append]; rfl
theorem mkL_len (key nn : List UInt8) (n : Nat) : ∀ (js : List Nat) (s : List UInt8 × Nat), (mkL key nn n s js).1.length = s.1.length ∧ (mkL key nn n s js).2 = s.2 + js.length
  | [], s => ⟨rfl, rfl⟩
  | j :: js, s => by
    have h := mkL_len key nn n js (mkS key nn n s j)
    refine ⟨h.1.trans (mkP_length _ _ _ _), h.2.trans ?_⟩
    show s.2 + 1 + js.length = s.2 + (js.length + 1)
    omega
theorem mkd_length (key nn t : List UInt8) : (mkd key nn t).length = t.length := (mkL_len key nn _ _ _).1
theorem cell_set (l : List UInt8) (k i x : Nat) (hx : x < 256) (hk : k < l.length) : cell (l.set k (UInt8.ofNat x)) i = if i = k then x else cell l i := by
  unfold cell
  by_cases h : i = k
  · subst h
    rw [if_pos rfl, List.getD_eq_getElem?_getD, List.getElem?_set_self hk]
    show (UInt8.ofNat x).toNat = x
    rw [UInt8.toNat_ofNat']; omega
  · rw [if_neg h, List.getD_eq_getElem?_getD, List.getD_eq_getElem?_getD, List.getElem?_set_ne (Ne.symm h)]
theorem mkP_cell (m : List UInt8) (j : Nat) (out : List UInt8) : ∀ i k, 16 * j + i ≤ out.length → cell (mkP m j out i) k = if 16 * j ≤ k ∧ k < 16 * j + i then cell out k ^^^ cell m (k - 16 * j) else cell out k
  | 0, k, _ => by rw [mkP, if_neg (by omega)]
  | i + 1, k, h => by
    rw [mkP, cell_set _ _ _ _ (x8 (c8 _ _) (c8 _ _)) (by rw [mkP_length]; omega), mkP_cell m j out i k (by omega), mkP_cell m j out i (16 * j + i) (by omega), if_neg (c := 16 * j ≤ 16 * j + i ∧ 16 * j + i < 16 * j + i) (by omega)]
    by_cases hk : k = 16 * j + i
    · subst hk
      rw [if_pos rfl, if_pos (by omega), show 16 * j + i - 16 * j = i by omega]
    · rw [if_neg hk]
      by_cases h2 : 16 * j ≤ k ∧ k < 16 * j + i
      · rw [if_pos h2, if_pos (by omega)]
      · rw [if_neg h2, if_neg (by omega)]
theorem mkL_cell (key nn t : List UInt8) : ∀ r, 16 * r < t.length + 16 → ∀ k, k < t.length → cell (mkL key nn t.length (t, 1) (List.range r)).1 k = if k < 16 * r then cell t k ^^^ cell (msk key nn (2 + k / 16)) (k % 16) else cell t k
  | 0, _, k, _ => by rw [if_neg (by omega)]; rfl
  | r + 1, h, k, hk => by
    have hl := mkL_len key nn t.length (List.range r) (t, 1)
    rw [List.length_range] at hl
    rw [List.range_succ, mkL_snoc]
    unfold mkS
    rw [hl.2, mkP_cell _ _ _ _ _ (by rw [hl.1]; show 16 * r + min 16 (t.length - 16 * r) ≤ t.length; omega), mkL_cell key nn t r (by omega) k hk]
    by_cases h1 : k < 16 * r
    · rw [if_neg (by omega), if_pos h1, if_pos (by omega)]
    · rw [if_neg h1]
      by_cases h2 : k < 16 * (r + 1)
      · rw [if_pos (by omega), if_pos h2, show 2 + k / 16 = 1 + r + 1 by omega, show k % 16 = k - 16 * r by omega]
      · rw [if_neg (by omega), if_neg h2]
theorem mkd_cell (key nn t : List UInt8) (k : Nat) (hk : k < t.length) : cell (mkd key nn t) k = cell t k ^^^ cell (msk key nn (2 + k / 16)) (k % 16) := by
  unfold mkd
  rw [mkL_cell key nn t _ (by omega) k hk, if_pos (by omega)]
theorem cell_ext {a b : List UInt8} (hl : a.length = b.length) (h : ∀ k, k < b.length → cell a k = cell b k) : a = b := by
  refine List.ext_getElem hl fun k h1 h2 => ?_
  have := h k h2
  unfold cell at this
  rw [List.getD_eq_getElem?_getD, List.getD_eq_getElem?_getD, List.getElem?_eq_getElem h1, List.getElem?_eq_getElem h2] at this
  exact UInt8.toNat_inj.1 (by simpa using this)
/-- Held against the masks twice: the text. -/
theorem mkd_mkd (key nn t : List UInt8) : mkd key nn (mkd key nn t) = t := by
  refine cell_ext (by rw [mkd_length, mkd_length]) fun k hk => ?_
  rw [mkd_cell _ _ _ _ (by rw [mkd_length]; exact hk), mkd_cell _ _ _ _ hk, Nat.xor_assoc, Nat.xor_self, Nat.xor_zero]
end Gm
/-- A row's block is no loop's record. -/
theorem own_row {β : Type} {B base n c : Nat} {e : TypeId} {A : Option Addr} {f : β → List Value} : OwnFrom B (fun s W => Row W base e A n c (f s)) := fun s W W' row hs hg hr => by
  refine World.ownsRow.kept (row := row) hs hg ?_
  rcases hs.2 with ⟨hv, _⟩ | ⟨g, cap, cur, hv, _, hB, _⟩
  · injection hv with hA _ _; subst hA; exact .inl rfl
  · injection hv with hA _ _
    subst hA
    refine .inr fun h => ?_
    have h' : row = some g := h.symm
    obtain ⟨_, o, ho, hc⟩ := hr g h'
    rw [show W.heap[g]? = _ from hB] at ho
    injection ho with ho
    subst ho
    cases hc
end Go.Proofs.Ytjllhimhiekchaa
