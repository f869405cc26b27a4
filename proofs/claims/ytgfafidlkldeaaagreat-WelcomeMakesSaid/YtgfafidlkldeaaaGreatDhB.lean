/- dh's product, Clamp, Mul, Base, Shared: what each hands back. -/
import Derived.Test.YtgfafidlkldeaaaGreatChunkA
import Derived.Test.YtgfafidlkldeaaaGreatVs
import Derived.Test.YtgfafidlkldeaaaGreatVk
import Derived.Sort.LoopGhostIn
import Derived.Test.YtgfafidlkldeaaaGreatMuC
import Derived.Test.YtgfafidlkldeaaaGreatNdQ
import Derived.Test.YtgfafidlkldeaaaGreatNdP
import Derived.Test.YtgfafidlkldeaaaGreatCtxA
import Derived.Lib.AppendStr
import Derived.Test.YtgfafidlkldeaaaGreatAu
import Derived.Test.YtgfafidlkldeaaaGreatDhA
set_option linter.unusedVariables false
set_option linter.unusedSimpArgs false
set_option maxHeartbeats 4000000
set_option maxRecDepth 4000
namespace Go.Proofs.YtgfafidlkldeaaaGreat
section
open Go.RowKit
section
variable {P : Program} {ops : Array Oper} {Q : Exit → Act → World → Prop} {N : Nd} {L : List (Nat × Value)} {w : World} {k n : Nat}
theorem pM {K : Act → World → Prop} (h : ¬ LetsOut Q) : ¬ LetsOut (Exit.then K Q) := fun ⟨a, w, h'⟩ => h ⟨a, w, h'⟩
theorem yW {b : Nat} (h : ¬ LetsOut Q) : ¬ LetsOut (Exit.inBlock b Q) := fun ⟨a, w, h'⟩ => h ⟨a, w, h'⟩
theorem y6 (h : ¬ LetsOut Q) : ¬ LetsOut (fW Q) := fun ⟨a, w, h'⟩ => h ⟨a, w, h'⟩
def WR (k n : Nat) (P : Program) (Q : Exit → Act → World → Prop) (c : Code) (N : Nd) (L : List (Nat × Value)) (w : World) : Prop := ¬ LetsOut Q → ∀ a, Fr N L a → c.wpIn (Fence.wide.inRound k) n P Q a w
theorem BN (hQ : ¬ LetsOut Q) (hd : ∀ (i : Nat) (o : Oper), ops[i]? = some o → ∀ c, o.op ≠ .defer c) : ∀ (l : List Nat) (a : Act) (w : World), wpOps P ops Q l a w → wpOpsIn (Fence.wide.inRound k) n P ops Q l a w
  | [], a, w, h => h
  | i :: rest, a, w, h => by
    have ih := fun a w => BN hQ hd rest a w
    unfold wpOps at h
    unfold wpOpsIn
    cases ho : ops[i]? with
    | none => rw [ho] at h; exact ih _ _ h
    | some o =>
      rw [ho] at h
      simp only at h ⊢
      by_cases hw : Region.wanted o (yielded ops a.tmps) = true
      · rw [if_pos hw] at h ⊢
        rcases h with h | h
        · refine ⟨fun _ _ => trivial, ?_⟩
          rw [show (Fence.wide.inRound k).round = some k from rfl, Oper.semAt_some k a.eval o (hd i o ho)]
          exact xA ih h
        · exact absurd h.2 hQ
      · rw [if_neg hw] at h ⊢
        exact ⟨fun _ _ => trivial, ih _ _ h⟩
theorem tt {l : List Oper} (h : l.all (fun o => lx o.op) = true) (i : Nat) (o : Oper) (ho : l.toArray[i]? = some o) : ∀ c, o.op ≠ .defer c := fun c e => by
 have hm : o ∈ l := by
  rw [List.getElem?_toArray] at ho
  exact List.mem_of_getElem? ho
 have := List.all_eq_true.1 h o hm
 rw [e] at this
 cases this
theorem cI {id : Nat} {l : List Oper} (h : WL P l.toArray Q l N L w) (hd : l.all (fun o => lx o.op) = true := by kernel_rfl) : WR k n P Q (.region id l.toArray false) N L w := fun hQ a ha =>
 wpIn_region_lit (so hQ (fun o ho c e => by
  have := List.all_eq_true.1 hd o ho
  rw [e] at this
  cases this) (h a ha))
theorem IG {id : Nat} {l : List Oper} (hd : l.all (fun o => lx o.op) = true) (hm : P.follows .mixedOrders = true) (hQ : ¬ LetsOut Q) {a : Act} (h : wpAny P .any l.toArray (fW Q) l.toArray.size (Array.replicate l.toArray.size false) a w.drew) :
  (Code.region id l.toArray true).wpIn (Fence.wide.inRound k) n P Q a w := by
 have h1 : (Code.region id l.toArray true).wpIn (Fence.wide.inRound k) n P (fW Q) a w := by
  refine wpIn_region_draw fun t => ?_
  simp only [Region.schedule, hm, Bool.true_or, if_true]
  exact BN (y6 hQ) (tt hd) _ _ _ (wpAny_sound l.toArray.size t _ a _ h)
 refine wpIn_mono h1 fun e a w hq => ?_
 cases e <;> first | exact hq | exact hq.elim
theorem rM {id : Nat} {l : List Oper} (hm : P.follows .mixedOrders = true) (n' : Nat) (hn : l.length = n') (h : ∀ w', Ext w w' → w'.heap = w.heap → WM P l.toArray (fW Q) n' (Array.replicate n' false) N L w') (hd : l.all (fun o => lx o.op) = true := by kernel_rfl) : WR k n P Q (.region id l.toArray true) N L w := by
 intro hQ a ha
 subst hn
 refine IG hd hm hQ (rK _ _ _ _ ?_)
 rw [List.size_toArray]
 exact h _ (Ext.drew w) rfl a ha
theorem eA {x y : Code} (h : ∀ K : Act → World → Prop, (∀ {N L w}, WR k n P Q y N L w → WK K N L w) → WR k n P (Exit.then K Q) x N L w) : WR k n P Q (.seq x y) N L w :=
 fun hQ a ha => wpIn_seq (h (y.wpIn (Fence.wide.inRound k) n P Q) (fun h => h hQ) (pM hQ) a ha)
theorem EB {c : Operand} {x y : Code} {b : Bool} (hc : ev L c = some (.bool b)) (ht : b = true → WR k n P Q x N L w) (hf : b = false → WR k n P Q y N L w) : WR k n P Q (.cond c x y) N L w :=
 fun hQ a ha => wpIn_cond_split (ha.ev hc) (fun e => ht e hQ a ha) (fun e => hf e hQ a ha)
theorem CJ {c : Operand} {x y : Code} {p : Prop} [Decidable p] (hc : ev L c = some (.bool (decide p))) (ht : p → WR k n P Q x N L w) (hf : ¬ p → WR k n P Q y N L w) : WR k n P Q (.cond c x y) N L w :=
 EB hc (fun e => ht (of_decide_eq_true e)) (fun e => hf (of_decide_eq_false e))
theorem yj (h : WQ Q .normal N L w) : WR k n P Q .skip N L w := fun _ a ha => wpIn_skip (h a ha)
theorem KZ (h : WQ Q .ret N L w) : WR k n P Q .ret N L w := fun _ a ha => wpIn_ret (h a ha)
theorem Fj {id : Nat} (h : WQ Q (.exit id) N L w) : WR k n P Q (.exit id) N L w := fun _ a ha => wpIn_exit (h a ha)
theorem pF {id : Nat} {c : Code} (h : WR k n P (Exit.inBlock id Q) c N L w) : WR k n P Q (.block id c) N L w := fun hQ a ha => wpIn_block (h (yW hQ) a ha)
theorem FJ {c : Code} (J : Nat → List (Nat × Value) → World → Prop) (n₀ : Nat) (L₀ : List (Nat × Value)) (h₀ : J n₀ L₀ w) (hS : jB L L₀)
  (round : ∀ (K : Act → World → Prop) (m : Nat) (L : List (Nat × Value)) (w : World), J m L w → (∀ {L1 : List (Nat × Value)} {w' : World} (n' : Nat) (L' : List (Nat × Value)), J n' L' w' → n' < m → jB L1 L' → WK K N L1 w') →
   WR k n P (Exit.then K Q) c N L w) :
  WR k n P Q (.loop c) N L w := by
 intro hQ a ha
 refine wpIn_loop_ghost (fun n a w => ∃ L, Fr N L a ∧ J n L w) n₀ ⟨L₀, ha.sub hS, h₀⟩ ?_
 rintro m a w ⟨L, ha, hJ⟩
 exact round _ m L w hJ (fun n' L' Vl hn hin a' Vm => ⟨n', hn, L', Vm.sub hin, Vl⟩) (pM hQ) a ha
end
section
variable {P : Program} {Q : Exit → Act → World → Prop} {N : Nd} {L : List (Nat × Value)} {w : World} {n : Nat}
theorem tJ {α : Type} {B b : Nat} {Kp : World → World → Prop} {I : List α → World → Prop} {Ix : Code → List α → World → Prop} {xs : List α} {W : World} : ¬ LetsOut (Exit.inBlock b (ownPostG B Kp I Ix xs W)) := fun ⟨_, _, h⟩ => h
theorem mH {α : Type} {g : Operand} {p x r0 b gf M : Nat} {Vo : TypeId} {Vm : String} {Vl : Array Edge} {lb : Array Value} {body : Code} {enc : α → Value} {Kp : World → World → Prop} {S Sp : List α → Prop}
  (hn : 1 ≤ n) (hg : ev L g = some (.func (.func gf) #[] lb)) (eg : ∀ args w, (callFunc gf args).run P w = .ok (.enter gf args) w)
  (hseq : SeqStopsK Fence.wide (n - 1) P gf lb (fun v => #[enc v]) Kp S Sp M w)
  (hKt : ∀ {A B C : World}, Kp A B → Kp B C → Kp A C) (hKb : ∀ (W : World) (l : Nat) (o o' : Obj), w.heap.size ≤ l → W.heap[l]? = some o → o.isCells = false → o.isWalk = false → Kp W (W.putObj l o'))
  (I : List α → World → Prop) (hI : OwnFrom w.heap.size I) (h0 : I [] w) (hp : Nat.ble (p + 1) N.n = true) (hx : Nat.ble (x + 1) N.n = true)
  (hbody : ∀ (k : Nat) (Q' : Exit → Act → World → Prop) (pre : List α) (v : α) (W : World), I pre W → pre.length < M → (∀ {N' : Nd} {L' : List (Nat × Value)} {W' : World}, KeepsFrom w.heap.size W W' → Kp W W' → I (pre ++ [v]) W' → WQ Q' .normal N' L' W') →
   WR k (n - 1 - 1) P Q' body ⟨N.n, []⟩ ((x, enc v) :: (p, enc v) :: L) W)
  (hdone : ∀ (D : Nat) (xs : List α) (W : World), w.heap.size ≤ D → S xs → I xs W → W.heap[D]? = some (.deferred (some [])) → WQ Q .normal ⟨N.n, { target := .collected D, args := #[] } :: N.ds⟩ L W) :
  WC P Q (.rangeFunc g #[p] (.region r0 #[⟨some x, .assign (.tmp p), Vo, Vm, Vl, none⟩] false) (.block b body)) N L w := by
 intro a ha
 rw [← wpIn_wide (n := n)]
 have Vp : p < a.tmps.size := by rw [ha.size]; exact Nat.le_of_ble_eq_true hp
 have fr : ∀ v, Fr ⟨N.n, []⟩ ((x, enc v) :: (p, enc v) :: L) { tmps := (a.tmps.setIfInBounds p (enc v)).setIfInBounds x (enc v), defers := [] } := fun v => by
  have h1 : Fr ⟨N.n, []⟩ L { tmps := a.tmps, defers := [] } := ⟨ha.size, rfl, ha.has⟩
  exact (h1.put hp (enc v)).put hx (enc v)
 refine wpIn_rangeFunc_ownG rfl hn (ha.ev hg) trivial eg hseq hKt hKb (Below.refl _ _) (fun _ => rfl) I (fun _ _ _ => False) hI (fun _ _ _ _ _ hs _ _ => hs) h0 (fun v => { tmps := (a.tmps.setIfInBounds p (enc v)).setIfInBounds x (enc v), defers := [] }) ?_ ?_ ?_ ?_
 ·intro k v W _ hK
  refine wpIn_region_list ?_
  refine wpListIn_plain rfl fun K' Vq => ?_
  refine ⟨fun _ _ => trivial, ?_⟩
  rw [show (Fence.wide.inRound k).round = some k from rfl, Oper.semAt_some k _ _ (fun c e => by cases e)]
  have e : ∀ ρ : Operand → Value, (execOp ρ ⟨some x, .assign (.tmp p), Vo, Vm, Vl, none⟩).run P W = .ok (.value (ρ (.tmp p))) W := fun ρ => by simp [execOp]
  rw [e]
  refine Vq _ _ ?_
  simpa [wpListIn, Act.put, Act.eval, Vp, Exit.then] using hK
 ·intro k pre v W Vn hl
  refine wpIn_block ?_
  exact hbody k _ pre v W Vn hl (fun h1 h2 h3 _ _ => ⟨h1, h2, h3⟩) tJ _ (fr v)
 ·intro D xs W hD hS Vn hK
  exact hdone D xs W hD hS Vn hK _ ⟨ha.size, by rw [ha.defers], ha.has⟩
 ·intro D c pre W _ _ h _
  exact h.elim
end
section
variable {P : Program} {Q : Exit → Act → World → Prop} {N : Nd} {L : List (Nat × Value)} {w : World} {c : Code}
def qo (n : Nat) (P : Program) (Q : Exit → Act → World → Prop) (c : Code) (N : Nd) (L : List (Nat × Value)) (w : World) : Prop := ∀ a, Fr N L a → Code.rounds P c Q n a w
theorem rz (n : Nat) (h : qo n P Q c N L w) : WC P Q (.loop c) N L w := fun a ha => wp_loop_rounds n (h a ha)
theorem lW {n : Nat} (h : ∀ K : Act → World → Prop, (∀ {N L w}, qo n P Q c N L w → WK K N L w) → WC P (Exit.then K Q) c N L w) : qo (n + 1) P Q c N L w := fun a ha =>
 h (Code.rounds P c Q n) (fun h => h) a ha
end
section
variable {P : Program} {w : World} {f : FuncId} {fn : Func} {c : Code} {args : Array Value} {R : Ending → World → Prop}
theorem uE (n N : Nat) {t : Tmp} (hf : P.funcs[f]? = some fn) (hb : fn.body = some c) (hN : fn.ntmps = N) (hr : fn.results = #[.tmp t]) (hsz : Nat.ble args.size N = true)
  (h : ∀ Q : Exit → Act → World → Prop,
   (∀ {N D D' : Nat} {L : List (Nat × Value)} {w : World} {v : Value}, look L t = some v → w.heap[D]? = some (.deferred (some [])) → w.heap[D']? = some (.deferred (some [])) → D ≠ D' → R (.returned v) ((w.putObj D (.deferred none)).putObj D' (.deferred none)) → WQ Q .ret (⟨N, [{ target := .collected D, args := #[] }, { target := .collected D', args := #[] }]⟩ : Nd) L w) →
   WC P Q c ⟨N, []⟩ (eX 0 args.toList) w) : Calls P f args w R :=
 jI n N hf hb hN hsz fun Q hQ => h Q
  (fun {N D D' L w v} hv hK Vl hne hR a ha => hQ (by
   show LeavesInM _ _ _ _ _ _ a.defers _ _
   rw [ha.defers]
   refine ⟨by simp, .inl ⟨_, _, rfl, run_takeDeferred hK, ?_⟩⟩
   refine ⟨by simp, .inl ⟨_, _, rfl, run_takeDeferred ((World.putObj_heap_other (Ne.symm hne)).trans Vl), ?_⟩⟩
   exact ⟨_, results_tmp hr _ _ _, by rw [cE (ha.has _ _ hv)]; exact hR⟩))
end
section
theorem ia {B : Nat} {S : List Nat} {W W' : World} (h : aX S W W') (hS : ∀ g ∈ S, g < B) : KeepsFrom B W W' :=
 ⟨h.size, fun i o hB hi _ => (h.block i (Array.getElem?_eq_some_iff.1 hi).1 (fun hm => absurd (hS i hm) Om)).trans hi⟩
theorem rW {b1 b2 : Nat} {S : List Nat} {W W' : World} (h : aX S W W') (h1 : b1 < W.heap.size) (h2 : b2 < W.heap.size) (n1 : b1 ∉ S) (n2 : b2 ∉ S) : rO b1 b2 W W' :=
 ⟨h.size, h.block b1 h1 n1, h.block b2 h2 n2⟩
end
end
section
open Go.RowKit
attribute [local irreducible] Y Ef WL WC WK WQ WM cx WN WF cT WJ gZ WG mR WR qo
open Wire Nd M20
def Ia (w : World) (cs : Array Value) (x : qf) : Prop := iz w cs x ∧ ∀ A n c, cs[6]? = some (.slice A n c) → n ≤ c
end
section
open Go.RowKit
attribute [local irreducible] Y Ef WL WC WK WQ WM cx WN WF cT WJ gZ
open Wire Nd
theorem sU {cs : Array Value} {l L : bO} {y : Nat} {A : Oa} {n c : Nat} {seed : Lb} {B : Oa} {m d : Nat} {gs : Lb} {z : Int} (w : World) (H : dz w cs l) (hf : l.Fit) (hU : (dt l).length ≤ 80000) (HA : Bs w A n seed) (hn : n ≤ 100) (HB : Bs w B m gs) (hm : m ≤ 100) (hX : gR l seed gs z = (L, y)) :
  Ct 68 #[.agg cs, .slice A n c, .slice B m d, .int .i64 z] w fun e w' => ∃ cs', e = .returned (.tuple #[.agg cs', .int .u8 (y : Int)]) ∧ kq w.heap.size w' cs' L ∧ Hi 2 w' cs' ∧ Ext w w' :=
 (sK w H hf hU HA hn HB hm).mono fun _ _ ⟨cs', h1, h2, h4, h3⟩ => ⟨cs', by rw [h1, hX], by rw [hX] at h2; exact h2, h4, h3⟩
theorem Cd {l : bO} {seed gs : Lb} {z : Int} (okw : aC (jh l)) (ha : nL l z) (Vl : seed.length = 32) : gR l seed gs z = (l.put (Sg.sig seed (Sg.text FZ.data.toList (fU l gs z))), 0) := by
 have e : iJ seed (Sg.text FZ.data.toList (fU l gs z)) = (Sg.sig seed (Sg.text FZ.data.toList (fU l gs z)), 0) := by unfold iJ; rw [if_pos Vl]
 unfold gR
 rw [if_neg (fun h => h okw), if_neg (fun h => h ha), e, if_neg (fun h => h rfl)]
theorem xf {l : bO} {s : Lb} (okw : aC (jh l)) (hs : s.length = 64) : aC (l.put s) := by
 obtain ⟨o1, o2, _, o4⟩ := okw
 exact ⟨o1, o2, hs, o4⟩
end
section
open Go.RowKit Tryz
section
open Go.Lib
variable {P : Program} {L : List (Nat × Value)} {w : World} {ty t u e : TypeId} {x y : Operand}
theorem yV {A : Oa} {n c base : Nat} {xs : List Value} {s : ByteArray} (hx : ev L x = some (.slice A n c)) (hy : ev L y = some (.string s)) (ht : P.underlying t = some (.slice e)) (hu : P.underlying u = some .string) (hi : (P.info? e).map (fun i => (i.zero, i.size, i.bytes)) = some (some (.int .u8 0), 1, 1)) (hown : Row w base e A n c xs) (hl : n + s.size ≤ 1000000) (hbase : base ≤ w.heap.size) :
    Ef P L w (.call { callee := .builtin .append, args := #[x, y], argTypes := #[t, u] }) ty fun v w' => ∃ A' c', v = .slice A' (n + s.size) c' ∧ Row w' base e A' (n + s.size) c' (xs ++ s.data.toList.map bv) ∧ Below base w w' := Ef.run fun ρ hρ => by
  cases hq : P.info? e with
  | none => rw [hq] at hi; cases hi
  | some i =>
    rw [hq] at hi
    simp only [Option.map_some, Option.some.injEq, Prod.mk.injEq] at hi
    obtain ⟨h1, h2, h3⟩ := hi
    obtain ⟨v', w', hrun, h4, h5, _⟩ := run_append_own_string (P := P) w base t u ty e i ht hu hq h1 h2 h3 _ n xs hown s (by unfold maxLen; omega) Om hbase
    obtain ⟨A', c', rfl⟩ := mN h4
    exact ⟨_, w', ⟨A', c', rfl, h4, (Below.refl base w).grown h5 hbase fun k hk => (World.ownsRow.lt hown k hk).1⟩, fun _ _ _ _ => by simp [execOp, resolve, invoke, builtin, hρ _ _ hx, hρ _ _ hy, hrun]⟩
end
attribute [local irreducible] Y Ef WL WC WK WQ WM cx
namespace Hk
def sb (s : ByteArray) : List UInt8 := s.data.toList
theorem nb (s : ByteArray) : (sb s).length = s.size := by unfold sb; rw [Array.length_toList]; rfl
def cat (ss : List ByteArray) : List UInt8 := ss.flatMap sb
theorem mu (s : ByteArray) (ss : List ByteArray) : cat (s :: ss) = sb s ++ cat ss := rfl
theorem ti {ss : List ByteArray} {i : Nat} (h : i < ss.length) : cat (ss.take (i + 1)) = cat (ss.take i) ++ sb ss[i] := by
 rw [List.take_succ_eq_append_getElem h]; unfold cat; rw [List.flatMap_append]; simp
theorem Jv {ss : List ByteArray} {i : Nat} (h : i < ss.length) : (cat (ss.take i)).length + ss[i].size ≤ (cat ss).length := by
 have h1 : cat ss = cat (ss.take (i + 1)) ++ cat (ss.drop (i + 1)) := by
  unfold cat; rw [← List.flatMap_append, List.take_append_drop]
 rw [h1, ti h, List.length_append, List.length_append, nb]; omega
theorem yx (xs : Lb) : sb (kL xs) = xs := rfl
def Iz : ByteArray := ⟨#[72, 80, 75, 69, 45, 118, 49]⟩
def ext (nm : ByteArray) (xs : Lb) (lb : ByteArray) (ys : Lb) : List UInt8 := Mac.tag xs (cat [Iz, nm, lb, kL ys])
def exp (nm : ByteArray) (xs : Lb) (lb : ByteArray) (is : Lb) (k : Nat) : List UInt8 := Kdf.expand xs (cat [kL (Wire.be 2 k), Iz, nm, lb, kL is]) k
end Hk
open Hk
theorem oz {g : Nat} {t : TypeId} (ss : List ByteArray) (k : Nat) (w : World) (B : ao w g t (ss.map Value.string).toArray) (hk : ss.length = k) (Vn : k ≤ 100) (hs : (cat ss).length ≤ 100000) :
  Ct 167 #[.slice (some ⟨g, 0, none⟩) k k] w fun e w' => ∃ A' m c', e = .returned (.slice A' m c') ∧ Row w' w.heap.size 5 A' m c' ((cat ss).map bv) ∧ Ext w w' := by
 refine aj 17 func167 rfl rfl rfl rfl ?_
 intro _ hret
 refine aU ?_
 refine aF (fun n' L wr => ∃ (i m c5 : Nat) (A5 : Oa), L = [(3, .slice A5 m c5), (6, .slice (some ⟨g, 0, none⟩) k k), (7, .int .i64 (k : Int)), (8, .int .i64 (i : Int))] ∧ n' = k - i ∧ (i ≤ k ∧ Ext w wr ∧ Row wr w.heap.size 5 A5 m c5 ((cat (ss.take i)).map bv))) _ _ ⟨0, 0, 0, none, rfl, rfl, Nat.zero_le _, Ext.refl _, Row.empty _ _ _⟩ Ls ?_
 rintro _ n' L wr ⟨i, m, c5, A5, rfl, rfl, _, F, R⟩ Vl
 refine aU ?_
 refine al rfl (fun Vm => ?_) (fun Vm => ?_)
 ·have hik : i < ss.length := by omega
  have hm : m = (cat (ss.take i)).length := by have := R.len; simpa using this.symm
  have hle := Jv hik
  have hcell : wr.cell? ⟨g, 0 + i, none⟩ = some (.string ss[i]) := by
   rw [Nat.zero_add]
   exact (B.ext F).get (by simp [hik])
  refine au 6 ?_
  refine ak (aD rfl rfl Tn.u Kr (j := i) Om Om) ?_
  refine ak (ah rfl Tn.u rfl hcell) ?_
  refine aU ?_
  refine af (yV rfl rfl Tn.u Tn.u Kr R Om F.size) rfl ?_
  rintro _ _ ⟨A6, c6, rfl, R6, be⟩
  have F6 := F.trans be; rw [← List.map_append] at R6
  refine au 8 ?_
  refine ae ?_
  refine Vl _ _ ⟨i + 1, _, c6, A6, rfl, rfl, by omega, F6, by rw [ti hik]; exact R6⟩ Om Ls
 ·refine aU ?_
  refine hret rfl ?_
  obtain rfl : i = k := by omega
  rw [List.take_of_length_le Om] at R
  exact ⟨A5, m, c5, rfl, R, F⟩
theorem eV (nm lb : ByteArray) (A B : Oa) (n c m d : Nat) (xs ys : Lb) (w : World) (HA : Bs w A n xs) (hn : n ≤ 100000) (HB : Bs w B m ys) (hm : m ≤ 10000) (h1 : nm.size ≤ 100) (h2 : lb.size ≤ 100) :
  Ct 137 #[.string nm, .slice A n c, .string lb, .slice B m d] w fun e w' => ∃ A' c', e = .returned (.slice A' 32 c') ∧ Bs w' A' 32 (Hk.ext nm xs lb ys) ∧ Ext w w' := by
 have E := Ext.refl w
 have hyl := HB.1
 have hl : (cat [Iz, nm, lb, kL ys]).length ≤ 11000 := by
  simp only [mu, List.length_append, nb nm, nb lb, yx, show (sb Iz).length = 7 from rfl, show (cat []).length = 0 from rfl]; omega
 refine aj 17 func137 rfl rfl rfl rfl ?_
 intro _ hret
 refine au 11 ?_
 refine ak (nh rfl HB Tn.u Tn.u Tn.u) ?_
 refine af (aB (z := .string ⟨#[]⟩) Tn.u Kr rfl rfl rfl rfl rfl) rfl ?_
 rintro _ _ ⟨_, rfl, B1, _, ex⟩
 obtain ⟨HA,E⟩ := aY ex HA E
 refine aL func167 rfl (oz [Iz, nm, lb, kL ys] 4 _ B1 rfl Om Om) ?_
 rintro e _ ⟨A2, m2, c2, rfl, R2, ex⟩
 refine aU ?_
 obtain ⟨HA,E⟩ := aY ex HA E
 have H2 := R2.bs; have Vl := H2.1
 refine aL func99 rfl (tU A A2 n c m2 c2 xs _ _ HA Om H2 Om) ?_
 rintro e _ ⟨A3, c3, rfl, H3, ex⟩
 replace E := E.ext ex
 refine aU ?_
 refine hret rfl ?_
 exact ⟨A3, c3, rfl, H3, E⟩
theorem gT (nm lb : ByteArray) (A B : Oa) (n c m d k : Nat) (xs ys : Lb) (w : World) (HA : Bs w A n xs) (hn : n ≤ 100000) (HB : Bs w B m ys) (hm : m ≤ 10000) (h1 : nm.size ≤ 100) (h2 : lb.size ≤ 100) (hk : k ≤ 8160) :
  Ct 136 #[.string nm, .slice A n c, .string lb, .slice B m d, .int .i64 (k : Int)] w fun e w' => ∃ A' c', e = .returned (.slice A' k c') ∧ Bn w.heap.size w' A' k (Hk.exp nm xs lb ys k) ∧ k ≤ c' ∧ Ext w w' := by
 have E := Ext.refl w
 have hyl := HB.1
 have hbl := Wire.gd 2 k
 have hl : (cat [kL (Wire.be 2 k), Iz, nm, lb, kL ys]).length ≤ 11000 := by
  simp only [mu, List.length_append, nb nm, nb lb, yx, show (sb Iz).length = 7 from rfl, show (cat []).length = 0 from rfl]; omega
 refine aj 32 func136 rfl rfl rfl rfl ?_
 intro _ hret
 refine aU ?_
 refine aL func131 rfl (eZ none 0 0 2 k [] _ (Bs.nil _ _) Om Om Om) ?_
 rintro e _ ⟨_, _, rfl, R1, ex⟩
 obtain ⟨HA,HB,E⟩ := bC ex HA HB E
 have H1 := R1.bs
 refine au 8 ?_
 refine ak (nh rfl H1 Tn.u Tn.u Tn.u) ?_
 refine au 3 ?_
 refine ak (nh rfl HB Tn.u Tn.u Tn.u) ?_
 refine af (aB (z := .string ⟨#[]⟩) Tn.u Kr rfl rfl rfl rfl rfl) rfl ?_
 rintro _ _ ⟨_, rfl, B2, _, ex⟩
 obtain ⟨HA,E⟩ := aY ex HA E
 refine aL func167 rfl (oz [kL (Wire.be 2 k), Iz, nm, lb, kL ys] 5 _ B2 rfl Om Om) ?_
 rintro e _ ⟨A3, m3, c3, rfl, R3, ex⟩
 obtain ⟨HA,E⟩ := aY ex HA E
 have H3 := R3.bs; have Vo := H3.1
 refine aU ?_
 have Vl := E.size
 refine aL func191 rfl (oy A A3 n c m3 c3 k xs _ _ HA Om H3 Om hk) ?_
 rintro e _ ⟨A4, c4, rfl, ⟨H4, Vm⟩, Vn, ex⟩
 replace E := E.ext ex
 refine aU ?_
 refine hret rfl ?_
 exact ⟨A4, c4, rfl, Bn.lo ⟨H4, Vm⟩ Vl, Vn, E⟩
end
section
open Go.RowKit Tryz
attribute [local irreducible] Y Ef WL WC WK WQ WM cx WN WF cT
def bV (u : Fp.F) (N : Nat) : Nat → (Fp.F × Fp.F) × (Fp.F × Fp.F)
 | 0 => ((1, 0), (u, 1))
 | i + 1 => if N / 2 ^ (254 - i) % 2 = 1 then ((Eh (bV u N i).2.1 (bV u N i).2.2 (bV u N i).1.1 (bV u N i).1.2 u).2, (Eh (bV u N i).2.1 (bV u N i).2.2 (bV u N i).1.1 (bV u N i).1.2 u).1)
   else Eh (bV u N i).1.1 (bV u N i).1.2 (bV u N i).2.1 (bV u N i).2.2 u
theorem DH {u : Fp.F} {N i : Nat} (h : N / 2 ^ (254 - i) % 2 = 1) : bV u N (i + 1) = ((Eh (bV u N i).2.1 (bV u N i).2.2 (bV u N i).1.1 (bV u N i).1.2 u).2, (Eh (bV u N i).2.1 (bV u N i).2.2 (bV u N i).1.1 (bV u N i).1.2 u).1) := by
 rw [bV, if_pos h]
theorem Ar {u : Fp.F} {N i : Nat} (h : ¬ N / 2 ^ (254 - i) % 2 = 1) : bV u N (i + 1) = Eh (bV u N i).1.1 (bV u N i).1.2 (bV u N i).2.1 (bV u N i).2.2 u := by
 rw [bV, if_neg h]
def oZ (N : Nat) (u : Fp.F) : Fp.F := (bV u N 255).1.1 * Fp.inv (bV u N 255).1.2
theorem um (A : Oa) (c : Nat) (es : Lb) (f3 : Nat → Nat) (u : Fp.F) (w : World) (HA : Bs w A 32 es) (U : FE (fe f3) u) :
  Ct 238 #[.slice A 32 c, .agg (fe f3)] w fun e w' => ∃ g, e = .returned (.slice (some ⟨g, 0, none⟩) 32 32) ∧ w.heap.size ≤ g ∧ ao w' g 5 (cJ (Fp.le 32 (oZ (Fp.num es) u).val)) ∧ Ext w w' := by
 have hle := HA.1
 have E := Ext.refl w
 have VF := HA
 refine aj 49 func238 rfl rfl rfl rfl ?_
 intro _ hret
 refine aU ?_
 intro w1 g3 (B3 : ao _ _ _ (fe f3)) VO ex
 replace E := E.ext ex
 refine aU ?_
 refine eY 0 (fun n' L wr => ∃ (b g5 g6 : Nat) (p1 p2 q1 q2 : Nat → Nat), L = [(0, .slice A 32 c), (3, .pointer (some ⟨g3, 0, none⟩)), (5, .pointer (some ⟨g5, 0, none⟩)), (6, .pointer (some ⟨g6, 0, none⟩)), (7, .int .i64 (b : Int))] ∧ n' = 1 + b ∧ (b ≤ 254 ∧ w.heap.size ≤ g5 ∧ w.heap.size ≤ g6 ∧ g3 < g5 ∧ g3 < g6 ∧ g5 ≠ g6 ∧ Ext w wr ∧ ao wr g3 134 (fe f3) ∧ ao wr g5 300 (pr p1 p2) ∧ ao wr g6 300 (pr q1 q2) ∧ FE (fe p1) (bV u (Fp.num es) (254 - b)).1.1 ∧ FE (fe p2) (bV u (Fp.num es) (254 - b)).1.2 ∧ FE (fe q1) (bV u (Fp.num es) (254 - b)).2.1 ∧ FE (fe q2) (bV u (Fp.num es) (254 - b)).2.2)) rfl ?_ ?_
 ·rintro G n' L wr ⟨b, g5, g6, p1, p2, q1, q2, rfl, rfl, _, Vo, Vp, Vv, Vw, n56, E, B3, B5, B6, P1, P2, Q1, Q2⟩ Vx
  obtain ⟨i, hi⟩ : ∃ i, i = 254 - b := ⟨_, rfl⟩
  have hbi : b = 254 - i := by omega
  rw [← hi] at P1 P2 Q1 Q2
  have hnb := yn es b Om
  obtain ⟨b1, VG, x, rfl, hx, Vq⟩ := VF.byte (k := b / 8) Om
  have hcx := (E.cell (dQ Vq)).trans Vq
  have hxl := x.toNat_lt
  rw [← hx.out] at hnb
  have hxd : x.toNat / 2 ^ (b % 8) < 256 := Nat.lt_of_le_of_lt (Nat.div_le_self _ _) Om
  refine au 5 ?_
  refine ak (cY rfl rfl Om (show IntKind.i64.wrap ((b : Int).tdiv 8) = ((b / 8 : Nat) : Int) from bk rfl Om)) ?_
  refine ak (aD rfl rfl Tn.u Kr (j := b / 8) rfl Om) ?_
  refine ak (ah rfl Tn.u rfl hcx) ?_
  refine au 1 ?_
  refine ak (cy rfl rfl Om (show ((b : Int).tmod 8) = ((b % 8 : Nat) : Int) from rfl)) ?_
  refine ak (bY rfl rfl Om (BU _ _ Om)) ?_
  refine ak (cD rfl rfl (IB _ hxd)) ?_
  refine aU ?_
  refine al rfl (fun VH => ?_) (fun VH => ?_)
  ·have hlad := DH (u := u) (N := Fp.num es) (i := i) (by rw [← hbi]; omega)
   refine au 1 ?_
   refine ak (GZ rfl B6) ?_
   refine ak (GZ rfl B5) ?_
   refine ak (cN rfl B3) ?_
   refine aL func259 rfl (pE q1 q2 p1 p2 f3 _ _ _ _ u _ Q1 Q2 P1 P2 U) ?_
   rintro e w6 ⟨h1, h2, h3, h4, rfl, G1, G2, G3, G4, ex⟩
   obtain ⟨E,B3,B5,B6⟩ := bU ex E B3 B5 B6
   refine au 4 ?_
   refine af (ag rfl rfl (by rw [bX]; kernel_rfl) B6 (by rw [bX, bX]) (ju _ _)) rfl ?_
   rintro _ w7 ⟨rfl, D6, cg⟩
   replace B3 := B3.aw cg Om; replace B5 := B5.aw cg Om; replace E := E.aw cg Vp
   refine af (ag rfl rfl (by rw [bX]; kernel_rfl) B5 (by rw [bX, bX]) (ju _ _)) rfl ?_
   rintro _ w8 ⟨rfl, D5, cg⟩
   replace B3 := B3.aw cg Om; replace D6 := D6.aw cg Om; replace E := E.aw cg Vo
   refine aU ?_
   refine al rfl (fun VA => ?_) (fun VA => ?_)
   ·refine aU ?_
    refine bZ ?_
    obtain ⟨j, rfl⟩ : ∃ j, b = j + 1 := ⟨b - 1, by omega⟩
    rw [show (((j + 1 : Nat) : Int) - 1) = (j : Int) by omega]
    have hij : 254 - j = i + 1 := by omega
    refine Vx _ _ ⟨j, g5, g6, h3, h4, h1, h2, rfl, rfl, by omega, Vo, Vp, Vv, Vw, n56, E, B3, D5, D6, by rw [hij, hlad]; exact G3, by rw [hij, hlad]; exact G4, by rw [hij, hlad]; exact G1, by rw [hij, hlad]; exact G2⟩ Om Ls
   ·refine aU ?_
    refine aA Kr 8 rfl ?_; intro VI ex VJ
    obtain ⟨E,D5⟩ := aY ex E D5
    refine zm [0] ?_
    refine my 1 rfl (qY rfl D5) ?_
    refine zm [2] ?_
    refine my 3 rfl (qV rfl D5) ?_
    refine bm 4 rfl func145 rfl (ir G4 _) ?_
    rintro e w9 ⟨c9, rfl, F9, ex⟩
    replace E := E.ext ex
    refine aU ?_
    refine bm 5 rfl func144 rfl (bE G3 F9 _) ?_
    rintro e VK ⟨VL, rfl, Vn, ex⟩
    refine aU ?_
    replace E := E.ext ex
    replace Vn := Vn.congr (show _ = oZ (Fp.num es) u by unfold oZ; rw [show (255 : Nat) = i + 1 by omega, hlad]); have hsz := E.size
    refine bm 6 rfl func155 rfl (iQ Vn _) ?_
    rintro e VM ⟨VB, rfl, VC, VD, ex⟩
    replace E := E.ext ex
    refine zm [7] ?_
    refine cC ?_
    refine hret rfl ?_
    exact ⟨VB, rfl, by omega, VD, E⟩
  ·have hlad := Ar (u := u) (N := Fp.num es) (i := i) (by rw [← hbi]; omega)
   refine au 1 ?_
   refine ak (GZ rfl B5) ?_
   refine ak (GZ rfl B6) ?_
   refine ak (cN rfl B3) ?_
   refine aL func259 rfl (pE p1 p2 q1 q2 f3 _ _ _ _ u _ P1 P2 Q1 Q2 U) ?_
   rintro e w6 ⟨h1, h2, h3, h4, rfl, G1, G2, G3, G4, ex⟩
   obtain ⟨E,B3,B5,B6⟩ := bU ex E B3 B5 B6
   refine au 4 ?_
   refine af (ag rfl rfl (by rw [bX]; kernel_rfl) B5 (by rw [bX, bX]) (ju _ _)) rfl ?_
   rintro _ w7 ⟨rfl, D5, cg⟩
   replace B3 := B3.aw cg Om; replace B6 := B6.aw cg Om; replace E := E.aw cg Vo
   refine af (ag rfl rfl (by rw [bX]; kernel_rfl) B6 (by rw [bX, bX]) (ju _ _)) rfl ?_
   rintro _ w8 ⟨rfl, D6, cg⟩
   replace B3 := B3.aw cg Om; replace D5 := D5.aw cg Om; replace E := E.aw cg Vp
   refine aU ?_
   refine al rfl (fun VA => ?_) (fun VA => ?_)
   ·refine aU ?_
    refine bZ ?_
    obtain ⟨j, rfl⟩ : ∃ j, b = j + 1 := ⟨b - 1, by omega⟩
    rw [show (((j + 1 : Nat) : Int) - 1) = (j : Int) by omega]
    have hij : 254 - j = i + 1 := by omega
    refine Vx _ _ ⟨j, g5, g6, h1, h2, h3, h4, rfl, rfl, by omega, Vo, Vp, Vv, Vw, n56, E, B3, D5, D6, by rw [hij, hlad]; exact G1, by rw [hij, hlad]; exact G2, by rw [hij, hlad]; exact G3, by rw [hij, hlad]; exact G4⟩ Om Ls
   ·refine aU ?_
    refine aA Kr 8 rfl ?_; intro VI ex VJ
    obtain ⟨E,D5⟩ := aY ex E D5
    refine zm [0] ?_
    refine my 1 rfl (qY rfl D5) ?_
    refine zm [2] ?_
    refine my 3 rfl (qV rfl D5) ?_
    refine bm 4 rfl func145 rfl (ir G2 _) ?_
    rintro e w9 ⟨c9, rfl, F9, ex⟩
    replace E := E.ext ex
    refine aU ?_
    refine bm 5 rfl func144 rfl (bE G1 F9 _) ?_
    rintro e VK ⟨VL, rfl, Vn, ex⟩
    refine aU ?_
    replace E := E.ext ex
    replace Vn := Vn.congr (show _ = oZ (Fp.num es) u by unfold oZ; rw [show (255 : Nat) = i + 1 by omega, hlad]); have hsz := E.size
    refine bm 6 rfl func155 rfl (iQ Vn _) ?_
    rintro e VM ⟨VB, rfl, VC, VD, ex⟩
    replace E := E.ext ex
    refine zm [7] ?_
    refine cC ?_
    refine hret rfl ?_
    exact ⟨VB, rfl, by omega, VD, E⟩
 ·intro G Vx
  refine aU ?_
  refine dc Kr 10 rfl ?_; intro VN ex VP
  obtain ⟨E,B3⟩ := aY ex E B3
  have Vy := E
  have Vl := B3
  have X0 := Ext.refl VN
  refine cR 1 rfl Kr (aJ rfl (cells := fe (fun _ => 0)) Kr) rfl ?_
  refine cR 3 rfl Kr (cN rfl Vl) rfl ?_
  refine dd (fl := [nT 6 5 300 (pr (fun _ => 0) (fun _ => 0)), nT 7 6 300 (pr (fun _ => 0) (fun _ => 0))]) rfl ?_
  refine jj 0 (some 8) func143 ?_
  intro _ ex exb
  obtain ⟨E,B3,X0⟩ := bC ex E B3 X0
  refine ⟨_, (cP 1 _ Om), ?_⟩
  rintro e _ ⟨_, rfl, F2, ex⟩
  refine ⟨_, rfl, ex, ?_⟩
  obtain ⟨E,B3,X0⟩ := bC ex E B3 X0
  obtain ⟨f2, rfl, F2⟩ := F2.fe
  refine mZ (dst := some 10) 2 rfl Kr (aJ rfl (cells := pr f2 (fun _ => 0)) Kr) rfl (aS (of_decide_eq_true rfl) (aS (of_decide_eq_true rfl) av)) ?_
  refine jj 4 (some 12) func143 ?_
  intro _ ex exb
  obtain ⟨E,B3,X0⟩ := bC ex E B3 X0
  refine ⟨_, (cP 1 _ Om), ?_⟩
  rintro e _ ⟨_, rfl, F4, ex⟩
  refine ⟨_, rfl, ex, ?_⟩
  obtain ⟨E,B3,X0⟩ := bC ex E B3 X0
  obtain ⟨f4, rfl, F4⟩ := F4.fe
  refine mZ (dst := some 13) 5 rfl Kr (aJ rfl (cells := pr f3 f4) Kr) rfl (aS (of_decide_eq_true rfl) (aS (of_decide_eq_true rfl) av)) ?_
  refine fH ⟨(aS (bw rfl Kr) (aS (bw rfl Kr) av)), of_decide_eq_true rfl, of_decide_eq_true rfl, (aS (⟨rfl, of_decide_eq_true rfl⟩) (aS (⟨rfl, of_decide_eq_true rfl⟩) av)), (aS (aR Kr) (aS (aR Kr) av))⟩ Kr ?_
  rintro _ _ _ ex ⟨⟨g5, rfl, Vr⟩, Vs⟩ ⟨⟨g6, rfl, Vt⟩, Vu⟩ Vm
  replace Vs := Vs g5 rfl
  replace Vu := Vu g6 rfl
  have Vz : g5 ≠ g6 := fun e => Vm g5 rfl (by rw [e]; rfl)
  obtain ⟨E,B3,X0⟩ := bC ex E B3 X0
  have Vo := Nat.le_trans Vy.size Vs; have Vv := Nat.lt_of_lt_of_le Vl.lt Vs
  have Vp := Nat.le_trans Vy.size Vu; have Vw := Nat.lt_of_lt_of_le Vl.lt Vu
  refine cL 8 Kr ?_
  refine dx rfl (ag rfl rfl (by rw [bX]; kernel_rfl) Vr (by rw [bX, bX]) (ju _ _)) rfl ?_
  rintro _ _ ⟨rfl, Vr, cg⟩
  replace X0 := X0.aw cg Vs
  refine ⟨X0, ?_⟩
  replace E := Vy.ext X0
  replace B3 := Vl.ext X0
  replace Vt := Vt.aw cg Om
  refine cL 9 Kr ?_
  refine dx rfl (ag rfl rfl (by rw [bX]; kernel_rfl) Vt (by rw [bX, bX]) (ju _ _)) rfl ?_
  rintro _ _ ⟨rfl, Vt, cg⟩
  replace X0 := X0.aw cg Vu
  refine ⟨X0, ?_⟩
  replace E := Vy.ext X0
  replace B3 := Vl.ext X0
  replace Vr := Vr.aw cg Om
  refine dA Kr ?_
  refine au 7 ?_
  refine lk ?_; intro VQ VE
  refine gI ?_
  refine ae (VE ?_)
  exact Vx _ _ ⟨254, g5, g6, f2, (fun _ => 0), f3, f4, rfl, rfl, by omega, Vo, Vp, Vv, Vw, by omega, E, B3, Vr, Vt, F2, FE.zero, U, F4⟩ Ls
end
end Go.Proofs.YtgfafidlkldeaaaGreat
