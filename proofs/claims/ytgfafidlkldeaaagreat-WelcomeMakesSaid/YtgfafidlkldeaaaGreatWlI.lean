/- The law WelcomeRaw: what any welcome has for a package. No conditions: contracts of functions. -/
import Derived.Test.YtgfafidlkldeaaaGreatWlL
import Derived.Test.YtgfafidlkldeaaaGreatMuC
import Derived.Test.YtgfafidlkldeaaaGreatSecE
import Derived.Test.YtgfafidlkldeaaaGreatAu
import Derived.Test.YtgfafidlkldeaaaGreatWlK
import Derived.Test.YtgfafidlkldeaaaGreatCtxA
import Derived.Test.YtgfafidlkldeaaaGreatRowW
set_option linter.unusedVariables false
set_option linter.unusedSimpArgs false
set_option maxHeartbeats 4000000
set_option maxRecDepth 4000
namespace Go.Proofs.YtgfafidlkldeaaaGreat
section
open Go.RowKit Tryz
theorem FU {Q : Exit → Act → World → Prop} {e : Exit} {N : Nd} {L : List (Nat × Value)} {w : World} (L' : List (Nat × Value)) (hS : jB L L') (h : WQ Q e N L' w) : WQ Q e N L w := fun a ha => h a (ha.sub hS)
section
variable {P : Program} {w : World} {f : FuncId} {fn : Func} {c : Code} {args : Array Value} {R : Ending → World → Prop}
theorem pP {p q : Tmp} {ty Vl t : TypeId} (hr : fn.results = #[.cell p ty, .cell q Vl]) (tmps : Array Value) {d d' : TypeDesc} {g g' : Nat} {cs : Array Value} {v : Value} (hp : tmps.getD p undef = .pointer (some ⟨g, 0, none⟩)) (hq : tmps.getD q undef = .pointer (some ⟨g', 0, none⟩)) (hg : ao w g t cs) (Vm : w.cell? ⟨g', 0, none⟩ = some v)
  (hu : P.underlying ty = some d) (hd : (match d with | .struct _ | .array _ _ => true | _ => false) = true) (hi : (P.info? ty).map (·.size) = some cs.size) (Vn : P.underlying Vl = some d') (Vo : (match d' with | .struct _ | .array _ _ => false | _ => true) = true) : (results fn tmps).run P w = .ok (.tuple #[.agg cs, v]) w := by
 have Vp : tmps[p]?.getD undef = .pointer (some ⟨g, 0, none⟩) := by simpa using hp
 have Vq : tmps[q]?.getD undef = .pointer (some ⟨g', 0, none⟩) := by simpa using hq
 have h2 : (loadVar Vl ⟨g', 0, none⟩).run P w = .ok v w := by simp [loadVar, xi (P := P) Vn Vo w, Vm]
 simp [results, hr, Vp, Vq, asAddr, run_loadVar_row w g t ty cs _ d hg hu hd hi, h2]
theorem tP {ty Vn : TypeId} {s : Nat} {d d' : TypeDesc} (n N : Nat) {u t : Tmp} (hf : P.funcs[f]? = some fn) (hb : fn.body = some c) (hN : fn.ntmps = N) (hr : fn.results = #[.cell u ty, .cell t Vn]) (hu : P.underlying ty = some d) (hd : (match d with | .struct _ | .array _ _ => true | _ => false) = true) (hs : (P.info? ty).map (·.size) = some s)
  (Vo : P.underlying Vn = some d') (Vp : (match d' with | .struct _ | .array _ _ => false | _ => true) = true) (hsz : Nat.ble args.size N = true)
  (h : ∀ Q : Exit → Act → World → Prop, (∀ {N : Nat} {L : List (Nat × Value)} {w : World} {g g' : Nat} {e : TypeId} {cs : Array Value} {v : Value}, look L u = some (.pointer (some ⟨g, 0, none⟩)) → look L t = some (.pointer (some ⟨g', 0, none⟩)) → ao w g e cs → cs.size = s → w.cell? ⟨g', 0, none⟩ = some v → R (.returned (.tuple #[.agg cs, v])) w → WQ Q .ret (⟨N, []⟩ : Nd) L w) →
   (∀ {N D : Nat} {L : List (Nat × Value)} {w : World} {g g' : Nat} {e : TypeId} {cs : Array Value} {v : Value}, look L u = some (.pointer (some ⟨g, 0, none⟩)) → look L t = some (.pointer (some ⟨g', 0, none⟩)) → w.heap[D]? = some (.deferred (some [])) → ao w g e cs → cs.size = s → w.cell? ⟨g', 0, none⟩ = some v → R (.returned (.tuple #[.agg cs, v])) (w.putObj D (.deferred none)) →
    WQ Q .ret (⟨N, [{ target := .collected D, args := #[] }]⟩ : Nd) L w) → WC P Q c ⟨N, []⟩ (eX 0 args.toList) w) : Calls P f args w R :=
 jI n N hf hb hN hsz fun Q hQ => h Q
  (fun {N L w g g' e cs v} hv ht hg hz Vl hR a ha => hQ (by
   show LeavesInM _ _ _ _ _ _ a.defers _ _
   rw [ha.defers]
   exact ⟨_, pP hr _ (cE (ha.has _ _ hv)) (cE (ha.has _ _ ht)) hg Vl hu hd (by rw [hz]; exact hs) Vo Vp, hR⟩))
  (fun {N D L w g g' e cs v} hv ht hK hg hz Vl hR a ha => hQ (by
   show LeavesInM _ _ _ _ _ _ a.defers _ _
   rw [ha.defers]
   refine ⟨by simp, .inl ⟨_, _, rfl, run_takeDeferred hK, ?_⟩⟩
   have hne : g ≠ D := fun e' => by subst e'; rw [show w.heap[g]? = _ from hg] at hK; cases hK
   have Vm : g' ≠ D := fun e' => by subst e'; simp [World.cell?, hK] at Vl
   have hG : ao (w.putObj D (.deferred none)) g e cs := (World.putObj_heap_other hne).trans hg
   have Vq : (w.putObj D (.deferred none)).cell? ⟨g', 0, none⟩ = some v := (World.cell?_of_block (w := w) (World.putObj_heap_other Vm)).trans Vl
   exact ⟨_, pP hr _ (cE (ha.has _ _ hv)) (cE (ha.has _ _ ht)) hG Vq hu hd (by rw [hz]; exact hs) Vo Vp, hR⟩))
end
attribute [local irreducible] Y Ef WL WC WK WQ WM cx WN WF cT WJ gZ WG mR WR qo
open Wire Nd Hk
/-! What welcome.Make makes, plainly. -/
def Io (j seed inf : Lb) (gs : List Gs) : kX × Nat :=
 match (List.range gs.length).find? (fun i => decide ((ll j seed inf gs i).2 ≠ 0)) with
 | some i => (kX.zero, (ll j seed inf gs i).2)
 | none => (⟨(List.range gs.length).map fun i => (ll j seed inf gs i).1, inf⟩, 0)
theorem AT {j seed inf : Lb} {gs : List Gs} (h : ∀ i, i < gs.length → (ll j seed inf gs i).2 = 0) : Io j seed inf gs = (⟨(List.range gs.length).map fun i => (ll j seed inf gs i).1, inf⟩, 0) := by
 have e : (List.range gs.length).find? (fun i => decide ((ll j seed inf gs i).2 ≠ 0)) = none := List.find?_eq_none.2 fun i hi => by simp [h i (List.mem_range.1 hi)]
 unfold Io; rw [e]
theorem sf {j seed inf : Lb} {gs : List Gs} {i : Nat} (hi : i < gs.length) (h : ∀ k, k < i → (ll j seed inf gs k).2 = 0) (hn : (ll j seed inf gs i).2 ≠ 0) : Io j seed inf gs = (kX.zero, (ll j seed inf gs i).2) := by
 have e : (List.range gs.length).find? (fun i => decide ((ll j seed inf gs i).2 ≠ 0)) = some i := by
  refine zM _ _ i i ?_ ?_ (by simpa using hn)
  ·rw [List.getElem?_range hi]
  ·rw [List.take_range]
   exact List.find?_eq_none.2 fun k hk => by simp [h k (by have := List.mem_range.1 hk; omega)]
 unfold Io; rw [e]
def dI (ts : List (List UInt8)) (i : qf) (gs : List Gs) (seed : Lb) : kX × Nat :=
 if ¬ iB i then (kX.zero, 3) else if 64 < gs.length then (kX.zero, 6)
 else Io (ts.getD 0 []) seed (Gm.jz (Kdf.label (ts.getD 1 []) zG.data.toList [] 16) (Kdf.label (ts.getD 1 []) mA.data.toList [] 12) (si i) []) gs
/-! What a round finds and leaves. -/
def e9 (B : Hd → List UInt8 → Prop) (cs : Array Value) (x : kM) : Prop := ∃ a b c, cs = dw a b c ∧ B a x.ref ∧ B b x.enc ∧ B c x.box ∧ c.n ≤ c.c
theorem e9.imp : Ei e9 := fun _ _ _ _ ⟨a, b, c, e, h1, h2, h3, h4⟩ f => ⟨a, b, c, e, f _ _ h1, f _ _ h2, f _ _ h3, h4⟩
theorem e9.ac {w : World} {cs : Array Value} {x : kM} (h : e9 (nI w) cs x) : mb w cs x := by
 obtain ⟨a, b, c, rfl, h1, h2, h3, h4⟩ := h
 exact ⟨⟨a, b, c, rfl, h1, h2, h3⟩, fun A n c e => by have e' : some (Value.slice _ _ _) = _ := e; injection e' with e'; injection e' with _ e2 e3; omega⟩
theorem nJ.d {base : Nat} {w : World} {cs : Array Value} {x : kM} {S : List Nat} (h : nJ base w cs x) (hS : ∀ g ∈ S, g < base) : e9 (Bx S w) cs x := by
 obtain ⟨a, b, c, rfl, h1, h2, h3, h4⟩ := h
 exact ⟨a, b, c, rfl, Bx.of h1 hS, Bx.of h2 hS, Bx.of h3 hS, h4⟩
theorem yf : sO Tryz.prog 22 37 3 72 := sO.of (z := .agg #[.slice none 0 0, .slice none 0 0, .slice none 0 0]) underlying22 Kr Kr Om
section
variable (n0 g8 g9 g14 : Nat) (w0 : World) (I : Hd) (j seed inf : Lb) (gs : List Gs)
def Gp (A : Oa) (n c : Nat) (pre : List Yv) (W : World) : Prop :=
 n0 ≤ W.heap.size ∧ pre.length ≤ gs.length ∧ (∀ i, i < pre.length → (ll j seed inf gs i).2 = 0) ∧ Below w0.heap.size w0 W ∧ ao W g8 25 (cZ aq aq) ∧ ao W g9 47 #[.int .u8 0] ∧ Bx [g14, g9, g8] W I inf ∧ (0 < I.n → ∀ b o, I.A = some ⟨b, o, none⟩ → b < n0) ∧
  ao W g14 25 (cZ ⟨A, n, c⟩ I) ∧ MI e9 3 37 n0 [g14, g9, g8] W A n c ((List.range pre.length).map fun i => (ll j seed inf gs i).1)
def Lj (pre : List Yv) (W : World) : Prop := ∃ A n c, Gp n0 g8 g9 g14 w0 I j seed inf gs A n c pre W
def Ms (pre : List Yv) (v : Yv) (L : List (Nat × Value)) (W : World) : Prop := ∃ g15 A n c, L = [(8, .pointer (some ⟨g8, 0, none⟩)), (9, .pointer (some ⟨g9, 0, none⟩)), (14, .pointer (some ⟨g14, 0, none⟩)), (15, .pointer (some ⟨g15, 0, none⟩)), (16, .int .u8 (v.2 : Int))] ∧
 Gp n0 g8 g9 g14 w0 I j seed inf gs A n c pre W ∧ n0 ≤ g15 ∧ ao W g15 37 v.1 ∧ pre.length < gs.length ∧ v.2 = (ll j seed inf gs pre.length).2 ∧ e9 (Bx ((Value.slice A n c).ownBlock.toList ++ [g14, g9, g8]) W) v.1 (ll j seed inf gs pre.length).1
def MB (pre : List Yv) (W : World) : Prop := ∃ i, i < gs.length ∧ (∀ k, k < i → (ll j seed inf gs k).2 = 0) ∧ (ll j seed inf gs i).2 ≠ 0 ∧ Below w0.heap.size w0 W ∧ ao W g8 25 (cZ aq aq) ∧ ao W g9 47 #[.int .u8 ((ll j seed inf gs i).2 : Int)]
end
section
variable {n0 g8 g9 g14 B : Nat} {w0 : World} {I : Hd} {j seed inf : Lb} {gs : List Gs}
theorem Gp.own {β : Type} {A : Oa} {n c : Nat} {pre : List Yv} (hB : w0.heap.size ≤ B) : OwnFrom B (fun (_ : β) W => Gp n0 g8 g9 g14 w0 I j seed inf gs A n c pre W) := fun s W W' row ⟨h0, h1, h2, h3, h4, h5, h6, h7, h8, h9⟩ hg hr =>
 ⟨Nat.le_trans h0 hg.size, h1, h2, ownFrom_below (β := β) (Nat.le_refl _) hB s _ _ _ h3 hg hr, cX (f := fun _ : β => _) s _ _ _ h4 hg hr, cX (f := fun _ : β => _) s _ _ _ h5 hg hr, rT s _ _ _ h6 hg hr, h7, cX (f := fun _ : β => _) s _ _ _ h8 hg hr, h9.imp fun _ h => dZ.own e9.imp s _ _ _ h hg hr⟩
theorem Lj.own (hB : w0.heap.size ≤ B) : OwnFrom B (Lj n0 g8 g9 g14 w0 I j seed inf gs) := fun s W W' row ⟨A, n, c, h⟩ hg hr => ⟨A, n, c, Gp.own hB s W W' row h hg hr⟩
theorem Ms.own (hB : w0.heap.size ≤ B) (pre : List Yv) (v : Yv) (L : List (Nat × Value)) : OwnFrom B (fun (_ : Unit) W => Ms n0 g8 g9 g14 w0 I j seed inf gs pre v L W) := fun s W W' row ⟨g15, A, n, c, h1, h2, h3, h4, h5, h6, h7⟩ hg hr =>
 ⟨g15, A, n, c, h1, Gp.own hB s W W' row h2 hg hr, h3, cX (f := fun _ : Unit => _) s _ _ _ h4 hg hr, h5, h6, e9.imp _ _ _ _ h7 fun _ _ b => rT s _ _ _ b hg hr⟩
theorem MB.own (hB : w0.heap.size ≤ B) : OwnFrom B (MB g8 g9 w0 j seed inf gs) := fun s W W' row ⟨i, h1, h2, h3, h4, h5, h6⟩ hg hr =>
 ⟨i, h1, h2, h3, ownFrom_below (β := List Yv) (Nat.le_refl _) hB s _ _ _ h4 hg hr, cX (f := fun _ : List Yv => _) s _ _ _ h5 hg hr, cX (f := fun _ : List Yv => _) s _ _ _ h6 hg hr⟩
end
theorem Ez {α : Type} {R : World → Array Value → α → Prop} {sz n : Nat} {w : World} {A : Oa} {xs : List α} (h : mI R sz w A n xs) (hR : ∀ cs x, R w cs x → Kp w.heap.size [] (fun w => R w cs x) w) : Kp w.heap.size [] (fun w => mI R sz w A n xs) w := by
 obtain ⟨hl, vs, h2, h3, h4⟩ := h
 exact ⟨Nat.le_refl _, fun w2 hw => ⟨hl, vs, h2, (Kp.at h3 (by simp)).2 w2 hw, fun i x hx => (hR _ _ (h4 i x hx)).2 w2 hw⟩⟩
theorem Jt {w : World} {cs : Array Value} {x : Gs} (h : j6 w cs x) : Kp w.heap.size [] (fun w => j6 w cs x) w :=
 ⟨Nat.le_refl _, fun w2 hw => vH.imp h fun _ _ b => (Kp.bs (S := []) b (by simp)).2 w2 hw⟩
theorem Kp.lift {w W : World} {S : List Nat} {Φ : World → Prop} (h : Kp w.heap.size [] Φ w) (E : Ext w W) (hS : ∀ g ∈ S, w.heap.size ≤ g) : Kp W.heap.size S Φ W :=
 ⟨Nat.le_refl _, fun w2 hw => h.2 w2 fun k hk _ => (hw k (Nat.lt_of_lt_of_le hk E.size) fun hm => by have := hS k hm; omega).trans (E.block k hk)⟩
theorem Kp.fT {w : World} {S : List Nat} {b : Nat} {t : TypeId} {cs : Array Value} (h : ao w b t cs) (hS : b ∉ S) : Kp w.heap.size S (fun w => ao w b t cs) w := ⟨Nat.le_refl _, fun w2 hw => (hw b h.lt hS).trans h⟩
theorem KN {w : World} {S : List Nat} {b1 b2 bs bd bi : Nat} {G D I : Hd} {ss : Array Value} (h : zU b1 b2 bs bd bi G D I ss w) (hS : ∀ b ∈ [b1, b2, bs, bd, bi], b ∉ S) : Kp w.heap.size S (fun w => zU b1 b2 bs bd bi G D I ss w) w := by
 obtain ⟨h1, ⟨t, h2⟩, h3, h4, h5⟩ := h
 simp only [List.mem_cons, List.not_mem_nil, or_false, forall_eq_or_imp, forall_eq] at hS
 exact ⟨Nat.le_refl _, fun w2 hw => ⟨(Kp.fT h1 hS.1).2 w2 hw, ⟨t, (Kp.fT h2 hS.2.1).2 w2 hw⟩, (Kp.fT h3 hS.2.2.1).2 w2 hw, (Kp.fT h4 hS.2.2.2.1).2 w2 hw, (Kp.fT h5 hS.2.2.2.2).2 w2 hw⟩⟩
theorem uR {B : Nat} {S : List Nat} {W W' : World} (h : aX S W W') (hS : ∀ g ∈ S, g < B ∨ ∃ t cs, ao W g t cs) : KeepsFrom B W W' :=
 ⟨h.size, fun k o hB hk ho => (h.block k (Array.getElem?_eq_some_iff.1 hk).1 fun hm => by
  rcases hS k hm with h1 | ⟨t, cs, hb⟩
  ·omega
  ·rw [show W.heap[k]? = _ from hb] at hk; injection hk with hk; subst hk; cases ho).trans hk⟩
theorem fm.cells {w : World} {base sz n c : Nat} {e : TypeId} {A : Oa} {xs : List Value} (h : fm w base e sz A n c xs) : ∀ g ∈ (Value.slice A n c).ownBlock.toList, ∃ t cs, ao w g t cs := by
 intro g hg
 rcases h.2 with ⟨hv, _⟩ | ⟨g', cap, cur, hv, _, hb, _⟩
 ·rw [hv] at hg; simp [Value.ownBlock] at hg
 ·rw [hv] at hg; simp [Value.ownBlock] at hg; subst hg; exact ⟨_, _, hb⟩
theorem Hf {n0 gx k : Nat} (hk : n0 ≤ k) (W : World) (l : Nat) (o o' : Obj) (hl : k ≤ l) : te n0 gx W (W.putObj l o') := ⟨by simp [World.putObj], fun b hb _ => World.putObj_heap_other Om⟩
theorem rf {ss is : Array Value} {G D : Hd} {ts : List (List UInt8)} {x : qf} {seed : Lb} {gs : List Gs} (w : World) (HS : eW w ss ts) (hj : (ts.getD 0 []).length ≤ 1000) (VS : (ts.getD 1 []).length ≤ 1000) (HI : iz w is x) (hx : x.ctx.Small) (ht : x.tag.length ≤ 1000) (h6 : x.sig.length ≤ 1000)
  (HG : mI j6 9 w G.A G.n gs) (hs : ∀ x ∈ gs, x.pk.Small ∧ x.way.length ≤ 1000) (HD : nI w D seed) (hD : D.n ≤ 1000) :
  Ct 21 #[.agg ss, .agg is, .slice G.A G.n G.c, .slice D.A D.n D.c] w fun e w' => ∃ cs, e = .returned (.tuple #[.agg cs, .int .u8 ((dI ts x gs seed).2 : Int)]) ∧ lG w' cs (dI ts x gs seed).1 ∧ Ext w w' := by
 have E := Ext.refl w
 have hgl := HG.1
 have K0 : Kp w.heap.size [] (fun w => mI j6 9 w G.A G.n gs ∧ eW w ss ts ∧ nI w D seed) w := (Ez HG fun _ _ h => Jt h).and ((FV HS GU).and (Kp.bs HD (by simp)))
 obtain ⟨a0, a1, a2, a3, a4, a5, a6, a7, a8, a9, VL, VM, rfl⟩ := HS.form
 have VT := HI
 obtain ⟨i0, i1, i2, i3, i4, rfl, _⟩ := VT
 refine tP (s := 2) (3) 64 func21 rfl rfl rfl underlying25 rfl Kr underlying47 rfl rfl ?_
 intro _ Vs hretD
 refine aU ?_
 intro _ _ B4 _ ex
 have V4 := B4.lt
 replace E := E.ext ex
 refine aU ?_
 intro _ _ B5 _ ex
 have V5 := B5.lt
 obtain ⟨E,B4⟩ := aY ex E B4
 refine aU ?_
 intro v8 g8 (B8 : ao _ _ _ (cZ aq aq)) V6 ex
 obtain ⟨E,B4,B5⟩ := bC ex E B4 B5
 have l8 := B8.lt
 refine aU ?_
 intro _ g9 B9 _ ex
 obtain ⟨E,B4,B5,B8⟩ := bU ex E B4 B5 B8
 refine aU ?_
 refine aL func59 rfl (qh _ (HI.ext E) hx ht h6) ?_
 rintro e _ ⟨_, Vn, _, _, rfl, Vx, _, _, ex⟩
 obtain ⟨E,B4,B8,B9⟩ := bU ex E B4 B8 B9
 refine aU ?_
 refine al rfl (fun VN => ?_) (fun VN => ?_)
 ·refine au 2 ?_
  refine ak (aJ rfl (cells := cZ aq aq) Kr) ?_
  refine aU ?_
  intro w2 D8 cg
  replace E := E.aw cg Om; replace B9 := B9.aw cg Om; replace B8 := D8.congr (cs' := cZ aq aq) rfl
  refine aU ?_
  intro w3 D9 cg
  replace E := E.aw cg Om; replace B8 := B8.aw cg Om; replace B9 := D9
  refine aU ?_
  refine Vs rfl rfl B8 rfl (B9.get (i := 0) rfl) ?_
  have hno : ¬ iB x := fun o => VN (by rw [(Vx.1 o).1]; rfl)
  obtain ⟨hz, _⟩ := Vx.2 hno
  subst hz
  have e1 : dI ts x gs seed = (kX.zero, 3) := by unfold dI; rw [if_pos hno]
  rw [e1]; exact ⟨_, rfl, iO _, E⟩
 ·have okx : iB x := Classical.byContradiction fun hno => by have := (Vx.2 hno).1; omega
  have Vu := (Vx.1 okx).2
  refine aU ?_
  refine al rfl (fun VU => ?_) (fun VU => ?_)
  ·refine au 2 ?_
   refine ak (aJ rfl (cells := cZ aq aq) Kr) ?_
   refine aU ?_
   intro w2 D8 cg
   replace E := E.aw cg Om; replace B9 := B9.aw cg Om; replace B8 := D8.congr (cs' := cZ aq aq) rfl
   refine aU ?_
   intro w3 D9 cg
   replace E := E.aw cg Om; replace B8 := B8.aw cg Om; replace B9 := D9
   refine aU ?_
   refine Vs rfl rfl B8 rfl (B9.get (i := 0) rfl) ?_
   have e1 : dI ts x gs seed = (kX.zero, 6) := by unfold dI; rw [if_neg (fun h => h okx), if_pos Om]
   rw [e1]; exact ⟨_, rfl, iO _, E⟩
  ·obtain ⟨V, hV⟩ : ∃ V, V = Gm.jz (Kdf.label (ts.getD 1 []) zG.data.toList [] 16) (Kdf.label (ts.getD 1 []) mA.data.toList [] 12) (si x) [] := ⟨_, rfl⟩
   have e1 : dI ts x gs seed = Io (ts.getD 0 []) seed V gs := by unfold dI; rw [if_neg (fun h => h okx), if_neg Om, ← hV]
   refine aU ?_
   refine aL func40 rfl (yY _ ts _ (HS.ext E) VS) ?_
   rintro e w4 ⟨_, _, _, _, rfl, Vy, Vz, ex⟩
   obtain ⟨E,B4,B8,B9,Vu⟩ := gQ ex E B4 B8 B9 Vu
   have l9 := B9.lt; have y8 := B8.lt
   refine aU ?_
   intro w5 g14 (Vo : ao _ _ _ (cZ aq aq)) VV ex
   obtain ⟨E,B4,B8,B9,Vu,Vy,Vz⟩ := gY ex E B4 B8 B9 Vu Vy Vz
   refine aU ?_
   have VW := Vo.lt
   refine aL func55 rfl (mT _ Vy Vz Vu Om (Bs.nil _ _) Om Om) ?_
   rintro e _ ⟨Vl, Vp, rfl, Vq, ex⟩
   refine au 1 ?_
   obtain ⟨E,B4,B8,B9,Vo⟩ := gQ ex E B4 B8 B9 Vo
   rw [← hV] at Vq; have VO := Vq.bn.2
   refine aU ?_
   intro _ VA cg
   replace E := E.aw cg Om; replace B8 := B8.aw cg Om; replace B9 := B9.aw cg Om; replace B4 := B4.aw cg Om; replace Vq := Vq.aw cg (by intro b o e; have := VO b o e; omega); replace Vo := VA.congr (cs' := cZ aq ⟨Vl, Vn + 16, Vp⟩) rfl
   refine aU ?_
   have Wa := Vo.lt
   refine aL func60 rfl (uf G D ⟨Vl, Vn + 16, Vp⟩ _ _) ?_
   rintro e w9 ⟨b1, b2, bs, bd, bi, rfl, HSl, hb, ex⟩
   obtain ⟨E,B8,B9,Vo,Vq⟩ := gQ ex E B8 B9 Vo Vq
   have z9 := E.size; have Wb := Vo.lt; have Wc := B8.lt; have We := B9.lt; have VP := Vq.bs
   have VQ : ∀ b o, Vl = some ⟨b, o, none⟩ → g14 < b := fun b o e => by have := VO b o e; omega
   have VB : ∀ b o, Vl = some ⟨b, o, none⟩ → b < w9.heap.size := fun b o e => by subst e; exact (Vq.lt).2
   have HK : Kp w9.heap.size [g14] (fun w => zU b1 b2 bs bd bi G D ⟨Vl, Vn + 16, Vp⟩ (J0 a0 a1 a2 a3 a4 a5 a6 a7 a8 a9 VL VM) w ∧ KH G D ⟨Vl, Vn + 16, Vp⟩ (J0 a0 a1 a2 a3 a4 a5 a6 a7 a8 a9 VL VM) ts seed V gs w) w9 := ((KN HSl (fun b hm => by have := hb b hm; simp; omega)).and ((K0.lift E So).and (Kp.bs VP (fun _ g hg o e => by simp at hg; have := VQ _ _ e; omega)))).map fun _ ⟨a, ⟨b, c, d⟩, e⟩ => ⟨a, b, c, d, e⟩
   have VC : Lj w9.heap.size g8 g9 g14 w ⟨Vl, Vn + 16, Vp⟩ (ts.getD 0 []) seed V gs [] w9 := ⟨none, 0, 0, Nat.le_refl _, Nat.zero_le _, (fun i h => by cases h), E, B8, B9, ⟨VP, fun _ b o e hm => by have := VQ b o e; simp at hm; omega⟩, fun _ b o e => VB b o e, Vo, [], dZ.empty _ _ _ _ _ _⟩
   refine aU ?_
   refine yR (n := 3) (S := fun xs : List Yv => xs.length = gs.length) (Sp := fun _ => True) (Kp := te w9.heap.size g14) (Good := Ij (ts.getD 0 []) seed V gs) (e1 := fun v : Yv => .agg v.1) (e2 := fun v : Yv => .int .u8 (v.2 : Int)) rfl (enters func132 rfl rfl) (fun l J Jx W hW hJ hY h0 => EO 2 l J Jx W (HK.below hW (Nat.le_refl _)) hs hj hD (by show Vn + 16 ≤ 6000; omega) Om hY h0 hJ) te.trans (fun W l o o' hl _ _ _ => Hf (Nat.le_refl _) W l o o' hl) (Lj w9.heap.size g8 g9 g14 w ⟨Vl, Vn + 16, Vp⟩ (ts.getD 0 []) seed V gs) (MB g8 g9 w (ts.getD 0 []) seed V gs) (Lj.own z9) (MB.own z9) VC rfl rfl (Ms w9.heap.size g8 g9 g14 w ⟨Vl, Vn + 16, Vp⟩ (ts.getD 0 []) seed V gs) (Ms.own z9) ?_ ?_ ?_ ?_
   ·intro kR Q2 pre v _ W2 VC hE hI hG hout
    obtain ⟨A, n, c, S0⟩ := VC
    obtain ⟨hlt, hz, Gx⟩ := hG
    have S2 : Gp w9.heap.size g8 g9 g14 w ⟨Vl, Vn + 16, Vp⟩ (ts.getD 0 []) seed V gs A n c pre W2 := Gp.own (β := Unit) z9 () _ _ none S0 (fo hE) (fun r e => by cases e)
    obtain ⟨vals, _, hr, _⟩ := S0.2.2.2.2.2.2.2.2.2
    have s0 := S0.1; have s2 := S2.1
    have GD := Gx.d (S := (Value.slice A n c).ownBlock.toList ++ [g14, g9, g8]) (fun g hg => by
     rcases List.mem_append.1 hg with h | h
     ·exact (hr.ka g h).2
     ·simp at h; omega)
    obtain ⟨fa, fb, fc, Vv, _⟩ := id Gx
    rw [Vv]
    refine eA ?_; intro Wf VD
    refine cI ?_
    refine aU ?_
    intro wa g15 (VE : ao _ _ _ (dw aq aq aq)) Vw ex
    have XA := ex
    refine aU ?_
    intro _ VF cg
    have XB := XA.aw cg Vw; have VF := VF.congr (cs' := dw fa fb fc) rfl
    refine au 1 ?_
    refine ae (VD ?_)
    refine cI ?_
    refine aU ?_
    refine FU [(8, .pointer (some ⟨g8, 0, none⟩)), (9, .pointer (some ⟨g9, 0, none⟩)), (14, .pointer (some ⟨g14, 0, none⟩)), (15, .pointer (some ⟨g15, 0, none⟩)), (16, .int .u8 (v.2 : Int))] Ls (hout (ia (aX.of XB []) (by simp)) (te.of (aX.of XB []) (by simp) s2) (Lj.own z9 _ _ _ none hI (fo XB) (fun r e => by cases e)) ⟨g15, A, n, c, rfl, Gp.own (β := Unit) z9 () _ _ none S2 (fo XB) (fun r e => by cases e), by omega, by rw [Vv]; exact VF, hlt, hz, e9.imp _ _ _ _ GD fun _ _ b => b.ext XB⟩)
   ·intro kR Q2 pre v _ W2 hI hA hout hstop
    obtain ⟨g15, A, n, c, rfl, ⟨s0, s1, s2, s3, s4, s5, s6, s7, s8, s9⟩, Vw, VE, hlt, hz, GD⟩ := hA
    obtain ⟨fa, fb, fc, Vv, _⟩ := id GD
    rw [Vv] at VE
    refine pF ?_
    refine eA ?_; intro Wg VG
    refine eA ?_; intro Wh VH
    refine cI ?_
    refine au 3 ?_
    refine ae (VH ?_)
    refine CJ rfl (fun VX => ?_) (fun VX => ?_)
    ·skip
     refine eA ?_; intro Wi VI
     refine cI ?_
     refine ak (aJ rfl (cells := cZ aq aq) Kr) ?_
     refine aU ?_
     intro w2 D8 Vm
     have Wj := Vm.size; replace s5 := s5.aw Vm Om; replace s4 := D8.congr (cs' := cZ aq aq) rfl
     refine aU ?_
     intro w3 D9 Vr
     replace s4 := s4.aw Vr Om
     refine au 1 ?_
     refine ae (VI ?_)
     refine KZ ?_
     refine aU ?_
     exact hstop (ia (aX.tr (aX.mono (S' := [g8, g9]) (aX.one Vm) (by simp)) (aX.mono (S' := [g8, g9]) (aX.one Vr) (by simp))) So) ⟨pre.length, hlt, s2, by rw [← hz]; omega, (s3.grown Vm Om (fun k e => by injection e with e; omega)).grown Vr Om (fun k e => by injection e with e; omega), s4, by rw [← hz]; exact D9⟩
    ·skip
     refine yj ?_
     refine ae (VG ?_)
     have VY : v.2 = 0 := by omega
     refine cI ?_
     refine aU ?_
     have Wk := VE.lt
     refine af (nX (cells := dw fa fb fc) Tn.u rfl Kr) rfl ?_
     rintro _ w3 ⟨_, rfl, VZ, _, ex⟩
     have X3 := ex; have V0 := e9.imp _ _ _ _ GD fun _ _ b => b.ext ex; obtain ⟨vals, V9⟩ := s9; have V8 := V9.ext e9.imp ex; have hr := V8.2.1; have hl := V8.1; have VW := s8.lt; replace s8 := s8.ext ex; replace s4 := s4.ext ex; replace s5 := s5.ext ex; replace s3 := s3.trans (ex.mono Om); have y3 := ex.size; have Wl : pre.length = n := by simpa using hl
     refine af (oq (A := A) (n := n) (c := c) rfl rfl yf hr VZ rfl (bf rfl) Om Om Om) rfl ?_
     rintro _ w4 ⟨A4, c4, rfl, R4, VJ, hgl⟩
     have HE := V8.app e9.imp (by rw [← Vv]; exact V0) rfl R4 VJ hgl; have hog := fun g hg => (hr.ka (m := n) g hg); have C4 := aX.BX VJ; replace s8 := s8.bT C4 (fun hm => by have := hog _ hm; omega); replace s4 := s4.bT C4 (fun hm => by have := hog _ hm; omega); replace s5 := s5.bT C4 (fun hm => by have := hog _ hm; omega); have y4 := C4.size
     refine aU ?_
     intro w5 VA Vt
     refine aU ?_
     have V1 := V9.2.1
     have CT : aX ((Value.slice A n c).ownBlock.toList ++ [g14]) W2 w5 := aX.tr (aX.of X3 _) (aX.tr (aX.mono C4 (fun k hk => List.mem_append_left _ hk)) (aX.mono (aX.one Vt) (fun k hk => List.mem_append_right _ hk)))
     refine hout (uR CT fun g hg => ?_) (te.of CT (fun g hg => ?_) s0) ⟨A4, n + 1, c4, ?_, ?_, ?_, ?_, s4.aw Vt Om, s5.aw Vt Om, ⟨((Kp.bs s6.1 (S := (Value.slice A n c).ownBlock.toList ++ [g14]) ?_).bT CT (fun k hk => hk)).out, s6.2⟩, s7, VA, vals ++ (dw fa fb fc).toList, ?_⟩
     ·rcases List.mem_append.1 hg with h | h
      ·exact .inr (V1.cells g h)
      ·simp at h; exact .inl Om
     ·rcases List.mem_append.1 hg with h | h
      ·exact .inl (hog g h).1
      ·simp at h; exact .inr h
     ·have := Vt.size; omega
     ·rw [List.length_append, List.length_singleton]; omega
     ·intro i hi
      rw [List.length_append, List.length_singleton] at hi
      rcases Nat.lt_or_ge i pre.length with h | h
      ·exact s2 i h
      ·obtain rfl : i = pre.length := by omega
       rw [← hz]; exact VY
     ·exact (s3.grown VJ Om (fun k e => by have := (hog k (by rw [e]; simp)).1; omega)).grown Vt Om (fun k e => by injection e with e; omega)
     ·intro hn g hg o e
      rcases List.mem_append.1 hg with h | h
      ·have := (hog g h).1; have := s7 hn g o e; omega
      ·simp at h; subst h; exact s6.2 hn g o e (by simp)
     ·rw [List.length_append, List.length_singleton, List.range_succ, List.map_append]
      exact HE.bT e9.imp (aX.one Vt) (by simp) So
   ·intro D _ W2 hD VK ⟨A, n, c, s0, s1, s2, s3, s4, s5, s6, s7, s8, s9⟩ hKD
    have HD : ri W2 D := hKD
    refine aU ?_
    intro V2 D8 Vm
    replace HD : ri V2 D := (Vm.block D HD.lt (by intro e; injection e; omega)).trans HD; replace s5 := s5.aw Vm Om; have Wm := Vm.size
    refine aU ?_
    intro VR D9 Vr
    replace HD : ri VR D := (Vr.block D HD.lt (by intro e; injection e; omega)).trans HD; replace D8 := D8.aw Vr Om
    refine aU ?_
    refine hretD rfl rfl HD D8 rfl (D9.get (i := 0) rfl) ?_
    obtain ⟨vals, V9⟩ := s9
    have hn : n = gs.length := by rw [← V9.1, List.length_map, List.length_range, VK]
    subst hn
    rw [e1, AT (fun i hi => s2 i Om)]
    have X9 := (V9.bT e9.imp (aX.one Vm) (by simp) So).bT e9.imp (aX.one Vr) (by simp) So
    have X6 := (s6.bT (aX.one Vm) (by simp)).bT (aX.one Vr) (by simp)
    have Y9 := (dZ.own (β := Unit) (B := w9.heap.size) e9.imp).putObj (s := ()) (.deferred none) X9 hD HD rfl
    have Y6 := (rT (β := Unit) (B := w9.heap.size)).putObj (s := ()) (.deferred none) X6 hD HD rfl
    rw [VK] at Y9
    refine ⟨_, rfl, ⟨⟨A, gs.length, c⟩, ⟨Vl, Vn + 16, Vp⟩, rfl, ?_, Y6.1, Vq.cap⟩, ((s3.grown Vm Om (fun k e => by injection e with e; omega)).grown Vr Om (fun k e => by injection e with e; omega)).trans (belowK_b (w := w) (Nat.le_refl _) VR D _ _ Om HD rfl rfl)⟩
    obtain ⟨g1, vs, g2, g3, g4⟩ := Y9.MD e9.imp
    exact ⟨g1, vs, g2, g3, fun i x hx => (g4 i x hx).ac⟩
   ·intro D pre W2 hD VK ⟨i, q1, q2, q3, q4, q5, q6⟩ hKD
    refine aU ?_
    refine hretD rfl rfl hKD q5 rfl (q6.get (i := 0) rfl) ?_
    rw [e1, sf q1 q2 q3]
    exact ⟨_, rfl, iO _, q4.trans (belowK_b (w := w) (Nat.le_refl _) W2 D _ _ Om hKD rfl rfl)⟩
end
section
open Go.RowKit
attribute [local irreducible] Y Ef WL WC WK WQ WM cx WN WF cT WJ gZ WG mR WR qo
open Wire Nd Hk
theorem sD (p : Pack) : (lB p).length = 32 := Sha.bM _
end
section
open Go.RowKit
attribute [local irreducible] Y Ef WL WC WK WQ WM cx WN WF cT WJ gZ WG mR WR qo
open Wire Nd Hk
theorem mb.at {w : World} {cs : Array Value} {x : kM} (h : mb w cs x) : ry w cs x := h.1
theorem lG.at {w : World} {cs : Array Value} {x : kX} (h : lG w cs x) : Dc w cs x := by
 obtain ⟨h0, h1, rfl, ⟨hl, vs, h2, h3, h4⟩, b⟩ := h
 exact ⟨h0, h1, rfl, ⟨hl, vs, h2, h3, fun i x hx => mb.at (h4 i x hx)⟩, b.1⟩
section
variable {P : Program} {L : List (Nat × Value)} {w : World} {ty t e : TypeId} {x y : Operand}
end
end
section
open Go.RowKit Tryz
attribute [local irreducible] Y Ef WL WC WK WQ WM cx WN WF cT WJ gZ WG mR WR qo
open Wire Nd Hk
section
variable {P : Program} {L : List (Nat × Value)} {w : World} {ty t e : TypeId}
end
theorem uw (B : Oa) (m d : Nat) (s : ByteArray) (cs : Lb) (w : World) (HB : Bs w B m cs) (hs : s.size ≤ 1048576) (hm : m ≤ 1048576) :
  Ct 34 #[.string s, .slice B m d] w fun e w' => ∃ A' c', e = .returned (.slice A' 32 c') ∧ Row w' w.heap.size 5 A' 32 c' ((Sha.sum (Wire.vec s.data.toList ++ Wire.vec cs)).map bv) ∧ Ext w w' := by
 have E := Ext.refl w
 have Vn := Wire.bu s.size; have Vo := Wire.bu m
 refine aj 12 func34 rfl rfl rfl rfl ?_
 intro _ hret
 refine aU ?_
 refine af (pO rfl Tn.u Tn.u Tn.u) rfl ?_
 rintro _ _ ⟨_, c2, rfl, H2, _, ex⟩
 obtain ⟨HB,E⟩ := aY ex HB E
 have Vl := E.size
 refine aL func54 rfl (cB _ _ c2 _ _ H2 Om) ?_
 rintro e _ ⟨_, _, _, rfl, R3, _, ex⟩
 obtain ⟨HB,E⟩ := aY ex HB E
 replace R3 := R3.lower Vl
 refine aU ?_
 refine aL func54 rfl (cB B m d cs _ HB Om) ?_
 rintro e _ ⟨_, _, _, rfl, R4, _, ex⟩
 refine aU ?_
 obtain ⟨E,R3⟩ := aY ex E R3
 have H4 := R4.bs; have Vm := E.size
 refine af (aQ rfl rfl bF R3 H4.2 (by rw [List.length_map, H4.1]) aH Om Om Vm) rfl ?_
 rintro _ w5 ⟨A5, c5, rfl, R5, be, _, _⟩
 have E5 := E.trans be; have H5 := R5.cat.bs
 refine aL func52 rfl (fk A5 _ c5 _ _ H5 Om) ?_
 rintro e w6 ⟨A6, c6, rfl, O6, ex⟩
 have E6 := E5.ext ex; have R6 : Row w6 w5.heap.size 5 A6 32 c6 _ := O6
 refine aU ?_
 refine hret rfl ?_
 exact ⟨_, _, rfl, R6.lower E5.size, E6⟩
theorem oL {cs : Array Value} {p : Pack} (w : World) (H : cS w cs p) (Vl : p.Small) :
  Ct 11 #[.agg cs] w fun e w' => ∃ A' c', e = .returned (.slice A' 32 c') ∧ Row w' w.heap.size 5 A' 32 c' ((lB p).map bv) ∧ Ext w w' := by
 have HP := H
 have hl := CF Vl
 obtain ⟨i, h0, h1, h2, h4, h5, gg, rfl, hs, a, b0, b1, b2, b4, b5, c⟩ := H
 have E := Ext.refl w
 refine aj 6 func11 rfl rfl rfl rfl ?_
 intro _ hret
 refine aU ?_
 intro _ _ _ _ ex
 replace E := E.ext ex
 refine aU ?_
 refine aL func35 rfl (pQ _ (HP.ext E) Vl) ?_
 rintro e _ ⟨A2, k2, c2, rfl, R2, ex⟩
 refine aU ?_
 replace E := E.ext ex
 have Vm := R2.bs.1; have z2 := E.size
 refine aL func34 rfl (uw A2 k2 c2 yw _ _ R2.bs pB Om) ?_
 rintro e _ ⟨A3, c3, rfl, R3, ex⟩
 replace E := E.ext ex
 refine aU ?_
 refine hret rfl ?_
 exact ⟨A3, c3, rfl, R3.lower z2, E⟩
end
end Go.Proofs.YtgfafidlkldeaaaGreat
