/- Blocks that may turn, and facts that outlive it. No conditions: plain lemmas of the model. -/
import Derived.Test.YtopimmomkapdoaaVc7
namespace Go.Proofs.Ytopimmomkapdoaa
open Go.RowKit
/-- Of what was there only the blocks of S may have turned. -/
structure Chs (S : List Nat) (w w' : World) : Prop where
  os : w'.os = w.os
  tape : w'.tape = w.tape
  output : w'.output = w.output
  size : w.heap.size ≤ w'.heap.size
  block : ∀ k, k < w.heap.size → k ∉ S → w'.heap[k]? = w.heap[k]?
/-- A fact that holds as long as what was there, but for the blocks of S, stays. -/
def Kp (S : List Nat) (Φ : World → Prop) (w : World) : Prop := ∃ N, N ≤ w.heap.size ∧ ∀ w' : World, (∀ k, k < N → k ∉ S → w'.heap[k]? = w.heap[k]?) → Φ w'
section
variable {S S' : List Nat} {w w' w'' : World} {g k : Nat}
theorem Chs.refl (S : List Nat) (w : World) : Chs S w w := ⟨rfl, rfl, rfl, Nat.le_refl _, fun _ _ _ => rfl⟩
theorem Chs.mono (h : Chs S w w') (hs : ∀ k ∈ S, k ∈ S') : Chs S' w w' := ⟨h.os, h.tape, h.output, h.size, fun k hk hn => h.block k hk (fun hm => hn (hs k hm))⟩
theorem Chs.tr (h : Chs S w w') (k : Chs S w' w'') : Chs S w w'' :=
  ⟨k.os.trans h.os, k.tape.trans h.tape, k.output.trans h.output, Nat.le_trans h.size k.size, fun i hi hn => (k.block i (Nat.lt_of_lt_of_le hi h.size) hn).trans (h.block i hi hn)⟩
theorem Chs.of (h : Ext w w') (S : List Nat) : Chs S w w' := ⟨h.os, h.tape, h.output, h.size, fun k hk _ => h.block k hk⟩
theorem Chs.one (h : Chg w g w') : Chs [g] w w' := ⟨h.os, h.tape, h.output, h.size, fun k hk hn => h.block k hk (by intro e; injection e with e; exact hn (by simp [e]))⟩
theorem Chs.toExt (h : Chs S w w') (hS : ∀ k ∈ S, w.heap.size ≤ k) : Ext w w' := ⟨h.os, h.tape, h.output, h.size, fun k hk => h.block k hk (fun hm => by have := hS k hm; omega)⟩
theorem Chs.ext (h : Chs S w w') (e : Ext w' w'') : Chs S w w'' := h.tr (.of e S)
theorem Chs.chs (h : Chs S w w') (k : Chs S' w' w'') (hs : ∀ k ∈ S', k ∈ S := by simp) : Chs S w w'' := h.tr (k.mono hs)
theorem Chs.grow (h : Chs S w w') (e : Ext w' w'') (_ : w'.heap.size ≤ k) : Chs (k :: S) w w'' := (h.ext e).mono (fun _ h => List.mem_cons_of_mem _ h)
theorem Chs.drop (h : Chs (k :: S) w w') (hk : w.heap.size ≤ k) : Chs S w w' :=
  ⟨h.os, h.tape, h.output, h.size, fun i hi hn => h.block i hi (by simp only [List.mem_cons, not_or]; exact ⟨by omega, hn⟩)⟩
theorem Ext.chsN (h : Ext w w') (k : Chs S w' w'') (hS : ∀ g ∈ S, w.heap.size ≤ g) : Ext w w'' :=
  ⟨k.os.trans h.os, k.tape.trans h.tape, k.output.trans h.output, Nat.le_trans h.size k.size, fun i hi => (k.block i (Nat.lt_of_lt_of_le hi h.size) (fun hm => by have := hS i hm; omega)).trans (h.block i hi)⟩
theorem Blk.chs {b : Nat} {t : TypeId} {cs : Array Value} (h : Blk w b t cs) (c : Chs S w w') (hb : b ∉ S := by simp; omega) : Blk w' b t cs := (c.block b h.lt hb).trans h
theorem Blk.grow {b : Nat} {t : TypeId} {cs : Array Value} (h : Blk w b t cs) (e : Ext w w') (_ : w.heap.size ≤ k) : Blk w' b t cs := h.ext e
theorem _root_.Go.RowKit.Below.grow {a : World} (h : Ext a w) (e : Ext w w') (_ : w.heap.size ≤ k) : Ext a w' := h.tr e
variable {Φ Ψ : World → Prop}
theorem Kp.out (h : Kp S Φ w) : Φ w := by obtain ⟨N, hN, h⟩ := h; exact h w fun _ _ _ => rfl
theorem Kp.chs (h : Kp S Φ w) (c : Chs S' w w') (hs : ∀ k ∈ S', k ∈ S := by simp) : Kp S Φ w' := by
  obtain ⟨N, hN, h⟩ := h
  exact ⟨N, Nat.le_trans hN c.size, fun w2 hw => h w2 fun k hk hn => (hw k hk hn).trans (c.block k (Nat.lt_of_lt_of_le hk hN) fun hm => hn (hs k hm))⟩
theorem Kp.ext (h : Kp S Φ w) (e : Ext w w') : Kp S Φ w' := h.chs (Chs.of e []) (by simp)
theorem Kp.grow (h : Kp S Φ w) (e : Ext w w') (hk : w.heap.size ≤ k) : Kp (k :: S) Φ w' := by
  obtain ⟨N, hN, h⟩ := h
  exact ⟨N, Nat.le_trans hN e.size, fun w2 hw => h w2 fun i hi hn => (hw i hi (by simp only [List.mem_cons, not_or]; exact ⟨by omega, hn⟩)).trans (e.block i (Nat.lt_of_lt_of_le hi hN))⟩
theorem Kp.mono (h : Kp S Φ w) (hs : ∀ k ∈ S', k ∈ S) : Kp S' Φ w := by
  obtain ⟨N, hN, h⟩ := h
  exact ⟨N, hN, fun w2 hw => h w2 fun k hk hn => hw k hk fun hm => hn (hs k hm)⟩
theorem Kp.map (h : Kp S Φ w) (f : ∀ w, Φ w → Ψ w) : Kp S Ψ w := by
  obtain ⟨N, hN, h⟩ := h
  exact ⟨N, hN, fun w2 hw => f _ (h w2 hw)⟩
theorem Kp.and (h : Kp S Φ w) (k : Kp S Ψ w) : Kp S (fun w => Φ w ∧ Ψ w) w := by
  obtain ⟨N, hN, h⟩ := h
  obtain ⟨M, hM, k⟩ := k
  refine ⟨max N M, by omega, fun w2 hw => ⟨h w2 fun i hi hn => hw i (by omega) hn, k w2 fun i hi hn => hw i (by omega) hn⟩⟩
theorem Kp.triv (S : List Nat) (w : World) {p : Prop} (h : p) : Kp S (fun _ => p) w := ⟨0, by omega, fun _ _ => h⟩
theorem Kp.at {A : Option Addr} {xs : List Value} (h : At w A xs) (hS : xs ≠ [] → ∀ g ∈ S, ∀ o, A ≠ some ⟨g, o, none⟩) : Kp S (fun w => At w A xs) w := by
  refine ⟨w.heap.size, Nat.le_refl _, fun w2 hw => ?_⟩
  rcases h with h0 | ⟨b, off, hA, hc⟩
  · exact .inl h0
  · rcases xs with _ | ⟨x, xs⟩
    · exact .inl rfl
    · have hb : b < w.heap.size := cell_lt (hc 0 x rfl)
      have hn : b ∉ S := fun hm => hS (by simp) b hm off hA
      exact .inr ⟨b, off, hA, fun j u hu => (World.cell?_of_block (w := w) (w' := w2) (hw b hb hn)).trans (hc j u hu)⟩
theorem Kp.bs {A : Option Addr} {n : Nat} {xs : List UInt8} (h : Bs w A n xs) (hS : 0 < n → ∀ g ∈ S, ∀ o, A ≠ some ⟨g, o, none⟩) : Kp S (fun w => Bs w A n xs) w :=
  (Kp.triv S w h.1).and (Kp.at h.2 fun hne => hS (by rw [← h.1]; exact Nat.pos_of_ne_zero fun e => hne (by rw [List.eq_nil_of_length_eq_zero e]; rfl)))
theorem Kp.row {base : Nat} {e : TypeId} {A : Option Addr} {n c : Nat} {xs : List Value} (h : Row w base e A n c xs) (hS : ∀ g ∈ S, g < base) : Kp S (fun w => Row w base e A n c xs) w := by
  refine ⟨w.heap.size, Nat.le_refl _, fun w2 hw => ⟨h.1, ?_⟩⟩
  rcases h.2 with h0 | ⟨g, cap, cur, hv, hg, hb, r⟩
  · exact .inl h0
  · have hlt : g < w.heap.size := (Array.getElem?_eq_some_iff.1 hb).1
    exact .inr ⟨g, cap, cur, hv, hg, (hw g hlt fun hm => by have := hS g hm; omega).trans hb, r⟩
/-- Bytes in memory from block 'base' on. -/
def Fb (base : Nat) (w : World) (A : Option Addr) (n : Nat) (xs : List UInt8) : Prop := Bs w A n xs ∧ (0 < n → ∀ b o, A = some ⟨b, o, none⟩ → base ≤ b)
section
variable {A : Option Addr} {n c base base' : Nat} {xs : List UInt8}
theorem Fb.kp (h : Fb base w A n xs) (hS : ∀ g ∈ S, g < base) : Kp S (fun w => Bs w A n xs) w := Kp.bs h.1 fun hn g hg o e => by have := h.2 hn g o e; have := hS g hg; omega
theorem Fb.mono (h : Fb base w A n xs) (hb : base' ≤ base) : Fb base' w A n xs := ⟨h.1, fun hn b o e => Nat.le_trans hb (h.2 hn b o e)⟩
theorem Fb.nil (base : Nat) (w : World) (A : Option Addr) : Fb base w A 0 [] := ⟨Bs.nil _ _, fun h => absurd h (Nat.lt_irrefl 0)⟩
theorem Row.fb (h : Row w base 5 A n c (xs.map bv)) : Fb base w A n xs := ⟨h.bs, fun _ b o e => by subst e; exact (Row.lt h).1⟩
theorem Fb.ext (h : Fb base w A n xs) (e : Ext w w') : Fb base w' A n xs := ⟨h.1.ext e, h.2⟩
end
/-- Numbers of Go's int. -/
def zv (z : Int) : Value := .int .i64 z
def Zs (w : World) (A : Option Addr) (n : Nat) (zs : List Int) : Prop := zs.length = n ∧ At w A (zs.map zv) ∧ ∀ z ∈ zs, -9223372036854775808 ≤ z ∧ z ≤ 9223372036854775807
section
variable {A : Option Addr} {n c base base' : Nat} {zs : List Int}
theorem Zs.ext (h : Zs w A n zs) (e : Ext w w') : Zs w' A n zs := ⟨h.1, h.2.1.ext e, h.2.2⟩
theorem Zs.nil (w : World) (A : Option Addr) : Zs w A 0 [] := ⟨rfl, .inl rfl, fun _ h => by cases h⟩
theorem Kp.zsI (h : Zs w A n zs) (hS : 0 < n → ∀ g ∈ S, ∀ o, A ≠ some ⟨g, o, none⟩) : Kp S (fun w => Zs w A n zs) w :=
  (Kp.triv S w h.1).and ((Kp.at h.2.1 fun hne => hS (by rw [← h.1]; exact Nat.pos_of_ne_zero fun e => hne (by rw [List.eq_nil_of_length_eq_zero e]; rfl))).and (Kp.triv S w h.2.2))
theorem Zs.get (h : Zs w A n zs) {k : Nat} (hk : k < n) : ∃ b off, A = some ⟨b, off, none⟩ ∧ b < w.heap.size ∧ w.cell? ⟨b, off + k, none⟩ = some (.int .i64 (zs.getD k 0)) ∧ -9223372036854775808 ≤ zs.getD k 0 ∧ zs.getD k 0 ≤ 9223372036854775807 := by
  have hl : k < zs.length := by rw [h.1]; exact hk
  obtain ⟨b, off, e, hb, hc⟩ := h.2.1.get (k := k) (by simpa using hl)
  refine ⟨b, off, e, hb, by simpa [zv, hl] using hc, ?_⟩
  have := h.2.2 zs[k] (List.getElem_mem hl)
  rw [List.getD_eq_getElem?_getD, List.getElem?_eq_getElem hl]
  exact this
/-- Such numbers from block 'base' on. -/
def Fz (base : Nat) (w : World) (A : Option Addr) (n : Nat) (zs : List Int) : Prop := Zs w A n zs ∧ (0 < n → ∀ b o, A = some ⟨b, o, none⟩ → base ≤ b)
theorem Fz.kp (h : Fz base w A n zs) (hS : ∀ g ∈ S, g < base) : Kp S (fun w => Zs w A n zs) w := Kp.zsI h.1 fun hn g hg o e => by have := h.2 hn g o e; have := hS g hg; omega
theorem Fz.mono (h : Fz base w A n zs) (hb : base' ≤ base) : Fz base' w A n zs := ⟨h.1, fun hn b o e => Nat.le_trans hb (h.2 hn b o e)⟩
theorem Fz.nil (base : Nat) (w : World) (A : Option Addr) : Fz base w A 0 [] := ⟨Zs.nil _ _, fun h => absurd h (Nat.lt_irrefl 0)⟩
theorem Fz.ext (h : Fz base w A n zs) (e : Ext w w') : Fz base w' A n zs := ⟨h.1.ext e, h.2⟩
end
end
section
variable {P : Program} {L : List (Nat × Value)} {w : World} {ty t e : TypeId} {x y : Operand}
/-- A part of a block that is known whole. -/
theorem y_loadx {g o s : Nat} {cs vs : Array Value} {d : TypeDesc} (hx : ev L x = some (.pointer (some ⟨g, o, none⟩))) (hu : P.underlying t = some d) (hd : (match d with | .struct _ | .array _ _ => true | _ => false) = true) (hs : (P.info? t).map (·.size) = some s) (hB : Blk w g e cs) (hz : vs.size = s) (hv : (cs.toList.drop o).take s = vs.toList) : Y P L w (.load t x) ty (.agg vs) :=
  y_loadp hx hu hd (by rw [hz]; exact hs) fun j v hj => by
    rw [Addr.add_plain]
    refine hB.get ?_
    have h1 : vs.toList[j]? = some v := by simpa using hj
    rw [← hv] at h1
    have hlt : j < s := by
      rcases Nat.lt_or_ge j s with h | h
      · exact h
      · rw [List.getElem?_eq_none (by rw [List.length_take]; omega)] at h1; cases h1
    rw [List.getElem?_take_of_lt hlt, List.getElem?_drop] at h1
    simpa using h1
end
section
variable {P : Program} {f : FuncId} {fn : Func} {c : Code} {args : Array Value} {R : Ending → World → Prop} {w : World}
theorem results_cell_tmp2 {ty : TypeId} {u t q : Tmp} (hr : fn.results = #[.cell u ty, .tmp t, .tmp q]) (tmps : Array Value) (w : World) {cs : Array Value} {d : TypeDesc} {g : Nat} {e : TypeId} {v x : Value} (hp : tmps.getD u undef = .pointer (some ⟨g, 0, none⟩)) (h1 : tmps.getD t undef = v) (h2 : tmps.getD q undef = x) (hg : Blk w g e cs)
    (hu : P.underlying ty = some d) (hd : (match d with | .struct _ | .array _ _ => true | _ => false) = true) (hi : (P.info? ty).map (·.size) = some cs.size) : (results fn tmps).run P w = .ok (.tuple #[.agg cs, v, x]) w := by
  have hp' : tmps[u]?.getD undef = .pointer (some ⟨g, 0, none⟩) := by simpa using hp
  have h1' : tmps[t]?.getD undef = v := by simpa using h1
  have h2' : tmps[q]?.getD undef = x := by simpa using h2
  simp [results, hr, hp', h1', h2', asAddr, run_loadVar_row w g e ty cs _ d hg hu hd hi]
theorem vc_enterctt {ty : TypeId} {s : Nat} {d : TypeDesc} (N : Nat) {u t q : Tmp} (hf : P.funcs[f]? = some fn) (hb : fn.body = some c) (hN : fn.ntmps = N) (hr : fn.results = #[.cell u ty, .tmp t, .tmp q]) (hu : P.underlying ty = some d) (hd : (match d with | .struct _ | .array _ _ => true | _ => false) = true) (hs : (P.info? ty).map (·.size) = some s) (hsz : Nat.ble args.size N = true)
    (h : ∀ Q : Exit → Act → World → Prop, (∀ {N : Nat} {L : List (Nat × Value)} {w : World} {g : Nat} {e : TypeId} {cs : Array Value} {v x : Value}, look L u = some (.pointer (some ⟨g, 0, none⟩)) → look L t = some v → look L q = some x → Blk w g e cs → cs.size = s → R (.returned (.tuple #[.agg cs, v, x])) w → WQ Q .ret N L w) → WC P Q c N (slots 0 args.toList) w) : Calls P f args w R :=
  vc_enter N hf hb hN hsz fun Q hQ => h Q fun {N L w g e cs v x} hv ht hq hg hsz' hR a ha => hQ (bodyPost_ret (v := .tuple #[.agg cs, v, x]) (results_cell_tmp2 hr _ _ (getD_of (ha.has _ _ hv)) (getD_of (ha.has _ _ ht)) (getD_of (ha.has _ _ hq)) hg hu hd (by rw [hsz']; exact hs)) ha.defers hR)
end
end Go.Proofs.Ytopimmomkapdoaa
