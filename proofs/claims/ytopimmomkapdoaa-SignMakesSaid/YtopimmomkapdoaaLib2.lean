/- More small words for memory and jumps. No conditions: plain lemmas of the model. -/
import Derived.Test.YtopimmomkapdoaaLib
import Derived.Deep.RegionHeld3
namespace Go.Proofs.Ytopimmomkapdoaa
open Go.RowKit

/-- A scope with jumps back to one label: what holds at the label is enough for the first pass, too. -/
theorem scope_jumps {P : Program} {a : Act} {w : World} {Q : Exit → Act → World → Prop} {c rest : Code} (l : Nat) (J : Act → World → Prop) (μ : Act → World → Nat) (hf : findLabel c l = some (Code.skip.seq rest))
    (pass : ∀ a w, J a w → rest.wp P (Exit.jump l (fun a' w' => J a' w' ∧ μ a' w' < μ a w) Q) a w)
    (first : (∀ a w, J a w → rest.wp P (Exit.jump l J Q) a w) → c.wp P (Exit.jump l J Q) a w) : (Code.scope c).wp P Q a w := by
  refine scope_jumps2 l J μ hf (fun a w hJ => wp_seq (wp_skip (pass a w hJ))) (fun h => first fun a w hJ => ?_)
  intro b k cs
  obtain ⟨e, a', w', hq, harr⟩ := pass a w hJ b k cs
  refine ⟨e, a', w', ?_, harr⟩
  cases e with
  | goto l' => exact ⟨hq.1, hq.2.1⟩
  | normal => exact hq
  | exit id => exact hq
  | ret => exact hq
  | panic ch => exact hq
  | outgrown => exact hq

theorem Bs.cutEnd {w : World} {A : Option Addr} {n : Nat} {xs : List UInt8} (h : Bs w A n xs) {k : Nat} (hk : n = k) (A' : Option Addr) : Bs w A' (n - k) (xs.drop k) :=
  ⟨by rw [List.length_drop, h.1], .inl (by simp [List.drop_of_length_le (by rw [h.1]; omega : xs.length ≤ k)])⟩
theorem Bs.cutOff {w : World} {b off : Nat} {n : Nat} {xs : List UInt8} (h : Bs w (some ⟨b, off, none⟩) n xs) (k : Nat) : Bs w (some ⟨b, off + k, none⟩) (n - k) (xs.drop k) := by
  refine ⟨by rw [List.length_drop, h.1], ?_⟩
  rcases h.2 with h0 | ⟨b', off', hA, hc⟩
  · exact .inl (by simp at h0; simp [h0])
  · injection hA with hA
    injection hA with h1 h2
    subst h1; subst h2
    refine .inr ⟨b, off + k, rfl, fun j u hu => ?_⟩
    have := hc (k + j) u (by rw [← hu, List.map_drop, List.getElem?_drop])
    rw [← Nat.add_assoc] at this
    exact this
theorem own_cap {w : World} {base n c : Nat} {e : TypeId} {A : Option Addr} {xs : List Value} (h : w.ownsRow base e 1 (.slice A n c) n xs) : n ≤ c := by
  rcases h.2 with ⟨hv, rfl⟩ | ⟨g, cap, cur, hv, _, _, hc, _⟩
  · omega
  · injection hv with _ _ hv; omega

/-- An array by value, indexed. -/
theorem run_index_arr {P : Program} {w : World} {t e : TypeId} {n : Nat} {kd k : IntKind} {cs : Array Value} {i : Nat} {v : Value} (hu : P.underlying t = some (.array n e)) (he : P.underlying e = some (.int kd)) (hs : (P.info? e).map (·.size) = some 1)
    (hi : i < n) (hv : cs[i]? = some v) : (Instr.index t (.agg cs) (.int k (i : Int))).run P w = .ok v w := by
  have h1 : (0 : Int) ≤ (i : Int) ∧ (i : Int) < (n : Int) := by omega
  have hagg : (isAgg e).run P w = .ok false w := by
    unfold isAgg
    rw [Sem.run_bind, run_underlying he w]
    rfl
  cases hq : P.info? e with
  | none => simp [hq] at hs
  | some j =>
    have hj : j.size = 1 := by simpa [hq] using hs
    simp [Instr.index, run_underlying hu, asIntOf, sizeOf, typeInfo, hq, hj, part, hagg, hv, hi]
/-- Bytes in a block that is filled from its head. -/
def bys (l : List UInt8) : Array Value := (l.map bv).toArray
def zbs (n : Nat) : List UInt8 := List.replicate n 0
theorem zbs_length (n : Nat) : (zbs n).length = n := by simp [zbs]
theorem bys_size (l : List UInt8) : (bys l).size = l.length := by simp [bys]
theorem bys_get {l : List UInt8} {i : Nat} (h : i < l.length) : (bys l)[i]? = some (.int .u8 ((l.getD i 0).toNat : Int)) := by simp [bys, bv, h]
theorem bys_one (l : List UInt8) : (bys l).all (·.oneCell') = true := by
  rw [Array.all_eq_true_iff_forall_mem]
  intro x hx
  simp only [bys, List.mem_toArray] at hx
  exact bv_one x hx
theorem bys_zero {l : List UInt8} {m i : Nat} (h : l.length ≤ i) (hm : i < l.length + m) : (bys (l ++ zbs m))[i]? = some (.int .u8 0) := by
  rw [bys_get (by simp [zbs]; omega)]
  simp [zbs, List.getElem?_append, List.getElem?_replicate, show ¬ i < l.length by omega, show i - l.length < m by omega]
theorem bys_set (l : List UInt8) (i : Nat) (x : UInt8) : (bys l).setIfInBounds i (.int .u8 (x.toNat : Int)) = bys (l.set i x) := by
  simp [bys, bv, List.map_set]
theorem bys_fill {l : List UInt8} {m m' i : Nat} {x : UInt8} (h : i = l.length) (hm : m = m' + 1) : (bys (l ++ zbs m)).setIfInBounds i (.int .u8 (x.toNat : Int)) = bys (l ++ [x] ++ zbs m') := by
  subst h; subst hm
  rw [bys_set]
  simp [zbs, List.replicate_succ]
theorem Blk.fillB {w : World} {g m m' i : Nat} {t : TypeId} {l : List UInt8} {v : Value} {x : UInt8} (h : Blk w g t (bys (l ++ zbs m))) (hi : i = l.length) (hm : m = m' + 1) (hv : v = .int .u8 (x.toNat : Int)) :
    Blk (w.setCell ⟨g, i, none⟩ v) g t (bys (l ++ [x] ++ zbs m')) := by
  subst hv
  rw [← bys_fill hi hm]
  exact h.set i _

/-- The loops of a body, the outer ahead of the inner. -/
def loopsIn : Code → List Code
  | .loop c => .loop c :: loopsIn c
  | .seq a b => loopsIn a ++ loopsIn b
  | .block _ c => loopsIn c
  | .scope c => loopsIn c
  | .cond _ a b => loopsIn a ++ loopsIn b
  | _ => []
def nthLoop (f : Func) (k : Nat) : Code := ((loopsIn (f.body.getD .skip))[k]?).getD .skip

/-- 'out = append(out, xs...)' inside a region that draws its order. -/
theorem step_own {P : Program} {w w0 : World} {ops : Array Oper} {o : Oper} {a : Act} {K : Act → World → Prop} {Q : Exit → Act → World → Prop} {E : Prop} (hgd : o.guard = none) (s x : Operand) (t : TypeId)
    (ho : o.op = .call { callee := .builtin .append, args := #[s, x], argTypes := #[t, t] })
    (e : TypeId) (bytes : Nat) (hE : Elt P t e bytes) (base : Nat)
    (v : Value) (n : Nat) (xs : List Value) (hs : a.eval s = v) (hown : w.ownsRow base e 1 v n xs)
    (A : Option Addr) (m c : Nat) (ys : List Value) (hx : a.eval x = .slice A m c) (hl : ys.length = m) (hr : At w A ys) (h1 : ∀ u ∈ ys, u.oneCell' = true)
    (hlen : (n + m) * bytes ≤ 140737488355328) (h63 : n + m ≤ 140737488355328) (hB : Below base w0 w) (hbase : base ≤ w.heap.size)
    (h : ∀ A' c' w', w'.ownsRow base e 1 (.slice A' (n + m) c') (n + m) (xs ++ ys) → Below base w0 w' → w.grownBy w' v.ownBlock → ((Value.slice A' (n + m) c').ownBlock = v.ownBlock ∨ (Value.slice A' (n + m) c').ownBlock = some w.heap.size) →
      K (a.put o.dst (.slice A' (n + m) c')) w') :
    if Region.wanted o (yielded ops a.tmps) = true then Oper.wp P o a w K Q else E := by
  have hw : Region.wanted o (yielded ops a.tmps) = true := by simp [Region.wanted, hgd]
  rw [if_pos hw]
  obtain ⟨v', w', hrun, h2, h3, h4, h5⟩ := run_append (P := P) (w0 := w0) base t o.type e bytes hE v n xs hown A m c ys hl hr h1 hlen h63 hB hbase
  unfold Oper.wp execOp
  simp only [ho, resolve, invoke, builtin, Sem.run_bind, Sem.run_pure, Result.andThen_ok, List.map_toArray, List.map_cons, List.map_nil, hs, hx, hrun]
  obtain ⟨A', c', rfl⟩ := own_shape h2
  exact h A' c' w' h2 h3 h4 h5
end Go.Proofs.Ytopimmomkapdoaa
