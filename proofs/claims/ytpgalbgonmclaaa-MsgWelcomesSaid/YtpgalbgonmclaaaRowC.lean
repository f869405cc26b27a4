/- From a row's reading of a proposal, a commit, a message, a welcome or an info to the walk's word for it. No conditions beyond the row's own. -/
import Derived.Test.YtpgalbgonmclaaaRow
import Derived.Test.YtpgalbgonmclaaaCtxA
import Derived.Test.YtpgalbgonmclaaaRowB
import Derived.Test.YtpgalbgonmclaaaNdA
import Derived.Test.YtpgalbgonmclaaaMsA
import Derived.Test.YtpgalbgonmclaaaMsM
namespace Go.Proofs.Ytpgalbgonmclaaa
open Go.ChangeShapes Go.WideShapes Go.ChangeAt Go.RowKit
section
variable {H : Type} {enc : TypeId × Value → H} {W : World} {base : Nat} {spare : Nat → Bool} {held : Bool}
theorem glue {α : Type} (cs : List α) (o k : Nat) : cs.drop o = (cs.drop o).take k ++ cs.drop (o + k) := by rw [← List.drop_drop, List.take_append_drop]
theorem addr_add_add (x : Addr) (i j : Nat) : (x.add i).add j = x.add (i + j) := by
  unfold Addr.add
  by_cases hi : i = 0
  · subst hi; simp
  · by_cases hj : j = 0
    · subst hj; simp [hi]
    · simp [hi, hj, Nat.add_assoc]
/-- A slice of structs that came in. -/
theorem trod_els {α : Type} {R : World → Array Value → α → Prop} {sz : Nat} {t e : TypeId} (hu : Try.prog.underlying t = some (.slice e)) (hc : Try.prog.cellsOf e = sz)
    (each : ∀ (fuel : Nat) (cs : List Value) (x : DataW H × List MemPlace), DataW.trod enc Try.prog W base spare held fuel e cs = some x → ∃ v : α, R W cs.toArray v)
    {fuel : Nat} {cs : List Value} {x : DataW H × List MemPlace} (h : DataW.trod enc Try.prog W base spare held fuel t cs = some x) : ∃ a n c xs, cs = [.slice a n c] ∧ Els R sz W a n xs ∧ n ≤ maxLen := by
  rcases DataW.trod_slice hu h with ⟨hcs, _⟩ | ⟨x, l, c, elems, rest, n, _, hcs, _, _, hl, hm, hlen, hel, _, _⟩
  · exact ⟨none, 0, 0, [], hcs, Els.nil _ _ _ _, by unfold maxLen; omega⟩
  · have ev : ∀ i, i < l → ∃ q : List Value × α, q.1.length = sz ∧ (∀ j, j < sz → W.cell? (x.add (i * sz + j)) = q.1[j]?) ∧ R W q.1.toArray q.2 := fun i hi => by
      have hE := hel i hi
      rw [hc, List.getElem?_eq_getElem (by omega)] at hE
      simp only [Option.bind_eq_some_iff] at hE
      obtain ⟨c1, hc1, hy⟩ := hE
      obtain ⟨_, q1, q2⟩ := World.cells?_some hc1
      obtain ⟨v, hv⟩ := each _ _ _ hy
      exact ⟨(c1, v), q1, fun j hj => by rw [← q2 j hj, addr_add_add], hv⟩
    obtain ⟨qs, hql, hq⟩ := choose_list l ev
    have hflat : ∀ (ls : List (List Value × α)), (∀ q ∈ ls, q.1.length = sz) → (ls.flatMap (·.1)).length = ls.length * sz ∧ ∀ i j, j < sz → ∀ h : i < ls.length, (ls.flatMap (·.1))[i * sz + j]? = (ls[i]).1[j]? := by
      intro ls
      induction ls with
      | nil => intro _; exact ⟨by simp, fun i j _ h => by simp at h⟩
      | cons q ls ih =>
        intro hall
        obtain ⟨h1, h2⟩ := ih fun q hq => hall q (List.mem_cons_of_mem _ hq)
        have hq0 := hall q List.mem_cons_self
        refine ⟨by rw [List.flatMap_cons, List.length_append, h1, hq0, List.length_cons, Nat.add_mul]; omega, fun i j hj hi => ?_⟩
        rw [List.flatMap_cons]
        cases i with
        | zero => rw [Nat.zero_mul, Nat.zero_add, List.getElem?_append_left (by omega)]; rfl
        | succ i =>
          rw [Nat.add_mul, Nat.one_mul, List.getElem?_append_right (by omega), show i * sz + sz + j - q.1.length = i * sz + j by omega, h2 i j hj (by simpa using hi)]
          rfl
    have hall : ∀ q ∈ qs, q.1.length = sz := fun q hq' => by
      obtain ⟨i, hi, rfl⟩ := List.getElem_of_mem hq'
      exact (hq i hi).1
    obtain ⟨f1, f2⟩ := hflat qs hall
    refine ⟨some x, l, c, qs.map (·.2), hcs, ⟨by simpa using hql, qs.flatMap (·.1), by rw [f1, hql], At.of_add fun j u hu => ?_, fun i v hv => ?_⟩, by unfold maxLen at hm ⊢; omega⟩
    · have hjl : j < l * sz := by
        have := (List.getElem?_eq_some_iff.1 hu).1
        rw [f1, hql] at this; exact this
      have hsz : 0 < sz := Nat.pos_of_ne_zero fun e => by subst e; simp at hjl
      have hd : j / sz < l := Nat.div_lt_of_lt_mul (by rwa [Nat.mul_comm])
      have hmd := Nat.mod_lt j hsz
      have hj : j / sz * sz + j % sz = j := by rw [Nat.mul_comm]; exact Nat.div_add_mod j sz
      have hlt : j / sz < qs.length := by omega
      have h3 := f2 (j / sz) (j % sz) hmd hlt
      have h4 := (hq (j / sz) hlt).2.1 (j % sz) hmd
      rw [hj] at h3 h4
      rw [h4, ← h3]; exact hu
    · rw [List.getElem?_map] at hv
      cases hi : qs[i]? with
      | none => simp [hi] at hv
      | some q =>
        simp only [hi, Option.map_some, Option.some.injEq] at hv
        subst hv
        obtain ⟨hlt, e⟩ := List.getElem?_eq_some_iff.1 hi
        have hqi := hq i hlt
        rw [e] at hqi
        have : ((qs.flatMap (·.1)).drop (i * sz)).take sz = q.1 := by
          apply List.ext_getElem?
          intro j
          by_cases hj : j < sz
          · rw [List.getElem?_take_of_lt hj, List.getElem?_drop, f2 i j hj hlt, e]
          · rw [List.getElem?_eq_none (by rw [List.length_take]; omega), List.getElem?_eq_none (by rw [hqi.1]; omega)]
        rw [this]
        exact hqi.2.2
theorem one_of {cs : List Value} {o k : Nat} {v : Value} (hk : k = 1) (h : (cs.drop o).take k = [v]) : cs.drop o = v :: cs.drop (o + 1) := by
  subst hk
  rw [glue cs o 1, h]; rfl
theorem some_of {cs : List Value} {o k m : Nat} {V : Array Value} (hk : k = m) (h : ((cs.drop o).take k).toArray = V) : cs.drop o = V.toList ++ cs.drop (o + m) := by
  subst hk
  rw [glue cs o k, ← h]
theorem end_of {cs : List Value} {n : Nat} (h : cs.length = n) : cs.drop n = [] := List.drop_eq_nil_of_le (by omega)
theorem PropAt.get {w : World} {cs : Array Value} {p : Prop20} (h : PropAt w cs p) : ∃ i h0 h1 h2 s h4 h5 g l0 l1 l2 t l4 l5, cs = propV p.kind i h0 h1 h2 s h4 h5 g l0 l1 l2 t l4 l5 p.at_ ∧ PropAt w (propV p.kind i h0 h1 h2 s h4 h5 g l0 l1 l2 t l4 l5 p.at_) p := by
  have H := h
  obtain ⟨i, h0, h1, h2, h4, h5, g, l0, l1, l2, l4, l5, rfl, _⟩ := h
  exact ⟨_, _, _, _, _, _, _, _, _, _, _, _, _, _, rfl, H⟩
theorem trod_boxed {fuel : Nat} {cs : List Value} {x : DataW H × List MemPlace} (h : DataW.trod enc Try.prog W base spare held fuel 111 cs = some x) : ∃ p, BxdAt W cs.toArray p := by
  obtain ⟨fuel', hl, hfs⟩ := trod_struct Try.underlying111 h
  have hc : Try.prog.cellsOf 111 = 2 := by kernel_rfl
  rw [hc] at hl
  have c0 : Try.prog.cellsOf 22 = 1 := by kernel_rfl
  obtain ⟨_, t0⟩ := hfs 0 _ rfl
  obtain ⟨_, t1⟩ := hfs 1 _ rfl
  obtain ⟨A0, n0, k0, r0, e0, b0, _⟩ := trod_bytes t0
  obtain ⟨A1, n1, k1, r1, e1, b1, _⟩ := trod_bytes t1
  have e : cs.drop 0 = _ := one_of (o := 0) c0 e0
  rw [one_of (o := 1) c0 e1, end_of hl] at e
  refine ⟨⟨r0, r1⟩, ⟨A0, n0, k0⟩, ⟨A1, n1, k1⟩, ?_, b0, b1⟩
  rw [show cs = _ from e]
  rfl
theorem LeafAt.get {w : World} {cs : Array Value} {l : Leaf} (h : LeafAt w cs l) : ∃ h0 h1 h2 s h4 h5, cs = leafV h0 h1 h2 s h4 h5 ∧ LeafAt w (leafV h0 h1 h2 s h4 h5) l := by
  have H := h
  obtain ⟨h0, h1, h2, h4, h5, rfl, _⟩ := h
  exact ⟨_, _, _, _, _, _, rfl, H⟩
end
end Go.Proofs.Ytpgalbgonmclaaa
