/- The bytes of messages: what msg tells, and what the reference hands back. -/
import Derived.Test.YtpgalbgonmclaaaGreatRow
import Derived.Test.YtpgalbgonmclaaaGreatRowB
import Derived.Test.YtpgalbgonmclaaaGreatRowM
import Derived.Test.YtpgalbgonmclaaaGreatMsM
/- From a row's reading of a proposal, a commit, a message, a welcome or an info to the walk's word for it. No conditions beyond the row's own. -/
namespace Go.Proofs.YtpgalbgonmclaaaGreat
open Go.ChangeShapes Go.WideShapes Go.ChangeAt Go.RowKit
section
variable {H : Type} {enc : TypeId × Value → H} {W : World} {base : Nat} {spare : Nat → Bool} {held : Bool}
theorem glue {α : Type} (cs : List α) (o k : Nat) : cs.drop o = (cs.drop o).take k ++ cs.drop (o + k) := by rw [← List.drop_drop, List.take_append_drop]
theorem list_of {cs : List Value} {V : Array Value} {n : Nat} (hl : cs.length = n) (hV : V.size = n) (h : ∀ i, i < n → cs[i]? = V[i]?) : cs.toArray = V := by
  have e : cs = V.toList := by
    apply List.ext_getElem?
    intro i
    by_cases hi : i < n
    · rw [h i hi, Array.getElem?_toList]
    · rw [List.getElem?_eq_none (by omega), List.getElem?_eq_none (by simp; omega)]
  rw [e]
theorem trod_i64 {fuel : Nat} {cs : List Value} {x : DataW H × List MemPlace} (h : DataW.trod enc Tryz.prog W base spare held fuel 3 cs = some x) : ∃ z : Int, cs = [.int .i64 z] ∧ -9223372036854775808 ≤ z ∧ z ≤ 9223372036854775807 := by
  cases fuel with
  | zero => simp [DataW.trod] at h
  | succ fuel =>
    simp only [DataW.trod, Tryz.underlying3] at h
    split at h <;> first | (rename_i hk; cases hk; done) | (rename_i hk _; cases hk; done) | skip
    all_goals first
      | (cases h; done)
      | (split at h
         · rename_i k hk2 k2 z hk1 hw
           injection hk1 with hk1
           injection hk1 with hk1
           subst hk1
           obtain ⟨rfl, hw⟩ := hw
           exact ⟨z, rfl, by simpa [Lit.wf, IntKind.min, IntKind.max, IntKind.bits, IntKind.signed] using hw⟩
         · cases h)
theorem trod_boolC {fuel : Nat} {cs : List Value} {x : DataW H × List MemPlace} (h : DataW.trod enc Tryz.prog W base spare held fuel 4 cs = some x) : ∃ b : Bool, cs = [.bool b] := by
  cases fuel with
  | zero => simp [DataW.trod] at h
  | succ fuel =>
    simp only [DataW.trod, Tryz.underlying4] at h
    split at h <;> first | (rename_i hk; cases hk; done) | (rename_i hk _; cases hk; done) | skip
    all_goals first
      | (cases h; done)
      | exact ⟨_, rfl⟩
theorem addr_add_add (x : Addr) (i j : Nat) : (x.add i).add j = x.add (i + j) := by
  unfold Addr.add
  by_cases hi : i = 0
  · subst hi; simp
  · by_cases hj : j = 0
    · subst hj; simp [hi]
    · simp [hi, hj, Nat.add_assoc]
/-- A slice of structs that came in. -/
theorem trod_els {α : Type} {R : World → Array Value → α → Prop} {sz : Nat} {t e : TypeId} (hu : Tryz.prog.underlying t = some (.slice e)) (hc : Tryz.prog.cellsOf e = sz)
    (each : ∀ (fuel : Nat) (cs : List Value) (x : DataW H × List MemPlace), DataW.trod enc Tryz.prog W base spare held fuel e cs = some x → ∃ v : α, R W cs.toArray v)
    {fuel : Nat} {cs : List Value} {x : DataW H × List MemPlace} (h : DataW.trod enc Tryz.prog W base spare held fuel t cs = some x) : ∃ a n c xs, cs = [.slice a n c] ∧ Els R sz W a n xs ∧ n ≤ maxLen := by
  rcases DataW.trod_slice hu h with ⟨hcs, _⟩ | ⟨x, l, c, elems, rest, n, _, hcs, _, _, hl, hm, hlen, hel, _, _⟩
  · exact ⟨none, 0, 0, [], hcs, Els.nil _ _ _ _, by unfold maxLen; omega⟩
  · have ev : ∀ i, i < l → ∃ q : List Value × α, q.1.length = sz ∧ (∀ j, j < sz → W.cell? (x.add (i * sz + j)) = q.1[j]?) ∧ R W q.1.toArray q.2 := fun i hi => by
      have hE := hel i hi
      rw [hc, List.getElem?_eq_getElem (by omega)] at hE
      simp only [Option.bind_eq_some_iff] at hE
      obtain ⟨c1, hc1, hy⟩ := hE
      obtain ⟨_, q1, q2⟩ := World.cells?_some hc1
      obtain ⟨v, hv⟩ := each _ _ _ hy
      exact ⟨(c1, v), q1, fun j hj => by rw [← q2 j hj, addr_add_add], hv⟩
    obtain ⟨qs, hql, hq⟩ := choose_list l ev
    have hflat : ∀ (ls : List (List Value × α)), (∀ q ∈ ls, q.1.length = sz) → (ls.flatMap (·.1)).length = ls.length * sz ∧ ∀ i j, j < sz → ∀ h : i < ls.length, (ls.flatMap (·.1))[i * sz + j]? = (ls[i]).1[j]? := by
      intro ls
      induction ls with
      | nil => intro _; exact ⟨by simp, fun i j _ h => by simp at h⟩
      | cons q ls ih =>
        intro hall
        obtain ⟨h1, h2⟩ := ih fun q hq => hall q (List.mem_cons_of_mem _ hq)
        have hq0 := hall q List.mem_cons_self
        refine ⟨by rw [List.flatMap_cons, List.length_append, h1, hq0, List.length_cons, Nat.add_mul]; omega, fun i j hj hi => ?_⟩
        rw [List.flatMap_cons]
        cases i with
        | zero => rw [Nat.zero_mul, Nat.zero_add, List.getElem?_append_left (by omega)]; rfl
        | succ i =>
          rw [Nat.add_mul, Nat.one_mul, List.getElem?_append_right (by omega), show i * sz + sz + j - q.1.length = i * sz + j by omega, h2 i j hj (by simpa using hi)]
          rfl
    have hall : ∀ q ∈ qs, q.1.length = sz := fun q hq' => by
      obtain ⟨i, hi, rfl⟩ := List.getElem_of_mem hq'
      exact (hq i hi).1
    obtain ⟨f1, f2⟩ := hflat qs hall
    refine ⟨some x, l, c, qs.map (·.2), hcs, ⟨by simpa using hql, qs.flatMap (·.1), by rw [f1, hql], At.of_add fun j u hu => ?_, fun i v hv => ?_⟩, by unfold maxLen at hm ⊢; omega⟩
    · have hjl : j < l * sz := by
        have := (List.getElem?_eq_some_iff.1 hu).1
        rw [f1, hql] at this; exact this
      have hsz : 0 < sz := Nat.pos_of_ne_zero fun e => by subst e; simp at hjl
      have hd : j / sz < l := Nat.div_lt_of_lt_mul (by rwa [Nat.mul_comm])
      have hmd := Nat.mod_lt j hsz
      have hj : j / sz * sz + j % sz = j := by rw [Nat.mul_comm]; exact Nat.div_add_mod j sz
      have hlt : j / sz < qs.length := by omega
      have h3 := f2 (j / sz) (j % sz) hmd hlt
      have h4 := (hq (j / sz) hlt).2.1 (j % sz) hmd
      rw [hj] at h3 h4
      rw [h4, ← h3]; exact hu
    · rw [List.getElem?_map] at hv
      cases hi : qs[i]? with
      | none => simp [hi] at hv
      | some q =>
        simp only [hi, Option.map_some, Option.some.injEq] at hv
        subst hv
        obtain ⟨hlt, e⟩ := List.getElem?_eq_some_iff.1 hi
        have hqi := hq i hlt
        rw [e] at hqi
        have : ((qs.flatMap (·.1)).drop (i * sz)).take sz = q.1 := by
          apply List.ext_getElem?
          intro j
          by_cases hj : j < sz
          · rw [List.getElem?_take_of_lt hj, List.getElem?_drop, f2 i j hj hlt, e]
          · rw [List.getElem?_eq_none (by rw [List.length_take]; omega), List.getElem?_eq_none (by rw [hqi.1]; omega)]
        rw [this]
        exact hqi.2.2
theorem trod_leafA {fuel : Nat} {cs : List Value} {x : DataW H × List MemPlace} (h : DataW.trod enc Tryz.prog W base spare held fuel 25 cs = some x) : ∃ l, LeafAt W cs.toArray l := by
  obtain ⟨hl, h0, h1, h2, h4, h5, l, hcs, hs, b0, b1, b2, b4, b5⟩ := trod_leaf h
  exact ⟨l, h0, h1, h2, h4, h5, list_of hl rfl hcs, hs, b0.1, b1.1, b2.1, b4.1, b5.1⟩
theorem trod_packA {fuel : Nat} {cs : List Value} {x : DataW H × List MemPlace} (h : DataW.trod enc Tryz.prog W base spare held fuel 27 cs = some x) : ∃ p, PackAt W cs.toArray p := by
  obtain ⟨hl, i, h0, h1, h2, h4, h5, g, q, hcs, hs, a, b0, b1, b2, b4, b5, c⟩ := trod_pack h
  exact ⟨q, i, h0, h1, h2, h4, h5, g, list_of hl rfl hcs, hs, a, b0, b1, b2, b4, b5, c⟩
theorem one_of {cs : List Value} {o k : Nat} {v : Value} (hk : k = 1) (h : (cs.drop o).take k = [v]) : cs.drop o = v :: cs.drop (o + 1) := by
  subst hk
  rw [glue cs o 1, h]; rfl
theorem some_of {cs : List Value} {o k m : Nat} {V : Array Value} (hk : k = m) (h : ((cs.drop o).take k).toArray = V) : cs.drop o = V.toList ++ cs.drop (o + m) := by
  subst hk
  rw [glue cs o k, ← h]
theorem end_of {cs : List Value} {n : Nat} (h : cs.length = n) : cs.drop n = [] := List.drop_eq_nil_of_le (by omega)
theorem trod_prop {fuel : Nat} {cs : List Value} {x : DataW H × List MemPlace} (h : DataW.trod enc Tryz.prog W base spare held fuel 32 cs = some x) : ∃ p, PropAt W cs.toArray p := by
  obtain ⟨fuel', hl, hfs⟩ := trod_struct Tryz.underlying32 h
  have hc : Tryz.prog.cellsOf 32 = 16 := by kernel_rfl
  rw [hc] at hl
  have c0 : Tryz.prog.cellsOf 5 = 1 := by kernel_rfl
  have c1 : Tryz.prog.cellsOf 27 = 8 := by kernel_rfl
  have c2 : Tryz.prog.cellsOf 25 = 6 := by kernel_rfl
  have c3 : Tryz.prog.cellsOf 3 = 1 := by kernel_rfl
  obtain ⟨_, t0⟩ := hfs 0 _ rfl
  obtain ⟨_, t1⟩ := hfs 1 _ rfl
  obtain ⟨_, t2⟩ := hfs 2 _ rfl
  obtain ⟨_, t3⟩ := hfs 3 _ rfl
  obtain ⟨k, e0, m0⟩ := trod_u8 t0
  obtain ⟨p, i, h0, h1, h2, h4, h5, g, e1, hs, a, b0, b1, b2, b4, b5, c⟩ := trod_packA t1
  obtain ⟨l, l0, l1, l2, l4, l5, e2, ht, d0, d1, d2, d4, d5⟩ := trod_leafA t2
  obtain ⟨z, e3, z0, z1⟩ := trod_i64 t3
  have e : cs.drop 0 = _ := one_of (o := 0) c0 e0
  rw [some_of (o := 1) c1 e1, some_of (o := 9) c2 e2, one_of (o := 15) c3 e3, end_of hl] at e
  refine ⟨⟨k, p, l, z⟩, i, h0, h1, h2, h4, h5, g, l0, l1, l2, l4, l5, ?_, m0, hs, ht, ⟨z0, z1⟩, a, b0, b1, b2, b4, b5, c, d0, d1, d2, d4, d5⟩
  rw [show cs = _ from e]
  rfl
theorem PropAt.get {w : World} {cs : Array Value} {p : Prop20} (h : PropAt w cs p) : ∃ i h0 h1 h2 s h4 h5 g l0 l1 l2 t l4 l5, cs = propV p.kind i h0 h1 h2 s h4 h5 g l0 l1 l2 t l4 l5 p.at_ ∧ PropAt w (propV p.kind i h0 h1 h2 s h4 h5 g l0 l1 l2 t l4 l5 p.at_) p := by
  have H := h
  obtain ⟨i, h0, h1, h2, h4, h5, g, l0, l1, l2, l4, l5, rfl, _⟩ := h
  exact ⟨_, _, _, _, _, _, _, _, _, _, _, _, _, _, rfl, H⟩
theorem trod_item {fuel : Nat} {cs : List Value} {x : DataW H × List MemPlace} (h : DataW.trod enc Tryz.prog W base spare held fuel 95 cs = some x) : ∃ p, ItemAt W cs.toArray p := by
  obtain ⟨fuel', hl, hfs⟩ := trod_struct Tryz.underlying95 h
  have hc : Tryz.prog.cellsOf 95 = 17 := by kernel_rfl
  rw [hc] at hl
  have c0 : Tryz.prog.cellsOf 22 = 1 := by kernel_rfl
  have c1 : Tryz.prog.cellsOf 32 = 16 := by kernel_rfl
  obtain ⟨_, t0⟩ := hfs 0 _ rfl
  obtain ⟨_, t1⟩ := hfs 1 _ rfl
  obtain ⟨A0, n0, k0, r, e0, b0, _⟩ := trod_bytes t0
  obtain ⟨p, hp⟩ := trod_prop t1
  obtain ⟨i, h0, h1, h2, s, h4, h5, g, l0, l1, l2, t, l4, l5, e1, hp⟩ := hp.get
  have e : cs.drop 0 = _ := one_of (o := 0) c0 e0
  rw [some_of (o := 1) c1 e1, end_of hl] at e
  refine ⟨⟨r, p⟩, ⟨A0, n0, k0⟩, i, h0, h1, h2, s, h4, h5, g, l0, l1, l2, t, l4, l5, ?_, b0, hp⟩
  rw [show cs = _ from e]
  rfl
theorem trod_boxed {fuel : Nat} {cs : List Value} {x : DataW H × List MemPlace} (h : DataW.trod enc Tryz.prog W base spare held fuel 100 cs = some x) : ∃ p, BxdAt W cs.toArray p := by
  obtain ⟨fuel', hl, hfs⟩ := trod_struct Tryz.underlying100 h
  have hc : Tryz.prog.cellsOf 100 = 2 := by kernel_rfl
  rw [hc] at hl
  have c0 : Tryz.prog.cellsOf 22 = 1 := by kernel_rfl
  obtain ⟨_, t0⟩ := hfs 0 _ rfl
  obtain ⟨_, t1⟩ := hfs 1 _ rfl
  obtain ⟨A0, n0, k0, r0, e0, b0, _⟩ := trod_bytes t0
  obtain ⟨A1, n1, k1, r1, e1, b1, _⟩ := trod_bytes t1
  have e : cs.drop 0 = _ := one_of (o := 0) c0 e0
  rw [one_of (o := 1) c0 e1, end_of hl] at e
  refine ⟨⟨r0, r1⟩, ⟨A0, n0, k0⟩, ⟨A1, n1, k1⟩, ?_, b0, b1⟩
  rw [show cs = _ from e]
  rfl
theorem trod_step {fuel : Nat} {cs : List Value} {x : DataW H × List MemPlace} (h : DataW.trod enc Tryz.prog W base spare held fuel 98 cs = some x) : ∃ p, StpAt W cs.toArray p := by
  obtain ⟨fuel', hl, hfs⟩ := trod_struct Tryz.underlying98 h
  have hc : Tryz.prog.cellsOf 98 = 2 := by kernel_rfl
  rw [hc] at hl
  have c0 : Tryz.prog.cellsOf 22 = 1 := by kernel_rfl
  have c1 : Tryz.prog.cellsOf 96 = 1 := by kernel_rfl
  obtain ⟨_, t0⟩ := hfs 0 _ rfl
  obtain ⟨_, t1⟩ := hfs 1 _ rfl
  obtain ⟨A0, n0, k0, r0, e0, b0, _⟩ := trod_bytes t0
  obtain ⟨A1, n1, k1, r1, e1, b1, _⟩ := trod_els (R := BxdAt) (sz := 2) Tryz.underlying96 (by kernel_rfl) (fun _ _ _ h => trod_boxed h) t1
  have e : cs.drop 0 = _ := one_of (o := 0) c0 e0
  rw [one_of (o := 1) c1 e1, end_of hl] at e
  refine ⟨⟨r0, r1⟩, ⟨A0, n0, k0⟩, ⟨A1, n1, k1⟩, ?_, b0, b1⟩
  rw [show cs = _ from e]
  rfl
theorem LeafAt.get {w : World} {cs : Array Value} {l : Leaf} (h : LeafAt w cs l) : ∃ h0 h1 h2 s h4 h5, cs = leafV h0 h1 h2 s h4 h5 ∧ LeafAt w (leafV h0 h1 h2 s h4 h5) l := by
  have H := h
  obtain ⟨h0, h1, h2, h4, h5, rfl, _⟩ := h
  exact ⟨_, _, _, _, _, _, rfl, H⟩
theorem trod_way {fuel : Nat} {cs : List Value} {x : DataW H × List MemPlace} (h : DataW.trod enc Tryz.prog W base spare held fuel 38 cs = some x) : ∃ p, WayAt W cs.toArray p := by
  obtain ⟨fuel', hl, hfs⟩ := trod_struct Tryz.underlying38 h
  have hc : Tryz.prog.cellsOf 38 = 7 := by kernel_rfl
  rw [hc] at hl
  have c0 : Tryz.prog.cellsOf 25 = 6 := by kernel_rfl
  have c1 : Tryz.prog.cellsOf 36 = 1 := by kernel_rfl
  obtain ⟨_, t0⟩ := hfs 0 _ rfl
  obtain ⟨_, t1⟩ := hfs 1 _ rfl
  obtain ⟨l, hL⟩ := trod_leafA t0
  obtain ⟨h0, h1, h2, s, h4, h5, e0, hL⟩ := hL.get
  obtain ⟨A1, n1, k1, r1, e1, b1, _⟩ := trod_els (R := StpAt) (sz := 2) Tryz.underlying36 (by kernel_rfl) (fun _ _ _ h => trod_step h) t1
  have e : cs.drop 0 = _ := some_of (o := 0) c0 e0
  rw [one_of (o := 0 + 6) c1 e1, end_of (n := 0 + 6 + 1) hl] at e
  refine ⟨⟨l, r1⟩, h0, h1, h2, s, h4, h5, ⟨A1, n1, k1⟩, ?_, hL, b1⟩
  rw [show cs = _ from e]
  rfl
theorem trod_com {fuel : Nat} {cs : List Value} {x : DataW H × List MemPlace} (h : DataW.trod enc Tryz.prog W base spare held fuel 40 cs = some x) : ∃ p, ComAt W cs.toArray p := by
  obtain ⟨fuel', hl, hfs⟩ := trod_struct Tryz.underlying40 h
  have hc : Tryz.prog.cellsOf 40 = 9 := by kernel_rfl
  rw [hc] at hl
  have c0 : Tryz.prog.cellsOf 35 = 1 := by kernel_rfl
  have c1 : Tryz.prog.cellsOf 4 = 1 := by kernel_rfl
  have c2 : Tryz.prog.cellsOf 38 = 7 := by kernel_rfl
  obtain ⟨_, t0⟩ := hfs 0 _ rfl
  obtain ⟨_, t1⟩ := hfs 1 _ rfl
  obtain ⟨_, t2⟩ := hfs 2 _ rfl
  obtain ⟨A0, n0, k0, r0, e0, b0, _⟩ := trod_els (R := ItemAt) (sz := 17) Tryz.underlying35 (by kernel_rfl) (fun _ _ _ h => trod_item h) t0
  obtain ⟨b, e1⟩ := trod_boolC t1
  obtain ⟨y, hy⟩ := trod_way t2
  have hy' := hy
  obtain ⟨h0, h1, h2, s, h4, h5, t, e2, hL, b2⟩ := hy
  have e : cs.drop 0 = _ := one_of (o := 0) c0 e0
  rw [one_of (o := 0 + 1) c1 e1, some_of (o := 0 + 1 + 1) c2 e2, end_of (n := 0 + 1 + 1 + 7) hl] at e
  refine ⟨⟨r0, b, y⟩, ⟨A0, n0, k0⟩, h0, h1, h2, s, h4, h5, t, ?_, b0, ⟨h0, h1, h2, s, h4, h5, t, rfl, hL, b2⟩⟩
  rw [show cs = _ from e]
  rfl
theorem open_prop {v : Value} {d : DataW H} {p : List MemPlace} (h : DataW.Trod enc Tryz.prog W base spare held 32 v d p) : ∃ cs x, v = .agg cs ∧ PropAt W cs x := by
  obtain ⟨fuel, hf⟩ := h
  obtain ⟨x, hx⟩ := trod_prop hf
  obtain ⟨_, hl, _⟩ := trod_struct Tryz.underlying32 hf
  exact ⟨_, x, agg_of rfl (by rw [hl]; decide +kernel), hx⟩
theorem open_com {v : Value} {d : DataW H} {p : List MemPlace} (h : DataW.Trod enc Tryz.prog W base spare held 40 v d p) : ∃ cs x, v = .agg cs ∧ ComAt W cs x := by
  obtain ⟨fuel, hf⟩ := h
  obtain ⟨x, hx⟩ := trod_com hf
  obtain ⟨_, hl, _⟩ := trod_struct Tryz.underlying40 hf
  exact ⟨_, x, agg_of rfl (by rw [hl]; decide +kernel), hx⟩
end
end Go.Proofs.YtpgalbgonmclaaaGreat

namespace Go.Proofs.YtpgalbgonmclaaaGreat
open Go.RowKit
attribute [local irreducible] Y Ef WL WC WK WQ WM OpM WN WF OpN WG OpG
open Nd Wire
instance (c : Ctx) : Decidable c.Small := by unfold Ctx.Small; infer_instance
section
variable {cs ds : Array Value} {m : Mess} {c : Ctx}
theorem Told.of {w : World} {ok : Prop} [Decidable ok] {xs : List UInt8} {A : Option Addr} {k d z : Nat} (T : decide ok = true → z = 0 ∧ Bs w A k xs ∧ k ≤ d) (N : decide ok = false → z = 3 ∧ A = none ∧ k = 0 ∧ d = 0) : Told w ok xs A k z ∧ k ≤ d :=
  ⟨⟨fun o => ⟨(T (decide_eq_true o)).1, (T (decide_eq_true o)).2.1⟩, fun o => ⟨(N (decide_eq_false o)).1, (N (decide_eq_false o)).2.2.1⟩⟩, by
    by_cases o : ok
    · exact (T (decide_eq_true o)).2.2
    · have h := N (decide_eq_false o); omega⟩
/-! The reference. -/
end
end Go.Proofs.YtpgalbgonmclaaaGreat
