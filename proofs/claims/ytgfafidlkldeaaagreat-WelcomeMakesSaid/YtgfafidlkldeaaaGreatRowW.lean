/- Rows of structs that a call owns: what is appended, what is kept, and what each element is. No conditions: plain lemmas of the model. -/
import Derived.Test.YtgfafidlkldeaaaGreatVk
import Derived.Test.YtgfafidlkldeaaaGreatNdK
import Derived.Test.YtgfafidlkldeaaaGreatMsC
import Derived.Test.YtgfafidlkldeaaaGreatAu
set_option linter.unusedVariables false
set_option linter.unusedSimpArgs false
set_option maxHeartbeats 4000000
set_option maxRecDepth 4000
namespace Go.Proofs.YtgfafidlkldeaaaGreat
section
open Go.RowKit
attribute [local irreducible] Y Ef WL WC WK WQ WM cx WN WF cT WG mR
open Nd Wire
structure qn where
 group : List UInt8
 epoch : Nat
 frm : Int
 kind : Nat
 prop : eC
 com : oN
 sig : List UInt8
 tag : List UInt8
 member : List UInt8
def qn.Small (m : qn) : Prop := m.group.length ≤ 200 ∧ m.prop.Small ∧ m.com.Small ∧ m.sig.length ≤ 100 ∧ m.tag.length ≤ 100 ∧ m.member.length ≤ 100
instance (m : qn) : Decidable m.Small := by unfold qn.Small; infer_instance
/-! Its bytes. -/
section
variable {cs ds : Array Value} {m : qn} {c : Ctx} {g g' : Nat} {t t' : TypeId}
end
end
section
open Go.ChangeShapes Go.WideShapes Go.ChangeAt Go.RowKit
section
variable {H : Type} {enc : TypeId × Value → H} {W : World} {base : Nat} {spare : Nat → Bool} {held : Bool}
theorem glue {α : Type} (cs : List α) (o k : Nat) : cs.drop o = (cs.drop o).take k ++ cs.drop (o + k) := by rw [← List.drop_drop, List.take_append_drop]
theorem Dt {fuel : Nat} {cs : List Value} {x : DataW H × List MemPlace} (h : DataW.trod enc Tryz.prog W base spare held fuel 3 cs = some x) : ∃ z : Int, cs = [.int .i64 z] ∧ -9223372036854775808 ≤ z ∧ z ≤ 9223372036854775807 := by
  cases fuel with
  | zero => simp [DataW.trod] at h
  | succ fuel =>
    simp only [DataW.trod, Tryz.underlying3] at h
    split at h <;> first | (rename_i hk; cases hk; done) | (rename_i hk _; cases hk; done) | skip
    all_goals first
      | (cases h; done)
      | (split at h
         · rename_i k Vm k2 z Vl hw
           injection Vl with Vl
           injection Vl with Vl
           subst Vl
           obtain ⟨rfl, hw⟩ := hw
           exact ⟨z, rfl, by simpa [Lit.wf, IntKind.min, IntKind.max, IntKind.bits, IntKind.signed] using hw⟩
         · cases h)
theorem sv (x : Addr) (i j : Nat) : (x.add i).add j = x.add (i + j) := by
 unfold Addr.add
 by_cases hi : i = 0
 ·subst hi; simp
 ·by_cases hj : j = 0
  ·subst hj; simp [hi]
  ·simp [hi, hj, Nat.add_assoc]
theorem Dy {α : Type} {R : World → Array Value → α → Prop} {sz : Nat} {t e : TypeId} (hu : Tryz.prog.underlying t = some (.slice e)) (hc : Tryz.prog.cellsOf e = sz)
    (each : ∀ (fuel : Nat) (cs : List Value) (x : DataW H × List MemPlace), DataW.trod enc Tryz.prog W base spare held fuel e cs = some x → ∃ v : α, R W cs.toArray v)
    {fuel : Nat} {cs : List Value} {x : DataW H × List MemPlace} (h : DataW.trod enc Tryz.prog W base spare held fuel t cs = some x) : ∃ a n c xs, cs = [.slice a n c] ∧ mI R sz W a n xs ∧ n ≤ maxLen := by
  rcases DataW.trod_slice hu h with ⟨hcs, _⟩ | ⟨x, l, c, elems, rest, n, _, hcs, _, _, hl, hm, hlen, hel, _, _⟩
  · exact ⟨none, 0, 0, [], hcs, mI.nil _ _ _ _, by unfold maxLen; omega⟩
  · have ev : ∀ i, i < l → ∃ q : List Value × α, q.1.length = sz ∧ (∀ j, j < sz → W.cell? (x.add (i * sz + j)) = q.1[j]?) ∧ R W q.1.toArray q.2 := fun i hi => by
      have hE := hel i hi
      rw [hc, List.getElem?_eq_getElem Om] at hE
      simp only [Option.bind_eq_some_iff] at hE
      obtain ⟨c1, Vl, hy⟩ := hE
      obtain ⟨_, q1, q2⟩ := World.cells?_some Vl
      obtain ⟨v, hv⟩ := each _ _ _ hy
      exact ⟨(c1, v), q1, fun j hj => by rw [← q2 j hj, sv], hv⟩
    obtain ⟨qs, hql, hq⟩ := nr l ev
    have hflat : ∀ (ls : List (List Value × α)), (∀ q ∈ ls, q.1.length = sz) → (ls.flatMap (·.1)).length = ls.length * sz ∧ ∀ i j, j < sz → ∀ h : i < ls.length, (ls.flatMap (·.1))[i * sz + j]? = (ls[i]).1[j]? := by
      intro ls
      induction ls with
      | nil => intro _; exact ⟨by simp, fun i j _ h => by simp at h⟩
      | cons q ls ih =>
        intro hall
        obtain ⟨h1, h2⟩ := ih fun q hq => hall q (List.mem_cons_of_mem _ hq)
        have Vm := hall q List.mem_cons_self
        refine ⟨by rw [List.flatMap_cons, List.length_append, h1, Vm, List.length_cons, Nat.add_mul]; omega, fun i j hj hi => ?_⟩
        rw [List.flatMap_cons]
        cases i with
        | zero => rw [Nat.zero_mul, Nat.zero_add, List.getElem?_append_left Om]; rfl
        | succ i =>
          rw [Nat.add_mul, Nat.one_mul, List.getElem?_append_right Om, show i * sz + sz + j - q.1.length = i * sz + j by omega, h2 i j hj (by simpa using hi)]
          rfl
    have hall : ∀ q ∈ qs, q.1.length = sz := fun q Vn => by
      obtain ⟨i, hi, rfl⟩ := List.getElem_of_mem Vn
      exact (hq i hi).1
    obtain ⟨f1, f2⟩ := hflat qs hall
    refine ⟨some x, l, c, qs.map (·.2), hcs, ⟨by simpa using hql, qs.flatMap (·.1), by rw [f1, hql], At.ov fun j u hu => ?_, fun i v hv => ?_⟩, by unfold maxLen at hm ⊢; omega⟩
    · have hjl : j < l * sz := by
        have := (List.getElem?_eq_some_iff.1 hu).1
        rw [f1, hql] at this; exact this
      have hsz : 0 < sz := Nat.pos_of_ne_zero fun e => by subst e; simp at hjl
      have hd : j / sz < l := Nat.div_lt_of_lt_mul (by rwa [Nat.mul_comm])
      have hmd := Nat.mod_lt j hsz
      have hj : j / sz * sz + j % sz = j := by rw [Nat.mul_comm]; exact Nat.div_add_mod j sz
      have hlt : j / sz < qs.length := by omega
      have h3 := f2 (j / sz) (j % sz) hmd hlt
      have h4 := (hq (j / sz) hlt).2.1 (j % sz) hmd
      rw [hj] at h3 h4
      rw [h4, ← h3]; exact hu
    · rw [List.getElem?_map] at hv
      cases hi : qs[i]? with
      | none => simp [hi] at hv
      | some q =>
        simp only [hi, Option.map_some, Option.some.injEq] at hv
        subst hv
        obtain ⟨hlt, e⟩ := List.getElem?_eq_some_iff.1 hi
        have hqi := hq i hlt
        rw [e] at hqi
        have : ((qs.flatMap (·.1)).drop (i * sz)).take sz = q.1 := by
          apply List.ext_getElem?
          intro j
          by_cases hj : j < sz
          · rw [List.getElem?_take_of_lt hj, List.getElem?_drop, f2 i j hj hlt, e]
          · rw [List.getElem?_eq_none (by rw [List.length_take]; omega), List.getElem?_eq_none (by rw [hqi.1]; omega)]
        rw [this]
        exact hqi.2.2
theorem pI {cs : List Value} {o k : Nat} {v : Value} (hk : k = 1) (h : (cs.drop o).take k = [v]) : cs.drop o = v :: cs.drop (o + 1) := by
 subst hk
 rw [glue cs o 1, h]; rfl
theorem FW {cs : List Value} {o k m : Nat} {V : Array Value} (hk : k = m) (h : ((cs.drop o).take k).toArray = V) : cs.drop o = V.toList ++ cs.drop (o + m) := by
 subst hk
 rw [glue cs o k, ← h]
theorem Dd {cs : List Value} {n : Nat} (h : cs.length = n) : cs.drop n = [] := List.drop_eq_nil_of_le Om
end
end
section
open Go.RowKit
attribute [local irreducible] Y Ef WL WC WK WQ WM cx WN WF cT WG mR
open Nd Wire
instance (c : Ctx) : Decidable c.Small := by unfold Ctx.Small; infer_instance
section
variable {cs ds : Array Value} {m : qn} {c : Ctx}
/-! The reference. -/
theorem oJ (w : World) (H : lT w ds c) (he : c.ep < 18446744073709551616) :
  Ct 15 #[.agg ds] w fun e w' => e = .returned (.bool (decide c.Small)) ∧ Ext w w' := by
 obtain ⟨A1, A2, A3, n1, d1, n2, d2, n3, d3, rfl, H1, H2, H3⟩ := H
 have m1 := H1.1; have m2 := H2.1; have m3 := H3.1
 have E := Ext.refl w
 refine aj 19 Tryz.func15 rfl rfl rfl rfl ?_
 intro _ hret
 refine aU ?_
 intro w1 g1 (B1 : ao _ _ _ (Ff A1 A2 A3 n1 d1 n2 d2 n3 d3 c.ep)) Vl ex
 replace E := E.ext ex
 refine au 9 ?_
 refine bH (bj rfl) rfl (fun q0 => ?_) (fun q0 => ?_)
 ·refine au 5 ?_
  refine bH (bj rfl) rfl (fun q1 => ?_) (fun q1 => ?_)
  ·refine aU ?_
   refine hret rfl ?_
   exact ⟨dJ ⟨fun h => ⟨by omega, by omega, by omega, he⟩, fun h => by have := h.2.2.1; omega⟩, E⟩
  ·refine aU ?_
   refine hret rfl ?_
   exact ⟨aP fun h => by have := h.2.1; omega, E⟩
 ·refine aU ?_
  refine hret rfl ?_
  exact ⟨aP fun h => by have := h.1; omega, E⟩
end
end
section
open Go.RowKit
attribute [local irreducible] Y Ef WL WC WK WQ WM cx WN WF cT WG mR
open Nd Wire
theorem GJ {a b : Pack} : a = b ↔ a.init = b.init ∧ a.leaf = b.leaf ∧ a.sig = b.sig := by
 constructor
 ·rintro rfl; simp
 ·cases a; cases b; simp_all
instance (a b : Pack) : Decidable (a = b) := decidable_of_iff _ GJ.symm
theorem En {a b : eC} : a = b ↔ a.kind = b.kind ∧ a.pack = b.pack ∧ a.leaf = b.leaf ∧ a.at_ = b.at_ := by
 constructor
 ·rintro rfl; simp
 ·cases a; cases b; simp_all
instance (a b : eC) : Decidable (a = b) := decidable_of_iff _ En.symm
theorem KU {a b : JY} : a = b ↔ a.enc = b.enc ∧ a.box = b.box := by
 constructor
 ·rintro rfl; simp
 ·cases a; cases b; simp_all
instance : DecidableEq JY := fun a b => decidable_of_iff _ KU.symm
theorem KC {a b : Jw} : a = b ↔ a.box = b.box ∧ a.to = b.to := by
 constructor
 ·rintro rfl; simp
 ·cases a; cases b; simp_all
instance : DecidableEq Jw := fun a b => decidable_of_iff _ KC.symm
theorem Fy {a b : kC} : a = b ↔ a.ref = b.ref ∧ a.prop = b.prop := by
 constructor
 ·rintro rfl; simp
 ·cases a; cases b; simp_all
instance : DecidableEq kC := fun a b => decidable_of_iff _ Fy.symm
theorem JE {a b : oN} : a = b ↔ a.items = b.items ∧ a.has = b.has ∧ a.way.leaf = b.way.leaf ∧ a.way.steps = b.way.steps := by
 constructor
 ·rintro rfl; simp
 ·obtain ⟨i, h, l, s⟩ := a
  obtain ⟨i', h', l', s'⟩ := b
  rintro ⟨h1, h2, h3, h4⟩
  simp only at h1 h2 h3 h4
  subst h1; subst h2; subst h3; subst h4; rfl
instance (a b : oN) : Decidable (a = b) := decidable_of_iff _ JE.symm
def lO (a b : qn) : Prop := a.group = b.group ∧ a.epoch = b.epoch ∧ a.frm = b.frm ∧ a.kind = b.kind ∧ a.prop = b.prop ∧ a.com = b.com
instance (a b : qn) : Decidable (lO a b) := by unfold lO; infer_instance
theorem ED {a b : qn} : a = b ↔ lO a b ∧ a.sig = b.sig ∧ a.tag = b.tag ∧ a.member = b.member := by
 unfold lO
 constructor
 ·rintro rfl; simp
 ·cases a; cases b; simp_all
instance (a b : qn) : Decidable (a = b) := decidable_of_iff _ ED.symm
theorem IJ {a b : Ctx} : a = b ↔ a.grp = b.grp ∧ a.ep = b.ep ∧ a.tree = b.tree ∧ a.trans = b.trans := by
 constructor
 ·rintro rfl; simp
 ·cases a; cases b; simp_all
instance (a b : Ctx) : Decidable (a = b) := decidable_of_iff _ IJ.symm
theorem sL {α : Type} {xs ys : List α} {i : Nat} {x y : α} (hx : xs[i]? = some x) (hy : ys[i]? = some y) (h : xs.take i = ys.take i) (e : x = y) : xs.take (i + 1) = ys.take (i + 1) := by
 rw [qM hx, qM hy, h, e]
theorem wG {α : Type} {xs ys : List α} {i : Nat} (h : xs.take i = ys.take i) (hx : xs.length ≤ i) (hy : ys.length ≤ i) : xs = ys := by
 rwa [List.take_of_length_le hx, List.take_of_length_le hy] at h
theorem Dp {α : Type} {xs ys : List α} {i : Nat} {x y : α} (hx : xs[i]? = some x) (hy : ys[i]? = some y) (h : xs = ys) : x = y := by
 subst h; rw [hx] at hy; injection hy
section
variable {cs ds : Array Value}
end
end
section
open Go.RowKit
def fm (w : World) (base : Nat) (e : TypeId) (sz : Nat) (A : Oa) (n c : Nat) (xs : List Value) : Prop := w.ownsRow base e sz (.slice A n c) n xs
section
variable {w w' : World} {base : Nat} {e : TypeId} {sz : Nat} {A : Oa} {n c m : Nat} {xs : List Value} {S : List Nat}
theorem fm.empty (w : World) (base : Nat) (e : TypeId) (sz : Nat) : fm w base e sz none 0 0 [] := ⟨by simp, .inl ⟨rfl, rfl⟩⟩
theorem fm.len (h : fm w base e sz A n c xs) : xs.length = n * sz := h.1
theorem fm.cap (h : fm w base e sz A n c xs) : n ≤ c := by
 rcases h.2 with ⟨hv, rfl⟩ | ⟨g, cap, cur, hv, _, _, hc, _⟩
 ·omega
 ·injection hv with _ _ hv; omega
theorem fm.at (h : fm w base e sz A n c xs) : At w A xs := by
 have h0 := h
 rcases h.2 with ⟨hv, rfl⟩ | ⟨g, cap, cur, hv, _⟩
 ·have := h.1
  exact .inl (List.eq_nil_of_length_eq_zero Om)
 ·injection hv with hA
  subst hA
  exact At.ov (World.ownsRow.cells h0 rfl)
theorem fm.lower (h : fm w base e sz A n c xs) {b : Nat} (hb : b ≤ base) : fm w b e sz A n c xs := by
 refine ⟨h.1, ?_⟩
 rcases h.2 with h | ⟨g, cap, cur, hv, hg, r⟩
 ·exact .inl h
 ·exact .inr ⟨g, cap, cur, hv, by omega, r⟩
theorem fm.kp (h : fm w base e sz A n c xs) (hS : ∀ g ∈ S, g < base) : Kp w.heap.size S (fun w => fm w base e sz A n c xs) w := by
 refine ⟨Nat.le_refl _, fun w2 hw => ⟨h.1, ?_⟩⟩
 rcases h.2 with h0 | ⟨g, cap, cur, hv, hg, hb, r⟩
 ·exact .inl h0
 ·have hlt : g < w.heap.size := (Array.getElem?_eq_some_iff.1 hb).1
  exact .inr ⟨g, cap, cur, hv, hg, (hw g hlt fun hm => by have := hS g hm; omega).trans hb, r⟩
theorem fm.bT (h : fm w base e sz A n c xs) (k : aX S w w') (hS : ∀ g ∈ S, g < base := by first | (simp; done) | (simp; omega)) : fm w' base e sz A n c xs := ((h.kp hS).bT k (fun _ h => h)).out
theorem fm.ka (h : fm w base e sz A n c xs) : ∀ g ∈ (Value.slice A m c).ownBlock.toList, base ≤ g ∧ g < w.heap.size := by
 intro g hg
 have h0 := h
 rcases h.2 with ⟨hv, _⟩ | ⟨g', cap, cur, hv, hb, hk, _⟩
 ·injection hv with hA; subst hA; simp [Value.ownBlock] at hg
 ·injection hv with hA; subst hA
  simp only [Value.ownBlock, Option.toList_some, List.mem_singleton] at hg
  subst hg
  exact ⟨hb, (Array.getElem?_eq_some_iff.1 hk).1⟩
end
structure sO (P : Program) (t e : TypeId) (sz bytes : Nat) : Prop where
 ht : P.underlying t = some (.slice e)
 pos : 0 < sz
 row : ∃ (i : TypeInfo) (z : Value), P.info? e = some i ∧ i.zero = some z ∧ i.size = sz ∧ i.bytes = bytes ∧ z.cells.size = sz
theorem sO.of {P : Program} {t e : TypeId} {z : Value} {sz bytes : Nat} (ht : P.underlying t = some (.slice e)) (h : (P.info? e).map (fun i => (i.zero, i.size, i.bytes)) = some (some z, sz, bytes)) (hz : z.cells.size = sz) (hp : 0 < sz) : sO P t e sz bytes := by
 obtain ⟨i, h1, h2, h3, h4⟩ := info_parts h
 exact ⟨ht, hp, i, z, h1, h2, h3, h4, hz⟩
def Ng (w : World) (base : Nat) (e : TypeId) (sz : Nat) (A : Oa) (n c : Nat) (xs : List Value) (v : Value) (w' : World) : Prop :=
 ∃ A' c', v = .slice A' (n + 1) c' ∧ fm w' base e sz A' (n + 1) c' xs ∧ w.grownBy w' (Value.slice A n c).ownBlock ∧ ((Value.slice A' (n + 1) c').ownBlock = (Value.slice A n c).ownBlock ∨ (Value.slice A' (n + 1) c').ownBlock = some w.heap.size)
section
variable {P : Program} {L : List (Nat × Value)} {w : World} {ty t e : TypeId} {x y : Operand}
theorem oq {A : Oa} {n c g c2 base bytes sz : Nat} {xs : List Value} {cs : Array Value} {t2 : TypeId} (hx : ev L x = some (.slice A n c)) (hy : ev L y = some (.slice (some ⟨g, 0, none⟩) 1 c2)) (hE : sO P t e sz bytes) (hown : fm w base e sz A n c xs) (hB : ao w g t2 cs) (hl : cs.size = sz) (h1 : cs.all (·.oneCell') = true)
  (hlen : (n + 1) * bytes ≤ 140737488355328) (Vm : n + 1 ≤ 140737488355328) (hbase : base ≤ w.heap.size) : Ef P L w (.call { callee := .builtin .append, args := #[x, y], argTypes := #[t, t] }) ty (Ng w base e sz A n c (xs ++ cs.toList)) := Ef.run fun ρ hρ => by
 obtain ⟨ht, hp, i, z, hi, hz, hs, hb, hzs⟩ := hE
 have hnews : ∀ j u, cs.toList[j]? = some u → w.cell? ((⟨g, 0, none⟩ : Addr).add j) = some u := fun j u hu => by
  rw [Addr.add_plain, Nat.zero_add]; exact hB.get (by simpa using hu)
 obtain ⟨v', w', hrun, h2, h3, _, h5⟩ := run_append_own_at (P := P) w base t ty e i z sz bytes ht hi hz hs hb hzs hp (.slice A n c) n xs hown ⟨g, 0, none⟩ 1 c2 cs.toList (by simp [hl]) hnews (fun u hu => by have := Array.all_eq_true'.1 h1 u (by simpa using hu); exact this) (by unfold maxLen; omega) hlen hbase
 obtain ⟨g', Vl, rfl, _, _⟩ := h2.form Om
 exact ⟨_, w', ⟨_, _, rfl, h2, h3, h5⟩, fun _ _ _ _ => by simp [execOp, resolve, invoke, builtin, hρ _ _ hx, hρ _ _ hy, hrun]⟩
end
section
variable {N : Nat} {S S' : List Nat} {Φ Ψ : World → Prop} {w w' : World} {o o' : Option Nat}
theorem Kp.and (h : Kp N S Φ w) (k : Kp N S Ψ w) : Kp N S (fun w => Φ w ∧ Ψ w) w := ⟨h.1, fun w2 hw => ⟨h.2 w2 hw, k.2 w2 hw⟩⟩
end
section
variable {α : Type} {R : World → Array Value → α → Prop} {sz : Nat} {e : TypeId} {base N : Nat} {S S' : List Nat} {w w' : World} {A : Oa} {n c : Nat} {zs : List α}
end
end
end Go.Proofs.YtgfafidlkldeaaaGreat
