/- A region that draws its order, with blocks that every operation keeps. No conditions: plain lemmas of the model. -/
import Derived.Test.YtgfafidlkldeaaaGreatMsC
import Derived.Test.YtgfafidlkldeaaaGreatAu
import Derived.Test.YtgfafidlkldeaaaGreatVs
set_option linter.unusedVariables false
set_option linter.unusedSimpArgs false
set_option maxHeartbeats 4000000
set_option maxRecDepth 4000
namespace Go.Proofs.YtgfafidlkldeaaaGreat
section
open Go.RowKit Tryz
attribute [local irreducible] Y Ef WL WC WK WQ WM cx WN WF cT
open Nd Wire
def Told (w : World) (ok : Prop) (xs : Lb) (A : Oa) (k : Nat) (z : Nat) : Prop := (ok → z = 0 ∧ Bs w A k xs) ∧ (¬ ok → z = 3 ∧ k = 0)
def yw : ByteArray := ⟨#[77, 76, 83, 32, 49, 46, 48, 32, 75, 101, 121, 80, 97, 99, 107, 97, 103, 101, 32, 82, 101, 102, 101, 114, 101, 110, 99, 101]⟩
theorem pB : yw.size ≤ 1048576 := by decide
def lB (p : Pack) : List UInt8 := Sha.sum (vec yw.data.toList ++ vec (xX p))
section
variable {cs : Array Value} {l : bO} {p : Pack} {q : eC} {g : Nat} {t : TypeId}
theorem zg (w : World) (B : ao w g t cs) (H : cS w cs p) (hf : p.Fit) (ok : df p) :
  Ct 142 #[.pointer (some ⟨g, 0, none⟩)] w fun e w' => ∃ A k c, e = .returned (.slice A k c) ∧ (Bs w' A k (jv p) ∧ k ≤ c) ∧ Ext w w' := by
 have HP := H
 obtain ⟨i, h0, h1, h2, h4, h5, gg, rfl, hs, a, b0, b1, b2, b4, b5, c⟩ := H
 have E := Ext.refl w
 refine aj 4 func142 rfl rfl rfl rfl ?_
 intro _ hret
 refine aU ?_
 refine aL func88 rfl (lU _ (HP.ext E) hf ok) ?_
 rintro e _ ⟨A2, k2, c2, rfl, R2, ex⟩
 replace E := E.ext ex
 refine aU ?_
 refine hret rfl ?_
 exact ⟨A2, k2, c2, rfl, ⟨R2.bs, R2.cap⟩, E⟩
theorem zA (w : World) (B : ao w g t cs) (H : cS w cs p) (Vl : p.Small) (ok : df p) :
  Ct 85 #[.pointer (some ⟨g, 0, none⟩)] w fun e w' => ∃ A k c, e = .returned (.slice A k c) ∧ Bn w.heap.size w' A k (lB p) ∧ Ext w w' := by
 have HP := H
 have hf := Vl.fit
 have hl := jy Vl
 have h7 := Vl.2.1
 obtain ⟨i, h0, h1, h2, h4, h5, gg, rfl, hs, a, b0, b1, b2, b4, b5, c⟩ := H
 have lc := c.1
 have E := Ext.refl w
 refine aj 8 func85 rfl rfl rfl rfl ?_
 intro _ hret
 refine aU ?_
 refine aA Kr 7 rfl ?_; intro Vo ex Vp
 obtain ⟨E,B⟩ := aY ex E B
 refine zm [0, 2, 3] ?_
 refine bm 1 rfl func88 rfl (lU _ (HP.ext E) hf ok) ?_
 rintro e _ ⟨A2, k2, c2, rfl, R2, ex⟩
 refine aU ?_
 replace E := E.ext ex
 have Vq := R2.bs.1
 refine bm 4 rfl func87 rfl (cQ A2 gg.A k2 c2 gg.n gg.c _ _ _ R2.bs Om (Bs.ext c E) Om) ?_
 rintro e _ ⟨A3, k3, c3, rfl, R3, _, ex⟩
 refine aU ?_
 replace E := E.ext ex
 have Vr := bu gg.n
 have Vm := E.size
 refine bm 5 rfl func86 rfl (EK A3 k3 c3 yw _ _ R3.bs pB Om) ?_
 rintro e _ ⟨A4, c4, rfl, ⟨H4, Vn⟩, ex⟩
 replace E := E.ext ex
 refine zm [6] ?_
 refine hret rfl ?_
 exact ⟨A4, 32, c4, rfl, Bn.lo ⟨H4, Vn⟩ Vm, E⟩
theorem jg (w : World) (H : cS w cs p) (hf : p.Fit) :
  Ct 69 #[.agg cs] w fun e w' => ∃ A k c z, e = .returned (.tuple #[.slice A k c, .int .u8 ((z : Nat) : Int)]) ∧ Told w' (df p) (jv p) A k z ∧ k ≤ c ∧ Ext w w' := by
 have HP := H
 obtain ⟨i, h0, h1, h2, h4, h5, gg, rfl, hs, a, b0, b1, b2, b4, b5, c⟩ := H
 have E := Ext.refl w
 refine bK 10 func69 rfl rfl rfl rfl ?_
 intro _ hret
 refine aU ?_
 intro _ Vl B1 _ ex
 replace E := E.ext ex
 refine aU ?_
 refine aL func84 rfl (kl _ (HP.ext E) hf) ?_
 rintro e _ ⟨rfl, ex⟩
 obtain ⟨E,B1⟩ := aY ex E B1
 refine au 1 ?_
 refine ak (jc (xs := [.tmp 1]) (vs := [.pointer (some ⟨Vl, 0, none⟩)]) rfl) ?_
 refine aL func83 rfl (lA (us := [.pointer (some ⟨Vl, 0, none⟩)]) (Ψ := fun w A k c => Bs w A k (jv p) ∧ k ≤ c) _ func142 rfl rfl (fun hok w1 e1 => zg w1 (B1.ext e1) ((HP.ext E).ext e1) hf (of_decide_eq_true hok))) ?_
 rintro e _ ⟨A3, k3, c3, z3, rfl, T3, N3, ex⟩
 replace E := E.ext ex
 refine aU ?_
 refine hret rfl rfl ?_
 exact ⟨A3, k3, c3, z3, rfl, ⟨fun o => ⟨(T3 (decide_eq_true o)).1, (T3 (decide_eq_true o)).2.1⟩, fun o => ⟨(N3 (decide_eq_false o)).1, (N3 (decide_eq_false o)).2.2.1⟩⟩, (by by_cases o : df p; exact (T3 (decide_eq_true o)).2.2; have h := N3 (decide_eq_false o); omega), E⟩
theorem fQ (w : World) (H : cS w cs p) (Vl : p.Small) :
  Ct 36 #[.agg cs] w fun e w' => ∃ A k c z, e = .returned (.tuple #[.slice A k c, .int .u8 ((z : Nat) : Int)]) ∧ Told w' (df p) (lB p) A k z ∧ (∀ b o, A = some ⟨b, o, none⟩ → w.heap.size ≤ b) ∧ Ext w w' := by
 have HP := H
 have hf := Vl.fit
 obtain ⟨i, h0, h1, h2, h4, h5, gg, rfl, hs, a, b0, b1, b2, b4, b5, c⟩ := H
 have E := Ext.refl w
 refine bK 10 func36 rfl rfl rfl rfl ?_
 intro _ hret
 refine aU ?_
 intro _ Vm B1 _ ex
 replace E := E.ext ex
 refine aU ?_
 refine aL func84 rfl (kl _ (HP.ext E) hf) ?_
 rintro e w2 ⟨rfl, ex⟩
 obtain ⟨E,B1⟩ := aY ex E B1
 refine au 1 ?_
 refine ak (jc (xs := [.tmp 1]) (vs := [.pointer (some ⟨Vm, 0, none⟩)]) rfl) ?_
 have Vn := E.size
 refine aL func83 rfl (lA (us := [.pointer (some ⟨Vm, 0, none⟩)]) (Ψ := fun w2 A k c => Bn w.heap.size w2 A k (lB p)) _ func85 rfl rfl (fun hok w1 e1 => (zA w1 (B1.ext e1) ((HP.ext E).ext e1) Vl (of_decide_eq_true hok)).mono fun _ _ ⟨A, k, c, h1, h2, h3⟩ => ⟨A, k, c, h1, h2.lo (Nat.le_trans Vn e1.size), h3⟩)) ?_
 rintro e _ ⟨A3, k3, c3, z3, rfl, T3, N3, ex⟩
 replace E := E.ext ex
 refine aU ?_
 refine hret rfl rfl ?_
 exact ⟨A3, k3, c3, z3, rfl, ⟨fun o => ⟨(T3 (decide_eq_true o)).1, (T3 (decide_eq_true o)).2.1⟩, fun o => ⟨(N3 (decide_eq_false o)).1, (N3 (decide_eq_false o)).2.2.1⟩⟩, (by by_cases o : df p; exact (T3 (decide_eq_true o)).2.2; intro b o' e; rw [(N3 (decide_eq_false o)).2.1] at e; cases e), E⟩
theorem pQ (w : World) (H : cS w cs p) (Vl : p.Small) :
  Ct 35 #[.agg cs] w fun e w' => ∃ A' k c', e = .returned (.slice A' k c') ∧ Row w' w.heap.size 5 A' k c' ((xX p).map bv) ∧ Ext w w' := by
 have HP := H
 have hl := jy Vl
 have h7 := Vl.2.1
 obtain ⟨i, h0, h1, h2, h4, h5, gg, rfl, hs, a, b0, b1, b2, b4, b5, c⟩ := H
 have lc := c.1
 have E := Ext.refl w
 refine aj 9 func35 rfl rfl rfl rfl ?_
 intro _ hret
 refine aU ?_
 intro _ _ B1 _ ex
 replace E := E.ext ex
 refine aU ?_
 refine aA Kr 7 rfl ?_; intro Vn ex Vo
 obtain ⟨E,B1⟩ := aY ex E B1
 refine zm [0, 2, 3] ?_
 refine bm 1 rfl func81 rfl (qe _ (HP.ext E) Vl) ?_
 rintro e _ ⟨A2, k2, c2, rfl, R2, ex⟩
 refine aU ?_
 replace E := E.ext ex
 have Vp := R2.bs.1
 refine bm 4 rfl func82 rfl (dq gg.A gg.n gg.c _ _ (Bs.ext c E) Om) ?_
 rintro e _ ⟨A3, k3, c3, rfl, R3, _, ex⟩
 refine aU ?_
 obtain ⟨E,R2⟩ := aY ex E R2
 have Vq := bu gg.n
 have Vm := E.size
 refine bm 5 rfl func80 rfl (dh A2 A3 k2 c2 k3 c3 _ _ _ R2.bs Om R3.bs Om) ?_
 rintro e _ ⟨A4, c4, rfl, R4, ex⟩
 replace E := E.ext ex
 refine zm [6] ?_
 refine hret rfl ?_
 exact ⟨A4, _, c4, rfl, R4.lower Vm, E⟩
end
end
section
open Go.RowKit Tryz
attribute [local irreducible] Y Ef WL WC WK WQ WM cx WN WF cT
open Nd Wire
def Gz (z : Int) : Nat := (z % 18446744073709551616).toNat
theorem tV (z : Int) : IntKind.u64.wrap z = ((Gz z : Nat) : Int) := by
 have h : IntKind.u64.wrap z = z % 18446744073709551616 := by simp [IntKind.wrap, IntKind.bits, IntKind.signed]
 rw [h]; unfold Gz; omega
theorem xm (z : Int) : Gz z < 18446744073709551616 := by unfold Gz; omega
section
variable {cs : Array Value} {q : eC}
theorem kQ (z : Int) (w : World) : Ct 123 #[.int .i64 z] w fun e w' => ∃ A' c', e = .returned (.slice A' 4 c') ∧ Row w' w.heap.size 5 A' 4 c' ((be 4 (Gz z)).map bv) ∧ Ext w w' := by
 refine aj 6 func123 rfl rfl rfl rfl ?_
 intro _ hret
 refine au 8 ?_
 refine ak (bg rfl Tn.u Tn.u (tV z)) ?_
 refine aL func56 rfl (gz 4 (Gz z) _ Om (xm z)) ?_
 rintro e _ ⟨A1, c1, rfl, R1, ex⟩
 refine aU ?_
 refine hret rfl ?_
 exact ⟨A1, c1, rfl, R1, ex⟩
end
end
section
open Go.RowKit
def mI {α : Type} (R : World → Array Value → α → Prop) (sz : Nat) (w : World) (A : Oa) (n : Nat) (xs : List α) : Prop :=
 xs.length = n ∧ ∃ vs : List Value, vs.length = n * sz ∧ At w A vs ∧ ∀ i x, xs[i]? = some x → R w ((vs.drop (i * sz)).take sz).toArray x
section
variable {α : Type} {R : World → Array Value → α → Prop} {sz : Nat} {w w' : World} {A : Oa} {n : Nat} {xs : List α}
theorem mI.ext (h : mI R sz w A n xs) (e : Ext w w') (hR : ∀ cs x, R w cs x → R w' cs x) : mI R sz w' A n xs := by
 obtain ⟨h1, vs, h2, h3, h4⟩ := h
 exact ⟨h1, vs, h2, h3.ext e, fun i x hx => hR _ _ (h4 i x hx)⟩
theorem mI.nil (R : World → Array Value → α → Prop) (sz : Nat) (w : World) (A : Oa) : mI R sz w A 0 [] := ⟨rfl, [], by simp, .inl rfl, fun i x hx => by simp at hx⟩
theorem mI.get (h : mI R sz w A n xs) (hz : 0 < sz) {i : Nat} (hi : i < n) :
  ∃ b off cs x, A = some ⟨b, off, none⟩ ∧ b < w.heap.size ∧ xs[i]? = some x ∧ cs.size = sz ∧ R w cs x ∧ ∀ j v, cs[j]? = some v → w.cell? ⟨b, off + (i * sz + j), none⟩ = some v := by
 obtain ⟨h1, vs, h2, h3, h4⟩ := h
 obtain ⟨x, hx⟩ : ∃ x, xs[i]? = some x := ⟨xs[i]'Om, List.getElem?_eq_getElem _⟩
 have hmul : (i + 1) * sz ≤ n * sz := Nat.mul_le_mul_right sz Om
 rw [Nat.add_mul, Nat.one_mul] at hmul
 rcases h3 with h0 | ⟨b, off, hA, hc⟩
 ·rw [h0] at h2; simp at h2; omega
 ·have hcell : ∀ j v, ((vs.drop (i * sz)).take sz).toArray[j]? = some v → w.cell? ⟨b, off + (i * sz + j), none⟩ = some v := fun j v hv => by
   have hj : j < sz := by
    rcases Nat.lt_or_ge j sz with h | h
    ·exact h
    ·rw [Array.getElem?_eq_none So] at hv; cases hv
   rw [List.getElem?_toArray, List.getElem?_take_of_lt hj, List.getElem?_drop] at hv
   exact hc _ _ hv
  have hs : ((vs.drop (i * sz)).take sz).toArray.size = sz := by simp; omega
  obtain ⟨v, hv⟩ : ∃ v, ((vs.drop (i * sz)).take sz).toArray[0]? = some v := ⟨_, Array.getElem?_eq_getElem (by rw [hs]; exact hz)⟩
  exact ⟨b, off, _, x, hA, dQ (hcell 0 v hv), hx, hs, h4 i x hx, hcell⟩
theorem mI.Dw (h : mI R sz w A n xs) (hz : 0 < sz) {i : Nat} (hi : i < n) :
  ∃ b off cs x, A = some ⟨b, off, none⟩ ∧ b < w.heap.size ∧ xs[i]? = some x ∧ cs.size = sz ∧ R w cs x ∧ ∀ j v, cs[j]? = some v → w.cell? ⟨b, off + i * sz + j, none⟩ = some v := by
 obtain ⟨b, off, cs, x, h1, h2, h3, h4, h5, h6⟩ := h.get hz hi
 exact ⟨b, off, cs, x, h1, h2, h3, h4, h5, fun j v hv => by rw [Nat.add_assoc]; exact h6 j v hv⟩
end
section
variable {P : Program} {L : List (Nat × Value)} {w : World} {ty t e : TypeId} {x y : Operand}
theorem dV {A : Oa} {b off n m j s : Nat} {k : IntKind} {a : Int} (e1 : A = some ⟨b, off, none⟩) (hx : ev L x = some (.slice A n m)) (hy : ev L y = some (.int k a)) (hu : P.underlying t = some (.slice e)) (hs : (P.info? e).map (·.size) = some s) (ha : a = (j : Int)) (hj : j < n) :
  Y P L w (.indexAddr t x y) ty (.pointer (some ⟨b, off + j * s, none⟩)) := by
 subst e1
 exact KE hx hy hu hs ha hj
end
theorem qM {α : Type} {xs : List α} {i : Nat} {x : α} (h : xs[i]? = some x) : xs.take (i + 1) = xs.take i ++ [x] := by
 obtain ⟨hlt, he⟩ := List.getElem?_eq_some_iff.1 h
 rw [List.take_succ_eq_append_getElem hlt, he]
theorem AL {α : Type} {xs : List α} {i : Nat} {x : α} (h : xs[i]? = some x) : x ∈ xs := List.mem_of_getElem? h
end
section
open Go.RowKit
open Nd
structure JY where
 enc : List UInt8
 box : List UInt8
structure Jw where
 box : List UInt8
 to : List JY
structure Mg where
 leaf : bO
 steps : List Jw
structure kC where
 ref : List UInt8
 prop : eC
structure oN where
 items : List kC
 has : Bool
 way : Mg
def Mu (h : Hd) : Value := .slice h.A h.n h.c
def cZ (h0 h1 : Hd) : Array Value := #[.slice h0.A h0.n h0.c, .slice h1.A h1.n h1.c]
section
variable {w w' : World} {cs : Array Value}
end
/-! Which may be, and which are no more than is looked at. -/
def JY.Small (b : JY) : Prop := b.enc.length ≤ 100 ∧ b.box.length ≤ 100
instance (b : JY) : Decidable b.Small := by unfold JY.Small; infer_instance
def Jw.Small (s : Jw) : Prop := s.box.length ≤ 100 ∧ s.to.length ≤ 20 ∧ ∀ b ∈ s.to, b.Small
instance (s : Jw) : Decidable s.Small := by unfold Jw.Small; infer_instance
def kC.Small (x : kC) : Prop := x.ref.length ≤ 100 ∧ x.prop.Small
instance (x : kC) : Decidable x.Small := by unfold kC.Small; infer_instance
def oN.Small (c : oN) : Prop := c.items.length ≤ 70 ∧ c.way.steps.length ≤ 20 ∧ (⟨0, c.way.leaf, Ak.zero⟩ : Node).Small ∧ (∀ x ∈ c.items, x.Small) ∧ ∀ s ∈ c.way.steps, s.Small
instance (c : oN) : Decidable c.Small := by unfold oN.Small; infer_instance
end
section
open Go.RowKit
def Kept (G : List Nat) (w w' : World) : Prop := ∀ b ∈ G, w'.heap[b]? = w.heap[b]?
theorem Kept.refl (G : List Nat) (w : World) : Kept G w w := fun _ _ => rfl
theorem Kept.tr {G : List Nat} {w w' Vl : World} (h : Kept G w w') (k : Kept G w' Vl) : Kept G w Vl := fun b hb => (k b hb).trans (h b hb)
theorem pX {p : Nat → Prop} : ∀ b ∈ ([] : List Nat), p b := fun _ h => by cases h
theorem ku {p : Nat → Prop} {b : Nat} {G : List Nat} (h : p b) (h' : ∀ g ∈ G, p g) : ∀ g ∈ b :: G, p g := fun g hg => by
 rcases List.mem_cons.1 hg with rfl | hg
 ·exact h
 ·exact h' g hg
theorem Kept.ext {G : List Nat} {w w' : World} (e : Ext w w') (h : ∀ b ∈ G, b < w.heap.size) : Kept G w w' := fun b hb => e.block b (h b hb)
theorem Kept.own {G : List Nat} {w w' : World} {o : Option Nat} (e : w.grownBy w' o) (h : ∀ b ∈ G, b < w.heap.size) (hn : ∀ b ∈ G, some b ≠ o) : Kept G w w' := fun b hb => e.block b (h b hb) (hn b hb)
theorem ao.Cy {G : List Nat} {w w' : World} {b : Nat} {t : TypeId} {cs : Array Value} (h : ao w b t cs) (k : Kept G w w') (hb : b ∈ G := by simp) : ao w' b t cs := (k b hb).trans h
theorem Row.qH {w : World} {base b n c m : Nat} {e : TypeId} {A : Oa} {xs : List Value} (h : Row w base e A n c xs) (hb : b < base) : some b ≠ (Value.slice A m c).ownBlock := by
 rcases h.2 with ⟨hv, _⟩ | ⟨g, cap, cur, hv, hg, _⟩
 ·injection hv with hB _ _; subst hB; simp [Value.ownBlock]
 ·injection hv with hB _ _; subst hB
  simp only [Value.ownBlock]
  intro e; injection e with e; omega
theorem aX.BX {w w' : World} {o : Option Nat} (h : w.grownBy w' o) : aX o.toList w w' :=
 ⟨h.os, h.tape, h.output, h.size, fun k hk hn => h.block k hk fun e => hn (by rw [← e]; simp)⟩
section
variable {P : Program} {ops : Array Oper} {Q : Exit → Act → World → Prop} {N : Nd} {L : List (Nat × Value)} {w : World} {G : List Nat}
def Lh (P : Program) (ops : Array Oper) (Q : Exit → Act → World → Prop) (G : List Nat) : Nat → Array Bool → Act → World → Prop
 | 0, listed, a, w => Region.ready .any ops listed = [] ∧ Q .normal a w
 | n + 1, listed, a, w => (Region.ready .any ops listed = [] → Q .normal a w) ∧
   ∀ i ∈ Region.ready .any ops listed, wpOp P ops Q i (fun a' w' => Kept G w w' ∧ Lh P ops Q G n (listed.setIfInBounds i true) a' w') a w
theorem yz : ∀ (n : Nat) (listed : Array Bool) (a : Act) (w : World), Lh P ops Q G n listed a w → wpAny P .any ops Q n listed a w
 | 0, _, _, _, h => h
 | n + 1, _, _, _, h => ⟨h.1, fun i hi => wpOp_mono (fun a' w' h' => yz n _ a' w' h'.2) (h.2 i hi)⟩
theorem yQ {i : Nat} {oi : Oper} {v : Value} (D : Nat → Bool) (hi : ops[i]? = some oi) (hsel : ∀ (j : Nat) (o : Oper) cs b, ops[j]? = some o → o.op ≠ .select cs b)
    (hQ : ∀ c a w, Q (.panic c) (a.put oi.dst v) w → Q (.panic c) a w) :
    ∀ (n : Nat) (listed : Array Bool) (a : Act) (w : World),
      (∀ j oj, ops[j]? = some oj → j ≠ i → listed.getD j true = false → D j = true → ∃ e ∈ oj.after, Region.binds .any e = true ∧ (e.on = i ∨ D e.on = true ∧ listed.getD e.on true = false)) →
      (∀ j oj, ops[j]? = some oj → j ≠ i → listed.getD j true = false → D j = false → oi.apart ops oj = true) →
      i ∈ Region.ready .any ops listed → YieldsIf P ops (fun w' => Kept G w w') oi v a →
      Lh P ops Q G n (listed.setIfInBounds i true) (a.put oi.dst v) w → Lh P ops Q G (n + 1) listed a w := by
  intro n
  induction n with
  | zero =>
    intro listed a w _ _ hr hy H
    refine ⟨fun h => (by rw [h] at hr; cases hr), fun j hj => ?_⟩
    by_cases hji : j = i
    · subst hji; exact hy.wpOp hi (Kept.refl G w) ⟨Kept.refl _ w, H⟩
    · have := ready_mono hj hji
      rw [H.1] at this
      cases this
  | succ n ih =>
    intro listed a w hdep hfree hr hy H
    refine ⟨fun h => (by rw [h] at hr; cases hr), fun j hj => ?_⟩
    by_cases hji : j = i
    · subst hji; exact hy.wpOp hi (Kept.refl G w) ⟨Kept.refl _ w, H⟩
    · have h1 := H.2 j (ready_mono hj hji)
      obtain ⟨hjun, oj, hoj, hall⟩ := mem_ready.1 hj
      have hDj : D j = false := by
        cases hd : D j with
        | false => rfl
        | true =>
          exfalso
          obtain ⟨e, he, hb, hor⟩ := hdep j oj hoj hji hjun hd
          have h1 := hall e he hb
          rcases hor with heq | ⟨_, hun⟩
          · have h0 := (mem_ready.1 hr).1
            rw [heq] at h1
            rcases Nat.lt_or_ge i listed.size with h' | h'
            · simp [h'] at h0 h1; rw [h0] at h1; cases h1
            · simp [Array.getElem?_eq_none h'] at h1
          · rcases Nat.lt_or_ge e.on listed.size with h' | h'
            · simp [h'] at hun h1; rw [hun] at h1; cases h1
            · simp [Array.getElem?_eq_none h'] at h1
      have hap := hfree j oj hoj hji hjun hDj
      have h2 := wpOp_putIf hoj hap (fun cs b => hsel i oi cs b hi) (fun cs b => hsel j oj cs b hoj) hQ hy h1
      have back : ∀ k, (listed.setIfInBounds j true).getD k true = false → listed.getD k true = false := fun k hun => by
        by_cases hjk : j = k
        · subst hjk; exact hjun
        · rwa [getD_set_ne true hjk] at hun
      have Vm : ∀ k ok, ops[k]? = some ok → k ≠ i → (listed.setIfInBounds j true).getD k true = false → D k = true → ∃ e ∈ ok.after, Region.binds .any e = true ∧ (e.on = i ∨ D e.on = true ∧ (listed.setIfInBounds j true).getD e.on true = false) := fun k ok hk hki hun hd => by
        obtain ⟨e, he, hb, hor⟩ := hdep k ok hk hki (back k hun) hd
        refine ⟨e, he, hb, hor.imp id fun ⟨h3, h4⟩ => ⟨h3, ?_⟩⟩
        have hne : j ≠ e.on := by rintro rfl; rw [hDj] at h3; cases h3
        rw [getD_set_ne true hne]; exact h4
      have Vl : ∀ k ok, ops[k]? = some ok → k ≠ i → (listed.setIfInBounds j true).getD k true = false → D k = false → oi.apart ops ok = true := fun k ok hk hki hun hd =>
        hfree k ok hk hki (back k hun) hd
      refine wpOp_mono (fun a' w' h3 => ?_) h2
      obtain ⟨Vn, hx, hrest⟩ := h3
      refine ⟨hx, ih (listed.setIfInBounds j true) a' w' Vm Vl (ready_mono hr (Ne.symm hji)) (Vn.imp (fun ⟨q1, q2⟩ => ⟨q1, fun w2 e2 => q2 w2 (hx.tr e2)⟩) id) ?_⟩
      rw [Array.setIfInBounds_comm _ _ hji]
      exact hrest
def WG (P : Program) (ops : Array Oper) (Q : Exit → Act → World → Prop) (G : List Nat) (n : Nat) (listed : Array Bool) (N : Nd) (L : List (Nat × Value)) (w : World) : Prop := ∀ a, Fr N L a → Lh P ops Q G n listed a w
theorem ur (G : List Nat) {id : Nat} {l : List Oper} (hm : P.follows .mixedOrders = true) (n : Nat) (hn : l.length = n) (h : ∀ w', Ext w w' → w'.heap = w.heap → WG P l.toArray (fW Q) G n (Array.replicate n false) N L w') : WC P Q (.region id l.toArray true) N L w := by
 intro a ha
 subst hn
 have h1 : (Code.region id l.toArray true).wp P (fW Q) a w := by
  refine wp_region_any hm (yz (G := G) _ _ _ _ ?_)
  rw [List.size_toArray]
  exact h _ (Ext.drew w) rfl a ha
 refine wp_mono h1 fun e a w hq => ?_
 cases e <;> first | exact hq | exact hq.elim
theorem oe {n : Nat} {listed : Array Bool} (hr : Region.ready .any ops listed = []) (h : WQ Q .normal N L w) : WG P ops Q G n listed N L w := by
 intro a ha
 cases n with
 | zero => exact ⟨hr, h a ha⟩
 | succ n => exact ⟨fun _ => h a ha, by rw [hr]; simp⟩
def sH (md : Region.Mode) (ops : Array Oper) (listed : Array Bool) (i : Nat) (D : List Bool) : Bool :=
 Region.noSelect ops && (match ops[i]? with
  | none => false
  | some oi => (List.range ops.size).all fun j => j == i || (listed.getD j true || (match ops[j]? with
    | none => true
    | some oj => cond (D.getD j false) (oj.after.any fun e => Region.binds md e && (e.on == i || (D.getD e.on false && !listed.getD e.on true))) (oi.apart ops oj)))) && (Region.ready md ops listed).contains i
theorem Fo {n : Nat} {listed : Array Bool} {i : Nat} {oi : Oper} {v : Value} (hi : ops[i]? = some oi) (hf : sH .any ops listed i (ey .any ops listed i) = true)
  (hy : ∀ a, Fr N L a → YieldsIf P ops (fun w' => Kept G w w') oi v a) (hd : gH N oi.dst = true) (h : WG P ops (fW Q) G n (listed.setIfInBounds i true) N (bL oi.dst v L) w) : WG P ops (fW Q) G (n + 1) listed N L w := by
 intro a ha
 generalize ey .any ops listed i = D at hf
 simp only [sH, hi, Bool.and_eq_true, List.all_eq_true, List.mem_range, Bool.or_eq_true, beq_iff_eq] at hf
 obtain ⟨⟨h1, h2⟩, h4⟩ := hf
 have key : ∀ j oj, ops[j]? = some oj → j ≠ i → listed.getD j true = false → cond (D.getD j false) (oj.after.any fun e => Region.binds .any e && (e.on == i || (D.getD e.on false && !listed.getD e.on true))) (oi.apart ops oj) = true := fun j oj hj hne hun => by
  have := h2 j (Array.getElem?_eq_some_iff.1 hj).1
  rcases this with h | h | h
  ·exact absurd h hne
  ·rw [hun] at h; cases h
  ·rw [hj] at h; exact h
 refine yQ (fun j => D.getD j false) hi (Region.noSelect_spec h1) (fun c a w h => h) n listed a w (fun j oj hj hne hun hd => ?_) (fun j oj hj hne hun hd => ?_) (by simpa using h4) (hy a ha) (h _ (ha.jE hd v))
 ·have k := key j oj hj hne hun
  rw [hd, cond_true] at k
  obtain ⟨e, he, hb⟩ := Array.any_eq_true'.1 k
  simp only [Bool.and_eq_true, Bool.or_eq_true, beq_iff_eq, Bool.not_eq_true'] at hb
  exact ⟨e, he, hb.1, hb.2⟩
 ·have k := key j oj hj hne hun
  rw [hd, cond_false] at k
  exact k
theorem mO {n : Nat} {listed : Array Bool} (i : Nat) {op : Op} {ty : TypeId} {v : Value} {dst : Option Tmp} {pos : String} {after : Array Edge} (hi : ops[i]? = some ⟨dst, op, ty, pos, after, none⟩) (hf : sH .any ops listed i (ey .any ops listed i) = true) (h : ∀ w', Kept G w w' → Y P L w' op ty v) (hd : gH N dst = true)
  (hr : WG P ops (fW Q) G n (listed.setIfInBounds i true) N (bL dst v L) w) : WG P ops (fW Q) G (n + 1) listed N L w :=
 Fo hi hf (fun a ha => .inl ⟨rfl, fun w' e => h w' e a.eval (fun _ _ hx => ha.ev hx) w' (Ext.refl w') _ _ _ _⟩) hd hr
def mR (P : Program) (ops : Array Oper) (Q : Exit → Act → World → Prop) (G : List Nat) (n : Nat) (listed : Array Bool) (i : Nat) (N : Nd) (L : List (Nat × Value)) (w : World) : Prop :=
 ∀ a, Fr N L a → wpOp P ops Q i (fun a' w' => Kept G w w' ∧ Lh P ops Q G n (listed.setIfInBounds i true) a' w') a w
theorem CS {n : Nat} {listed : Array Bool} (rs : List Nat) (hr : Region.ready .any ops listed = rs) (hne : rs.isEmpty = false) (h : ∀ i ∈ rs, mR P ops Q G n listed i N L w) : WG P ops Q G (n + 1) listed N L w := by
 intro a ha
 refine ⟨fun h0 => ?_, fun i hi => h i (hr ▸ hi) a ha⟩
 rw [hr] at h0
 rw [h0] at hne
 cases hne
theorem eN {n : Nat} {listed : Array Bool} (i : Nat) (hr : Region.ready .any ops listed = [i]) (h : mR P ops Q G n listed i N L w) : WG P ops Q G (n + 1) listed N L w :=
 CS [i] hr rfl (fun k hk => by simp only [List.mem_singleton] at hk; subst hk; exact h)
theorem BP {n : Nat} {listed : Array Bool} (i j : Nat) (hr : Region.ready .any ops listed = [i, j]) (h : mR P ops Q G n listed i N L w) (h' : mR P ops Q G n listed j N L w) : WG P ops Q G (n + 1) listed N L w :=
 CS [i, j] hr rfl (fun k hk => by
  simp only [List.mem_cons, List.not_mem_nil, or_false] at hk
  rcases hk with hk | hk <;> subst hk
  ·exact h
  ·exact h')
theorem mg {n : Nat} {listed : Array Bool} {i : Nat} {op : Op} {ty : TypeId} {Φ : Value → World → Prop} {dst : Option Tmp} {pos : String} {after : Array Edge} (hi : ops[i]? = some ⟨dst, op, ty, pos, after, none⟩) (h : Ef P L w op ty Φ) (hd : gH N dst = true)
  (hr : ∀ v w', Φ v w' → Kept G w w' ∧ WG P ops Q G n (listed.setIfInBounds i true) N (bL dst v L) w') : mR P ops Q G n listed i N L w := by
 intro a ha
 unfold wpOp
 simp only [hi]
 rw [if_pos (by simp [Region.wanted])]
 exact .inl (h a N ha _ _ _ _ _ _ fun v w' hv => ⟨(hr v w' hv).1, (hr v w' hv).2 _ (ha.jE hd v)⟩)
section
variable {f : FuncId} {xs : List Operand} {ats : Array TypeId} {vs : List Value} {R : Ending → World → Prop} {fn : Func} {c : Code} {ty : TypeId} {dst : Option Tmp} {pos : String} {after : Array Edge}
theorem fA {n : Nat} {listed : Array Bool} {i : Nat} (hi : ops[i]? = some ⟨dst, .call { callee := .value (.func f), args := xs.toArray, argTypes := ats }, ty, pos, after, none⟩) (hf : P.funcs[f]? = some fn) (hb : fn.body = some c) (hn : (fn.name == "runtime.NumGoroutine") = false) (hx : lI L xs = some vs) (h : Calls P f vs.toArray w R) (hd : gH N dst = true)
  (hr : ∀ e w', R e w' → ∃ v, e = .returned v ∧ Kept G w w' ∧ WG P ops Q G n (listed.setIfInBounds i true) N (bL dst v L) w') : mR P ops Q G n listed i N L w :=
 mg hi (gG hf hb hn hx h hr) hd fun _ _ hv => hv
end
end
theorem Ext.Is {w w' : World} {a : Addr} {v : Value} (e : Ext w w') (h : w.cell? a = some v) : w'.cell? a = some v := (e.cell (dQ h)).trans h
end
end Go.Proofs.YtgfafidlkldeaaaGreat
