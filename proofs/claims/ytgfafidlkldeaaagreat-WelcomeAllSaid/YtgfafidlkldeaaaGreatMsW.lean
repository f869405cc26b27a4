/- What bytes as a whole are: packages, proposals, commits, messages; how great what is read can be. No conditions: contracts of the program's functions. -/
import Derived.Test.YtgfafidlkldeaaaGreatMsC
import Derived.Test.YtgfafidlkldeaaaGreatAu
import Derived.Test.YtgfafidlkldeaaaGreatWireR
import Derived.Test.YtgfafidlkldeaaaGreatVc
set_option linter.unusedVariables false
set_option linter.unusedSimpArgs false
set_option maxHeartbeats 4000000
set_option maxRecDepth 4000
namespace Go.Proofs.YtgfafidlkldeaaaGreat
variable {aa3 : Array Bool} {after : Array Edge} {cs ds old : Array Value} {a c : Ctx} {YU YV fn : Func} {f fo ft : FuncId} {L : List (Nat × Value)} {G S S' V : List Nat} {us vs xs : List Value} {M N b base fuel g gi gr i id k m n sz : Nat} {A : Oa} {op : Op} {oi : Oper} {x y : Operand} {o o' : Option Nat} {dst : Option Tmp} {P : Program} {pos : String} {e t t2 ty : TypeId} {v z : Value} {W w w' w'' : aa9}
section
open Go.RowKit Tryz
attribute [local irreducible] Y Ef WL WC WK WQ WM cu WN WF db
open Nd Wire
def Told (w : aa9) (ok : Prop) (xs : Lb) (A : Oa) (k : Nat) (z : Nat) : Prop := (ok → z = 0 ∧ Bs w A k xs) ∧ (¬ ok → z = 3 ∧ k = 0)
theorem Told.ext {ok : Prop} {xs : Lb} {z : Nat} (h : Told w ok xs A k z) (e : Ext w w') : Told w' ok xs A k z := ⟨fun o => ⟨(h.1 o).1, (h.1 o).2.ext e⟩, h.2⟩
def zy : ByteArray := ⟨#[77, 76, 83, 32, 49, 46, 48, 32, 75, 101, 121, 80, 97, 99, 107, 97, 103, 101, 32, 82, 101, 102, 101, 114, 101, 110, 99, 101]⟩
theorem uo : zy.size ≤ 1048576 := by decide
def dW (p : Pack) : List UInt8 := Sha.sum (vec zy.data.toList ++ vec (yV p))
variable {l : bZ} {p : Pack} {q : fT}
theorem GV (w : aa9) (B : aq w g t cs) (H : dv w cs p) (hf : p.Fit) (ok : dn p) :
  Ct 142 #[.pointer (cf g)] w fun e w' => ∃ A k c, e = .returned (.slice A k c) ∧ (Bs w' A k (lR p) ∧ k ≤ c) ∧ Ext w w' := by
 have HP := H;obtain ⟨i, h0, h1, h2, h4, h5, gg, rfl, hs, a, b0, b1, b2, b4, b5, c⟩ := H;have E := Ext.refl w;refine ai 4 func142 ?_;intro _ aa4;refine aU ?_;refine aB func88 rfl (py _ (HP.ext E) hf ok) ?_;rintro e _ ⟨A2, k2, c2, rfl, R2, ex⟩;replace E := E.ext ex;refine aU ?_;exact aa4 rfl ⟨A2, k2, c2, rfl, ⟨R2.bs, R2.cap⟩, E⟩
theorem Ih (w : aa9) (B : aq w g t cs) (H : dv w cs p) (YU : p.Small) (ok : dn p) :
  Ct 85 #[.pointer (cf g)] w fun e w' => ∃ A k c, e = .returned (.slice A k c) ∧ Bn w.heap.size w' A k (dW p) ∧ Ext w w' := by
 have HP := H;have hf := YU.fit;have hl := mu YU;have h7 := YU.2.1;obtain ⟨i, h0, h1, h2, h4, h5, gg, rfl, hs, a, b0, b1, b2, b4, b5, c⟩ := H;have lc := c.1;have E := Ext.refl w;refine ai 8 func85 ?_;intro _ aa4;refine aU ?_;refine aD Kr 7 rfl ?_; intro YX ex YY;obtain ⟨E,B⟩ := aS ex E B;refine zm [0, 2, 3] ?_;refine bC 1 rfl func88 rfl (py _ (HP.ext E) hf ok) ?_;rintro e _ ⟨A2, k2, c2, rfl, R2, ex⟩;refine aU ?_;replace E := E.ext ex;have YZ := R2.bs.1;refine bC 4 rfl func87 rfl (dy A2 gg.A k2 c2 gg.n gg.c _ _ _ R2.bs Om (Bs.ext c E) Om) ?_;rintro e _ ⟨A3, k3, c3, rfl, R3, _, ex⟩;refine aU ?_;replace E := E.ext ex;have Y0 := bH gg.n;have YV := E.size;refine bC 5 rfl func86 rfl (Pb A3 k3 c3 zy _ _ R3.bs uo Om) ?_;rintro e _ ⟨A4, c4, rfl, ⟨H4, YW⟩, ex⟩;replace E := E.ext ex;refine zm [6] ?_;exact aa4 rfl ⟨A4, 32, c4, rfl, Bn.lo ⟨H4, YW⟩ YV, E⟩
theorem lY (w : aa9) (H : dv w cs p) (hf : p.Fit) :
  Ct 69 #[.agg cs] w fun e w' => ∃ A k c z, e = .returned (.tuple #[.slice A k c, .int .u8 ((z : Nat) : Int)]) ∧ Told w' (dn p) (lR p) A k z ∧ k ≤ c ∧ Ext w w' := by
 have HP := H;obtain ⟨i, h0, h1, h2, h4, h5, gg, rfl, hs, a, b0, b1, b2, b4, b5, c⟩ := H;have E := Ext.refl w;refine aZ 10 func69 ?_;intro _ aa4;refine aU ?_;intro _ YU B1 _ ex;replace E := E.ext ex;refine aU ?_;refine aB func84 rfl (nK _ (HP.ext E) hf) ?_;rintro e _ ⟨rfl, ex⟩;obtain ⟨E,B1⟩ := aS ex E B1;refine au 1 ?_;refine ak (gC (xs := [.tmp 1]) (vs := [.pointer (cf YU)]) rfl) ?_;refine aB func83 rfl (mF (us := [.pointer (cf YU)]) (Ψ := fun w A k c => Bs w A k (lR p) ∧ k ≤ c) _ func142 rfl rfl (fun hok w1 e1 => GV w1 (B1.ext e1) ((HP.ext E).ext e1) hf (aa2 hok))) ?_;rintro e _ ⟨A3, k3, c3, z3, rfl, T3, N3, ex⟩;replace E := E.ext ex;refine aU ?_;exact aa4 rfl rfl ⟨A3, k3, c3, z3, rfl, ⟨fun o => ⟨(T3 (decide_eq_true o)).1, (T3 (decide_eq_true o)).2.1⟩, fun o => ⟨(N3 (decide_eq_false o)).1, (N3 (decide_eq_false o)).2.2.1⟩⟩, (by by_cases o : dn p; exact (T3 (decide_eq_true o)).2.2; have h := N3 (decide_eq_false o); omega), E⟩
theorem fI (w : aa9) (H : dv w cs p) (YU : p.Small) :
  Ct 36 #[.agg cs] w fun e w' => ∃ A k c z, e = .returned (.tuple #[.slice A k c, .int .u8 ((z : Nat) : Int)]) ∧ Told w' (dn p) (dW p) A k z ∧ Nw w.heap.size w' A ∧ Ext w w' := by
 have HP := H;have hf := YU.fit;obtain ⟨i, h0, h1, h2, h4, h5, gg, rfl, hs, a, b0, b1, b2, b4, b5, c⟩ := H;have E := Ext.refl w;refine aZ 10 func36 ?_;intro _ aa4;refine aU ?_;intro _ YV B1 _ ex;replace E := E.ext ex;refine aU ?_;refine aB func84 rfl (nK _ (HP.ext E) hf) ?_;rintro e w2 ⟨rfl, ex⟩;obtain ⟨E,B1⟩ := aS ex E B1;refine au 1 ?_;refine ak (gC (xs := [.tmp 1]) (vs := [.pointer (cf YV)]) rfl) ?_;have YW := E.size;refine aB func83 rfl (mF (us := [.pointer (cf YV)]) (Ψ := fun w2 A k c => Bn w.heap.size w2 A k (dW p)) _ func85 rfl rfl (fun hok w1 e1 => (Ih w1 (B1.ext e1) ((HP.ext E).ext e1) YU (aa2 hok)).mono fun _ _ ⟨A, k, c, h1, h2, h3⟩ => ⟨A, k, c, h1, h2.lo (Nat.le_trans YW e1.size), h3⟩)) ?_;rintro e _ ⟨A3, k3, c3, z3, rfl, T3, N3, ex⟩;replace E := E.ext ex;refine aU ?_;exact aa4 rfl rfl ⟨A3, k3, c3, z3, rfl, ⟨fun o => ⟨(T3 (decide_eq_true o)).1, (T3 (decide_eq_true o)).2.1⟩, fun o => ⟨(N3 (decide_eq_false o)).1, (N3 (decide_eq_false o)).2.2.1⟩⟩, (by by_cases o : dn p; exact (T3 (decide_eq_true o)).2.2; intro b o' e; rw [(N3 (decide_eq_false o)).2.1] at e; cases e), E⟩
theorem ti (w : aa9) (H : dv w cs p) (YU : p.Small) :
  Ct 35 #[.agg cs] w fun e w' => ∃ A' k c', e = .returned (.slice A' k c') ∧ Row w' w.heap.size 5 A' k c' ((yV p).map bv) ∧ Ext w w' := by
 have HP := H;have hl := mu YU;have h7 := YU.2.1;obtain ⟨i, h0, h1, h2, h4, h5, gg, rfl, hs, a, b0, b1, b2, b4, b5, c⟩ := H;have lc := c.1;have E := Ext.refl w;refine ai 9 func35 ?_;intro _ aa4;refine aU ?_;intro _ _ B1 _ ex;replace E := E.ext ex;refine aU ?_;refine aD Kr 7 rfl ?_; intro YW ex YX;obtain ⟨E,B1⟩ := aS ex E B1;refine zm [0, 2, 3] ?_;refine bC 1 rfl func81 rfl (uR _ (HP.ext E) YU) ?_;rintro e _ ⟨A2, k2, c2, rfl, R2, ex⟩;refine aU ?_;replace E := E.ext ex;have YY := R2.bs.1;refine bC 4 rfl func82 rfl (kP gg.A gg.n gg.c _ _ (Bs.ext c E) Om) ?_;rintro e _ ⟨A3, k3, c3, rfl, R3, _, ex⟩;refine aU ?_;obtain ⟨E,R2⟩ := aS ex E R2;have YZ := bH gg.n;have YV := E.size;refine bC 5 rfl func80 rfl (ik A2 A3 k2 c2 k3 c3 _ _ _ R2.bs Om R3.bs Om) ?_;rintro e _ ⟨A4, c4, rfl, R4, ex⟩;replace E := E.ext ex;refine zm [6] ?_;exact aa4 rfl ⟨A4, _, c4, rfl, R4.lower YV, E⟩
end
section
open Go.RowKit
attribute [local irreducible] Y Ef WL WC WK WQ WM cu WN WF db
open Nd Wire
def PN (z : Int) : Nat := (z % 18446744073709551616).toNat
theorem KY (z : Int) : IntKind.u64.wrap z = ((PN z : Nat) : Int) := by
 have h : IntKind.u64.wrap z = z % 18446744073709551616 := by simp [IntKind.wrap, IntKind.bits, IntKind.signed]
 rw [h]; unfold PN; omega
theorem Mv (z : Int) : PN z < 18446744073709551616 := by unfold PN; omega
end
section
open Go.RowKit
def rz {α : Type} (R : aa9 → Array Value → α → Prop) (sz : Nat) (w : aa9) (A : Oa) (n : Nat) (xs : List α) : Prop :=
 xs.length = n ∧ ∃ vs : List Value, vs.length = n * sz ∧ At w A vs ∧ ∀ i x, xs[i]? = some x → R w ((vs.drop (i * sz)).take sz).toArray x
section
variable {α : Type} {R : aa9 → Array Value → α → Prop} {xs : List α}
theorem rz.ext (h : rz R sz w A n xs) (e : Ext w w') (hR : ∀ cs x, R w cs x → R w' cs x) : rz R sz w' A n xs := by obtain ⟨h1, vs, h2, h3, h4⟩ := h;exact ⟨h1, vs, h2, h3.ext e, fun i x hx => hR _ _ (h4 i x hx)⟩
theorem rz.nil (R : aa9 → Array Value → α → Prop) (sz : Nat) (w : aa9) (A : Oa) : rz R sz w A 0 [] := ⟨rfl, [], by simp, .inl rfl, fun i x hx => by simp at hx⟩
theorem rz.get (h : rz R sz w A n xs) (hz : 0 < sz) (hi : i < n) :
  ∃ b off cs x, A = some ⟨b, off, none⟩ ∧ b < w.heap.size ∧ xs[i]? = some x ∧ cs.size = sz ∧ R w cs x ∧ ∀ j v, cs[j]? = some v → w.cell? ⟨b, off + (i * sz + j), none⟩ = some v := by
 obtain ⟨h1, vs, h2, h3, h4⟩ := h
 obtain ⟨x, hx⟩ : ∃ x, xs[i]? = some x := ⟨xs[i]'Om, List.getElem?_eq_getElem _⟩
 have hmul : (i + 1) * sz ≤ n * sz := Nat.mul_le_mul_right sz Om;rw [Nat.add_mul, Nat.one_mul] at hmul
 rcases h3 with h0 | ⟨b, off, hA, hc⟩
 ·rw [h0] at h2; simp at h2; omega
 have aa7 : ∀ j v, ((vs.drop (i * sz)).take sz).toArray[j]? = some v → w.cell? ⟨b, off + (i * sz + j), none⟩ = some v := fun j v hv => by
  have hj : j < sz := by
   rcases Nat.lt_or_ge j sz with h | h
   ·exact h
   rw [Array.getElem?_eq_none So] at hv; cases hv
  rw [List.getElem?_toArray, List.getElem?_take_of_lt hj, List.getElem?_drop] at hv;exact hc _ _ hv
 have hs : ((vs.drop (i * sz)).take sz).toArray.size = sz := by simp; omega
 obtain ⟨v, hv⟩ : ∃ v, ((vs.drop (i * sz)).take sz).toArray[0]? = some v := ⟨_, Array.getElem?_eq_getElem (by rw [hs]; exact hz)⟩
 exact ⟨b, off, _, x, hA, dR (aa7 0 v hv), hx, hs, h4 i x hx, aa7⟩
theorem rz.CC (h : rz R sz w A n xs) (hz : 0 < sz) (hi : i < n) :
  ∃ b off cs x, A = some ⟨b, off, none⟩ ∧ b < w.heap.size ∧ xs[i]? = some x ∧ cs.size = sz ∧ R w cs x ∧ ∀ j v, cs[j]? = some v → w.cell? ⟨b, off + i * sz + j, none⟩ = some v := by
 obtain ⟨b, off, cs, x, h1, h2, h3, h4, h5, h6⟩ := h.get hz hi;exact ⟨b, off, cs, x, h1, h2, h3, h4, h5, fun j v hv => by rw [Nat.add_assoc]; exact h6 j v hv⟩
end
theorem fp {off j s : Nat} {k : IntKind} {a : Int} (e1 : A = some ⟨b, off, none⟩) (hx : ev L x = some (.slice A n m)) (hy : ev L y = some (.int k a)) (hu : P.underlying t = some (.slice e)) (hs : (P.info? e).map (·.size) = some s) (ha : a = (j : Int)) (hj : j < n) :
  Y P L w (.indexAddr t x y) ty (.pointer (some ⟨b, off + j * s, none⟩)) := by
 subst e1;exact Mu hx hy hu hs ha hj
end
section
open Go.RowKit
open Nd
structure T7 where
 enc : List UInt8
 box : List UInt8
structure Uu where
 box : List UInt8
 to : List T7
structure Vk where
 leaf : bZ
 steps : List Uu
structure oy where
 ref : List UInt8
 prop : fT
structure sU where
 items : List oy
 has : Bool
 way : Vk
def Qt (h : Hd) : Value := .slice h.A h.n h.c
def gS (h0 h1 : Hd) : Array Value := #[.slice h0.A h0.n h0.c, .slice h1.A h1.n h1.c]
/-! Which may be, and which are no more than is looked at. -/
def T7.Small (b : T7) : Prop := b.enc.length ≤ 100 ∧ b.box.length ≤ 100
instance (b : T7) : Decidable b.Small := by unfold T7.Small; infer_instance
def Uu.Small (s : Uu) : Prop := s.box.length ≤ 100 ∧ s.to.length ≤ 20 ∧ ∀ b ∈ s.to, b.Small
instance (s : Uu) : Decidable s.Small := by unfold Uu.Small; infer_instance
def oy.Small (x : oy) : Prop := x.ref.length ≤ 100 ∧ x.prop.Small
instance (x : oy) : Decidable x.Small := by unfold oy.Small; infer_instance
def sU.Small (c : sU) : Prop := c.items.length ≤ 70 ∧ c.way.steps.length ≤ 20 ∧ (⟨0, c.way.leaf, Ig.zero⟩ : Node).Small ∧ (∀ x ∈ c.items, x.Small) ∧ ∀ s ∈ c.way.steps, s.Small
instance (c : sU) : Decidable c.Small := by unfold sU.Small; infer_instance
end
section
open Go.RowKit
def Kept (G : List Nat) (w w' : aa9) : Prop := ∀ b ∈ G, w'.heap[b]? = w.heap[b]?
theorem Kept.refl (G : List Nat) (w : aa9) : Kept G w w := fun _ _ => rfl
theorem Kept.tr {YU : aa9} (h : Kept G w w') (k : Kept G w' YU) : Kept G w YU := fun b hb => (k b hb).trans (h b hb)
theorem uN {p : Nat → Prop} : ∀ b ∈ ([] : List Nat), p b := fun _ h => by cases h
theorem oe {p : Nat → Prop} (h : p b) (h' : ∀ g ∈ G, p g) : ∀ g ∈ b :: G, p g := fun g hg => by
 rcases List.mem_cons.1 hg with rfl | hg
 ·exact h
 exact h' g hg
theorem Kept.ext (e : Ext w w') (h : ∀ b ∈ G, b < w.heap.size) : Kept G w w' := fun b hb => e.block b (h b hb)
theorem Kept.own (e : w.grownBy w' o) (h : ∀ b ∈ G, b < w.heap.size) (hn : ∀ b ∈ G, some b ≠ o) : Kept G w w' := fun b hb => e.block b (h b hb) (hn b hb)
theorem aq.NH (h : aq w b t cs) (k : Kept G w w') (hb : b ∈ G := by simp) : aq w' b t cs := (k b hb).trans h
theorem Row.vz {c : Nat} (h : Row w base e A n c xs) (hb : b < base) : some b ≠ (Value.slice A m c).ownBlock := by
 rcases h.2 with ⟨hv, _⟩ | ⟨g, cap, cur, hv, hg, _⟩
 ·injection hv with hB _ _; subst hB; simp [Value.ownBlock]
 injection hv with hB _ _; subst hB
 simp only [Value.ownBlock];intro e; injection e with e; omega
theorem aI.Pc (h : w.grownBy w' o) : aI o.toList w w' :=
 ⟨h.os, h.tape, h.output, h.size, fun k hk hn => h.block k hk fun e => hn (by rw [← e]; simp)⟩
variable {ops : Array Oper} {Q : Exit → Act → aa9 → Prop} {N : Nd}
def UA (P : Program) (ops : Array Oper) (Q : Exit → Act → aa9 → Prop) (G : List Nat) : Nat → Array Bool → Act → aa9 → Prop
 | 0, aa3, a, w => Region.ready .any ops aa3 = [] ∧ Q .normal a w
 | n + 1, aa3, a, w => (Region.ready .any ops aa3 = [] → Q .normal a w) ∧
   ∀ i ∈ Region.ready .any ops aa3, wpOp P ops Q i (fun a' w' => Kept G w w' ∧ UA P ops Q G n (aa3.setIfInBounds i true) a' w') a w
theorem Gb : ∀ (n : Nat) (aa3 : Array Bool) (a : Act) (w : aa9), UA P ops Q G n aa3 a w → wpAny P .any ops Q n aa3 a w
 | 0, _, _, _, h => h
 | n + 1, _, _, _, h => ⟨h.1, fun i hi => wpOp_mono (fun a' w' h' => Gb n _ a' w' h'.2) (h.2 i hi)⟩
theorem IU (D : Nat → Bool) (hi : ops[i]? = some oi) (hsel : ∀ (j : Nat) (o : Oper) cs b, ops[j]? = some o → o.op ≠ .select cs b)
    (hQ : ∀ c a w, Q (.panic c) (a.put oi.dst v) w → Q (.panic c) a w) :
    ∀ (n : Nat) (aa3 : Array Bool) (a : Act) (w : aa9),
      (∀ j oj, ops[j]? = some oj → j ≠ i → aa3.getD j true = false → D j = true → ∃ e ∈ oj.after, Region.binds .any e = true ∧ (e.on = i ∨ D e.on = true ∧ aa3.getD e.on true = false)) →
      (∀ j oj, ops[j]? = some oj → j ≠ i → aa3.getD j true = false → D j = false → oi.apart ops oj = true) →
      i ∈ Region.ready .any ops aa3 → YieldsIf P ops (fun w' => Kept G w w') oi v a →
      UA P ops Q G n (aa3.setIfInBounds i true) (a.put oi.dst v) w → UA P ops Q G (n + 1) aa3 a w := by
  intro n
  induction n with
  | zero =>
    intro aa3 a w _ _ hr hy H
    refine ⟨fun h => (by rw [h] at hr; cases hr), fun j hj => ?_⟩
    by_cases hji : j = i
    · subst hji; exact hy.wpOp hi (Kept.refl G w) ⟨Kept.refl _ w, H⟩
    have := ready_mono hj hji
    rw [H.1] at this
    cases this
  | succ n ih =>
    intro aa3 a w hdep hfree hr hy H
    refine ⟨fun h => (by rw [h] at hr; cases hr), fun j hj => ?_⟩
    by_cases hji : j = i
    · subst hji; exact hy.wpOp hi (Kept.refl G w) ⟨Kept.refl _ w, H⟩
    have h1 := H.2 j (ready_mono hj hji)
    obtain ⟨hjun, oj, hoj, hall⟩ := mem_ready.1 hj
    have hDj : D j = false := by
      cases hd : D j with
      | false => rfl
      | true =>
        exfalso
        obtain ⟨e, he, hb, hor⟩ := hdep j oj hoj hji hjun hd
        have h1 := hall e he hb
        rcases hor with heq | ⟨_, hun⟩
        · have h0 := (mem_ready.1 hr).1
          rw [heq] at h1
          rcases Nat.lt_or_ge i aa3.size with h' | h'
          · simp [h'] at h0 h1; rw [h0] at h1; cases h1
          simp [Array.getElem?_eq_none h'] at h1
        rcases Nat.lt_or_ge e.on aa3.size with h' | h'
        · simp [h'] at hun h1; rw [hun] at h1; cases h1
        simp [Array.getElem?_eq_none h'] at h1
    have hap := hfree j oj hoj hji hjun hDj
    have h2 := wpOp_putIf hoj hap (fun cs b => hsel i oi cs b hi) (fun cs b => hsel j oj cs b hoj) hQ hy h1
    have back : ∀ k, (aa3.setIfInBounds j true).getD k true = false → aa3.getD k true = false := fun k hun => by
      by_cases hjk : j = k
      · subst hjk; exact hjun
      rwa [getD_set_ne true hjk] at hun
    have YV : ∀ k ok, ops[k]? = some ok → k ≠ i → (aa3.setIfInBounds j true).getD k true = false → D k = true → ∃ e ∈ ok.after, Region.binds .any e = true ∧ (e.on = i ∨ D e.on = true ∧ (aa3.setIfInBounds j true).getD e.on true = false) := fun k ok hk hki hun hd => by
      obtain ⟨e, he, hb, hor⟩ := hdep k ok hk hki (back k hun) hd;refine ⟨e, he, hb, hor.imp id fun ⟨h3, h4⟩ => ⟨h3, ?_⟩⟩;have hne : j ≠ e.on := by rintro rfl; rw [hDj] at h3; cases h3
      rw [getD_set_ne true hne]; exact h4
    have YU : ∀ k ok, ops[k]? = some ok → k ≠ i → (aa3.setIfInBounds j true).getD k true = false → D k = false → oi.apart ops ok = true := fun k ok hk hki hun hd =>
      hfree k ok hk hki (back k hun) hd
    refine wpOp_mono (fun a' w' h3 => ?_) h2
    obtain ⟨YW, hx, hrest⟩ := h3
    refine ⟨hx, ih (aa3.setIfInBounds j true) a' w' YV YU (ready_mono hr (Ne.symm hji)) (YW.imp (fun ⟨q1, q2⟩ => ⟨q1, fun w2 e2 => q2 w2 (hx.tr e2)⟩) id) ?_⟩
    rw [Array.setIfInBounds_comm _ _ hji]
    exact hrest
def WG (P : Program) (ops : Array Oper) (Q : Exit → Act → aa9 → Prop) (G : List Nat) (n : Nat) (aa3 : Array Bool) (N : Nd) (L : List (Nat × Value)) (w : aa9) : Prop := ∀ a, Fr N L a → UA P ops Q G n aa3 a w
theorem zP (G : List Nat) {l : List Oper} (hm : P.follows .mixedOrders = true) (n : Nat) (hn : l.length = n) (h : ∀ w', Ext w w' → w'.heap = w.heap → WG P l.toArray (fD Q) G n (Array.replicate n false) N L w') : WC P Q (.region id l.toArray true) N L w := by
 intro a ha;subst hn
 have h1 : (Code.region id l.toArray true).wp P (fD Q) a w := by refine wp_region_any hm (Gb (G := G) _ _ _ _ ?_);rw [List.size_toArray];exact h _ (Ext.drew w) rfl a ha
 refine wp_mono h1 fun e a w hq => ?_;cases e <;> first | exact hq | exact hq.elim
theorem sO (hr : Region.ready .any ops aa3 = []) (h : WQ Q .normal N L w) : WG P ops Q G n aa3 N L w := by
 intro a ha
 cases n with
 | zero => exact ⟨hr, h a ha⟩
 | succ n => exact ⟨fun _ => h a ha, by rw [hr]; simp⟩
def xV (md : Region.Mode) (ops : Array Oper) (aa3 : Array Bool) (i : Nat) (D : List Bool) : Bool :=
 Region.noSelect ops && (match ops[i]? with
  | none => false
  | some oi => (List.range ops.size).all fun j => j == i || (aa3.getD j true || (match ops[j]? with
    | none => true
    | some oj => cond (D.getD j false) (oj.after.any fun e => Region.binds md e && (e.on == i || (D.getD e.on false && !aa3.getD e.on true))) (oi.apart ops oj)))) && (Region.ready md ops aa3).contains i
theorem Oo (hi : ops[i]? = some oi) (hf : xV .any ops aa3 i (fU .any ops aa3 i) = true)
  (hy : ∀ a, Fr N L a → YieldsIf P ops (fun w' => Kept G w w') oi v a) (hd : gV N oi.dst = true) (h : WG P ops (fD Q) G n (aa3.setIfInBounds i true) N (bB oi.dst v L) w) : WG P ops (fD Q) G (n + 1) aa3 N L w := by
 intro a ha;generalize fU .any ops aa3 i = D at hf;simp only [xV, hi, Bool.and_eq_true, List.all_eq_true, List.mem_range, Bool.or_eq_true, beq_iff_eq] at hf;obtain ⟨⟨h1, h2⟩, h4⟩ := hf
 have key : ∀ j oj, ops[j]? = some oj → j ≠ i → aa3.getD j true = false → cond (D.getD j false) (oj.after.any fun e => Region.binds .any e && (e.on == i || (D.getD e.on false && !aa3.getD e.on true))) (oi.apart ops oj) = true := fun j oj hj hne hun => by
  have := h2 j (Array.getElem?_eq_some_iff.1 hj).1;rcases this with h | h | h
  ·exact absurd h hne
  ·rw [hun] at h; cases h
  rw [hj] at h; exact h
 refine IU (fun j => D.getD j false) hi (Region.noSelect_spec h1) (fun c a w h => h) n aa3 a w (fun j oj hj hne hun hd => ?_) (fun j oj hj hne hun hd => ?_) (by simpa using h4) (hy a ha) (h _ (ha.mf hd v))
 ·have k := key j oj hj hne hun;rw [hd, cond_true] at k;obtain ⟨e, he, hb⟩ := Array.any_eq_true'.1 k;simp only [Bool.and_eq_true, Bool.or_eq_true, beq_iff_eq, Bool.not_eq_true'] at hb;exact ⟨e, he, hb.1, hb.2⟩
 have k := key j oj hj hne hun;rw [hd, cond_false] at k;exact k
theorem qt (i : Nat) (hi : ops[i]? = some ⟨dst, op, ty, pos, after, none⟩) (hf : xV .any ops aa3 i (fU .any ops aa3 i) = true) (h : ∀ w', Kept G w w' → Y P L w' op ty v) (hd : gV N dst = true)
  (hr : WG P ops (fD Q) G n (aa3.setIfInBounds i true) N (bB dst v L) w) : WG P ops (fD Q) G (n + 1) aa3 N L w :=
 Oo hi hf (fun a ha => .inl ⟨rfl, fun w' e => h w' e a.eval (fun _ _ hx => ha.ev hx) w' (Ext.refl w') _ _ _ _⟩) hd hr
def lW (P : Program) (ops : Array Oper) (Q : Exit → Act → aa9 → Prop) (G : List Nat) (n : Nat) (aa3 : Array Bool) (i : Nat) (N : Nd) (L : List (Nat × Value)) (w : aa9) : Prop :=
 ∀ a, Fr N L a → wpOp P ops Q i (fun a' w' => Kept G w w' ∧ UA P ops Q G n (aa3.setIfInBounds i true) a' w') a w
theorem JF (rs : List Nat) (hr : Region.ready .any ops aa3 = rs) (hne : rs.isEmpty = false) (h : ∀ i ∈ rs, lW P ops Q G n aa3 i N L w) : WG P ops Q G (n + 1) aa3 N L w := by intro a ha;refine ⟨fun h0 => ?_, fun i hi => h i (hr ▸ hi) a ha⟩;rw [hr] at h0;rw [h0] at hne;cases hne
theorem gJ (i : Nat) (hr : Region.ready .any ops aa3 = [i]) (h : lW P ops Q G n aa3 i N L w) : WG P ops Q G (n + 1) aa3 N L w :=
 JF [i] hr rfl (fun k hk => by simp only [List.mem_singleton] at hk; subst hk; exact h)
theorem JU (i j : Nat) (hr : Region.ready .any ops aa3 = [i, j]) (h : lW P ops Q G n aa3 i N L w) (h' : lW P ops Q G n aa3 j N L w) : WG P ops Q G (n + 1) aa3 N L w :=
 JF [i, j] hr rfl (fun k hk => by
  simp only [List.mem_cons, List.not_mem_nil, or_false] at hk;rcases hk with hk | hk <;> subst hk
  ·exact h
  exact h')
theorem qi {Φ : Value → aa9 → Prop} (hi : ops[i]? = some ⟨dst, op, ty, pos, after, none⟩) (h : Ef P L w op ty Φ) (hd : gV N dst = true)
  (hr : ∀ v w', Φ v w' → Kept G w w' ∧ WG P ops Q G n (aa3.setIfInBounds i true) N (bB dst v L) w') : lW P ops Q G n aa3 i N L w := by
 intro a ha;unfold wpOp;simp only [hi];rw [if_pos (by simp [Region.wanted])];exact .inl (h a N ha _ _ _ _ _ _ fun v w' hv => ⟨(hr v w' hv).1, (hr v w' hv).2 _ (ha.mf hd v)⟩)
variable {xs : List Operand} {ats : Array TypeId} {R : Ending → aa9 → Prop} {c : Code}
theorem ix (hi : ops[i]? = some ⟨dst, .call { callee := .value (.func f), args := xs.toArray, argTypes := ats }, ty, pos, after, none⟩) (hf : P.funcs[f]? = some fn) (hb : fn.body = some c) (hn : (fn.name == "runtime.NumGoroutine") = false) (hx : oY L xs = some vs) (h : Calls P f vs.toArray w R) (hd : gV N dst = true)
  (hr : ∀ e w', R e w' → ∃ v, e = .returned v ∧ Kept G w w' ∧ WG P ops Q G n (aa3.setIfInBounds i true) N (bB dst v L) w') : lW P ops Q G n aa3 i N L w :=
 qi hi (jD hf hb hn hx h hr) hd fun _ _ hv => hv
end
section
open Go.RowKit
attribute [local irreducible] Y Ef WL WC WK WQ WM cu WN WF db WG lW
open Nd Wire
structure uZ where
 group : List UInt8
 epoch : Nat
 frm : Int
 kind : Nat
 prop : fT
 com : sU
 sig : List UInt8
 tag : List UInt8
 member : List UInt8
def uZ.Small (m : uZ) : Prop := m.group.length ≤ 200 ∧ m.prop.Small ∧ m.com.Small ∧ m.sig.length ≤ 100 ∧ m.tag.length ≤ 100 ∧ m.member.length ≤ 100
instance (m : uZ) : Decidable m.Small := by unfold uZ.Small; infer_instance
/-! Its bytes. -/
end
section
open Go.ChangeShapes Go.WideShapes Go.ChangeAt Go.RowKit
variable {H : Type} {enc : TypeId × Value → H} {spare : Nat → Bool} {held : Bool}
theorem glue {α : Type} (cs : List α) (o k : Nat) : cs.drop o = (cs.drop o).take k ++ cs.drop (o + k) := by rw [← List.drop_drop, List.take_append_drop]
theorem xz (x : Addr) (i j : Nat) : (x.add i).add j = x.add (i + j) := by unfold Addr.add;grind
theorem Na {α : Type} {R : aa9 → Array Value → α → Prop} (hu : Tryz.prog.underlying t = some (.slice e)) (hc : Tryz.prog.cellsOf e = sz)
    (each : ∀ (fuel : Nat) (cs : List Value) (x : DataW H × List MemPlace), DataW.trod enc Tryz.prog W base spare held fuel e cs = some x → ∃ v : α, R W cs.toArray v) {cs : List Value} {x : DataW H × List MemPlace} (h : DataW.trod enc Tryz.prog W base spare held fuel t cs = some x) : ∃ a n c xs, cs = [.slice a n c] ∧ rz R sz W a n xs ∧ n ≤ maxLen := by
  rcases DataW.trod_slice hu h with ⟨hcs, _⟩ | ⟨x, l, c, elems, rest, n, _, hcs, _, _, hl, hm, hlen, hel, _, _⟩
  · exact ⟨none, 0, 0, [], hcs, rz.nil _ _ _ _, Om⟩
  have ev : ∀ i, i < l → ∃ q : List Value × α, q.1.length = sz ∧ (∀ j, j < sz → W.cell? (x.add (i * sz + j)) = q.1[j]?) ∧ R W q.1.toArray q.2 := fun i hi => by have hE := hel i hi;rw [hc, List.getElem?_eq_getElem Om] at hE;simp only [Option.bind_eq_some_iff] at hE;obtain ⟨c1, YU, hy⟩ := hE;obtain ⟨_, q1, q2⟩ := World.cells?_some YU;obtain ⟨v, hv⟩ := each _ _ _ hy;exact ⟨(c1, v), q1, fun j hj => by rw [← q2 j hj, xz], hv⟩
  obtain ⟨qs, hql, hq⟩ := rC l ev
  have hflat : ∀ (ls : List (List Value × α)), (∀ q ∈ ls, q.1.length = sz) → (ls.flatMap (·.1)).length = ls.length * sz ∧ ∀ i j, j < sz → ∀ h : i < ls.length, (ls.flatMap (·.1))[i * sz + j]? = (ls[i]).1[j]? := by
    intro ls
    induction ls with
    | nil => simp_all
    | cons q ls ih =>
      intro hall
      obtain ⟨h1, h2⟩ := ih fun q hq => hall q (List.mem_cons_of_mem _ hq)
      have YV := hall q List.mem_cons_self
      refine ⟨by rw [List.flatMap_cons, List.length_append, h1, YV, List.length_cons, Nat.add_mul]; omega, fun i j hj hi => ?_⟩
      rw [List.flatMap_cons]
      cases i with
      | zero => grind
      | succ i =>
        rw [Nat.add_mul, Nat.one_mul, List.getElem?_append_right Om, show i * sz + sz + j - q.1.length = i * sz + j by omega, h2 i j hj (by simpa using hi)]
        rfl
  have hall : ∀ q ∈ qs, q.1.length = sz := fun q YW => by obtain ⟨i, hi, rfl⟩ := List.getElem_of_mem YW;grind
  obtain ⟨f1, f2⟩ := hflat qs hall;refine ⟨some x, l, c, qs.map (·.2), hcs, ⟨by simpa using hql, qs.flatMap (·.1), by rw [f1, hql], At.uv fun j u hu => ?_, fun i v hv => ?_⟩, Om⟩
  · have hjl : j < l * sz := by grind
    have hsz : 0 < sz := Nat.pos_of_ne_zero fun e => by grind
    have hd : j / sz < l := Nat.div_lt_of_lt_mul (by rwa [Nat.mul_comm]);have hmd := Nat.mod_lt j hsz;have hj : j / sz * sz + j % sz = j := by rw [Nat.mul_comm]; exact Nat.div_add_mod j sz
    grind
  rw [List.getElem?_map] at hv
  cases hi : qs[i]? with
  | none => simp [hi] at hv
  | some q =>
    simp only [hi, Option.map_some, Option.some.injEq] at hv
    subst hv
    obtain ⟨hlt, e⟩ := List.getElem?_eq_some_iff.1 hi
    have hqi := hq i hlt
    rw [e] at hqi
    have : ((qs.flatMap (·.1)).drop (i * sz)).take sz = q.1 := by
      apply List.ext_getElem?;intro j;by_cases hj : j < sz
      · rw [List.getElem?_take_of_lt hj, List.getElem?_drop, f2 i j hj hlt, e]
      grind
    grind
theorem NS {cs : List Value} {o : Nat} (hk : k = 1) (h : (cs.drop o).take k = [v]) : cs.drop o = v :: cs.drop (o + 1) := by subst hk;rw [glue cs o 1, h]; rfl
theorem Uj {cs : List Value} (h : cs.length = n) : cs.drop n = [] := List.drop_eq_nil_of_le Om
end
section
open Go.RowKit
attribute [local irreducible] Y Ef WL WC WK WQ WM cu WN WF db WG lW
open Nd Wire
instance (c : Ctx) : Decidable c.Small := by unfold Ctx.Small; infer_instance
variable {m : uZ}
/-! The reference. -/
theorem sZ (w : aa9) (H : gU w ds c) (he : c.ep < 18446744073709551616) :
  Ct 15 #[.agg ds] w (ck w (.bool (decide c.Small))) := by
 obtain ⟨A1, A2, A3, n1, d1, n2, d2, n3, d3, rfl, H1, H2, H3⟩ := H;have m1 := H1.1; have m2 := H2.1; have m3 := H3.1;have E := Ext.refl w;refine ai 19 Tryz.func15 ?_;intro _ aa4;refine aU ?_;intro w1 g1 (B1 : aq _ _ _ (Iw A1 A2 A3 n1 d1 n2 d2 n3 d3 c.ep)) YU ex;replace E := E.ext ex;refine au 9 ?_;refine bL (aL rfl) rfl (fun q0 => ?_) (fun q0 => ?_)
 ·refine au 5 ?_;refine bL (aL rfl) rfl (fun q1 => ?_) (fun q1 => ?_)
  ·refine aU ?_;exact aa4 rfl ⟨dZ ⟨fun h => ⟨Om, Om, Om, he⟩, fun h => by have := h.2.2.1; omega⟩, E⟩
  refine aU ?_;exact aa4 rfl ⟨cW fun h => by have := h.2.1; omega, E⟩
 refine aU ?_;exact aa4 rfl ⟨cW fun h => by have := h.1; omega, E⟩
end
section
open Go.RowKit Tryz
attribute [local irreducible] Y Ef WL WC WK WQ WM cu WN WF db WG lW
open Nd Wire
theorem QE {a b : Pack} : a = b ↔ a.init = b.init ∧ a.leaf = b.leaf ∧ a.sig = b.sig := by
 constructor
 ·rintro rfl; simp
 cases a; cases b; simp_all
instance (a b : Pack) : Decidable (a = b) := decidable_of_iff _ QE.symm
theorem Oz {a b : fT} : a = b ↔ a.kind = b.kind ∧ a.pack = b.pack ∧ a.leaf = b.leaf ∧ a.at_ = b.at_ := by
 constructor
 ·rintro rfl; simp
 cases a; cases b; simp_all
instance (a b : fT) : Decidable (a = b) := decidable_of_iff _ Oz.symm
theorem SM {a b : T7} : a = b ↔ a.enc = b.enc ∧ a.box = b.box := by
 constructor
 ·rintro rfl; simp
 cases a; cases b; simp_all
instance : DecidableEq T7 := fun a b => decidable_of_iff _ SM.symm
theorem Se {a b : Uu} : a = b ↔ a.box = b.box ∧ a.to = b.to := by
 constructor
 ·rintro rfl; simp
 cases a; cases b; simp_all
instance : DecidableEq Uu := fun a b => decidable_of_iff _ Se.symm
theorem OO {a b : oy} : a = b ↔ a.ref = b.ref ∧ a.prop = b.prop := by
 constructor
 ·rintro rfl; simp
 cases a; cases b; simp_all
instance : DecidableEq oy := fun a b => decidable_of_iff _ OO.symm
theorem Sz {a b : sU} : a = b ↔ a.items = b.items ∧ a.has = b.has ∧ a.way.leaf = b.way.leaf ∧ a.way.steps = b.way.steps := by
 constructor
 ·rintro rfl; simp
 obtain ⟨i, h, l, s⟩ := a;obtain ⟨i', h', l', s'⟩ := b;rintro ⟨h1, h2, h3, h4⟩;simp only at h1 h2 h3 h4;subst h1; subst h2; subst h3; subst h4; rfl
instance (a b : sU) : Decidable (a = b) := decidable_of_iff _ Sz.symm
def Ctx.Fit (c : Ctx) : Prop := c.grp.length ≤ 1000000 ∧ c.tree.length ≤ 1000000 ∧ c.trans.length ≤ 1000000
def pB (a b : uZ) : Prop := a.group = b.group ∧ a.epoch = b.epoch ∧ a.frm = b.frm ∧ a.kind = b.kind ∧ a.prop = b.prop ∧ a.com = b.com
instance (a b : uZ) : Decidable (pB a b) := by unfold pB; infer_instance
theorem P0 {a b : uZ} : a = b ↔ pB a b ∧ a.sig = b.sig ∧ a.tag = b.tag ∧ a.member = b.member := by
 unfold pB;constructor
 ·rintro rfl; simp
 cases a; cases b; simp_all
instance (a b : uZ) : Decidable (a = b) := decidable_of_iff _ P0.symm
theorem MA {b : Ctx} : a = b ↔ a.grp = b.grp ∧ a.ep = b.ep ∧ a.tree = b.tree ∧ a.trans = b.trans := by
 constructor
 ·rintro rfl; simp
 cases a; cases b; simp_all
instance (a b : Ctx) : Decidable (a = b) := decidable_of_iff _ MA.symm
theorem uS {b : Ctx} (w : aa9) (H : gU w cs a) (K : gU w ds b) (hf : a.Fit) (hg : b.Fit) :
  Ct 64 #[.agg cs, .agg ds] w (ck w (.bool (decide (a = b)))) := by
 obtain ⟨A1, A2, A3, n1, d1, n2, d2, n3, d3, rfl, H1, H2, H3⟩ := H;obtain ⟨YU, YV, YW, m1, e1, m2, e2, m3, e3, rfl, Q1, Q2, Q3⟩ := K;have i1 := H1.1; have i2 := H2.1; have i3 := H3.1; have j1 := Q1.1; have j2 := Q2.1; have j3 := Q3.1;obtain ⟨f1, f2, f3⟩ := hf;obtain ⟨g1, g2, g3⟩ := hg;have E := Ext.refl w;refine ai 31 func64 ?_;intro _ aa4;refine aU ?_;intro w1 g1 (B1 : aq _ _ _ (Iw A1 A2 A3 n1 d1 n2 d2 n3 d3 a.ep)) YX ex;replace E := E.ext ex;refine aU ?_;intro w2 g2 (B2 : aq _ _ _ (Iw YU YV YW m1 e1 m2 e2 m3 e3 b.ep)) YY ex;obtain ⟨E,B1⟩ := aS ex E B1;refine aU ?_;refine aB func26 rfl (ov (Bs.ext H1 E) (Bs.ext Q1 E) Om Om) ?_;rintro e _ ⟨rfl, ex⟩;obtain ⟨E,B1,B2⟩ := bh ex E B1 B2;refine au 1 ?_;refine bL (aL rfl) rfl (fun q0 => ?_) (fun q0 => ?_)
 ·refine au 6 ?_;refine bL (aL rfl) rfl (fun q1 => ?_) (fun q1 => ?_)
  ·refine aU ?_;refine eT 17 rfl rfl func26 rfl rfl rfl (ov (Bs.ext H2 E) (Bs.ext Q2 E) Om Om) rfl ?_;rintro e _ ⟨rfl, ex⟩;obtain ⟨E,B1,B2⟩ := bh ex E B1 B2;refine au 2 ?_;refine bL (aL rfl) rfl (fun q2 => ?_) (fun q2 => ?_)
   ·refine aU ?_;refine eT 24 rfl rfl func26 rfl rfl rfl (ov (Bs.ext H3 E) (Bs.ext Q3 E) Om Om) rfl ?_;rintro e _ ⟨rfl, ex⟩;replace E := E.ext ex;refine aU ?_;exact aa4 rfl ⟨dZ ⟨fun h => MA.2 ⟨q0, Om, q2, h⟩, fun h => by rw [h]⟩, E⟩
   refine aU ?_;exact aa4 rfl ⟨cW fun h => q2 (by rw [h]), E⟩
  refine aU ?_;exact aa4 rfl ⟨cW fun h => q1 (by rw [h]), E⟩
 refine aU ?_;exact aa4 rfl ⟨cW fun h => q0 (by rw [h]), E⟩
end
section
open Go.RowKit
namespace M20
open Wire Nd
theorem Sh (a b : Lb) : nb (a ++ b) = nb a * 256 ^ b.length + nb b := by unfold nb;rw [List.foldl_append, sG]; rfl
theorem Q8 : ∀ (k n : Nat), nb (be k n) = n % 256 ^ k
  | 0, n => by simp [be, nb, Nat.mod_one]
  | k + 1, n => by
    rw [be, Sh, Q8 k, UH, List.length_singleton, Nat.pow_one, UInt8.toNat_ofNat']
    have h1 : n / 256 % 256 ^ k * 256 + n % 2 ^ 8 = n % (256 * 256 ^ k) := by rw [Nat.mod_mul, show (2 : Nat) ^ 8 = 256 from rfl]; omega
    rw [h1, Nat.pow_succ, Nat.mul_comm]
theorem yj (h : n < 256 ^ k) (r : Lb) : iR k (.ok (be k n ++ r)) = (n, .ok r) := by have hl := ji k n;rw [sE, if_neg (by rw [List.length_append, hl]; omega), List.take_left' hl, List.drop_left' hl, Q8, Nat.mod_eq_of_lt h]
/-! Each thing in its turn. -/
def jA (k n : Nat) (s : St) : St := match (iR k s).2 with
 | .ok r => if (iR k s).1 = n then .ok r else .error 3
 | .error c => .error c
def kB (s : St) : Bool × St := match (iR 1 s).2 with
 | .ok r => if 1 < (iR 1 s).1 then (false, .error 3) else (decide ((iR 1 s).1 = 1), .ok r)
 | .error c => (false, .error c)
/-! There. -/
theorem tO (h : n < 256 ^ k) (r : Lb) : jA k n (.ok (be k n ++ r)) = .ok r := by unfold jA;rw [yj h];exact if_pos rfl
theorem GW (r : Lb) : kB (.ok (1 :: r)) = (true, .ok r) := by unfold kB; rw [qR]; rfl
theorem Lh (r : Lb) : kB (.ok (0 :: r)) = (false, .ok r) := by unfold kB; rw [qR]; rfl
end M20
end
section
open Go.RowKit
attribute [local irreducible] Y Ef WL WC WK WQ WM cu WN WF db WG lW
namespace M20
open Wire Nd
def DM (s : St) : Ctx × St :=
 let g := iE (jA 2 1 (jA 2 1 s))
 let e := iR 8 g.2
 let t := iE e.2
 let u := iE t.2
 (⟨g.1, e.1, t.1, u.1⟩, jA 1 0 u.2)
theorem Dx (h : c.Fit) (he : c.ep < 18446744073709551616) (r : Lb) : DM (.ok (cy c ++ r)) = (c, .ok r) := by
 obtain ⟨h1, h2, h3⟩ := h
 have e : cy c ++ r = be 2 1 ++ (be 2 1 ++ (vec c.grp ++ (be 8 c.ep ++ (vec c.tree ++ (vec c.trans ++ (be 1 0 ++ r)))))) := by unfold cy;simp only [List.append_assoc]; rfl
 rw [e];unfold DM;simp only [tO (k := 2) (n := 1) Om, iP (v := c.grp) Om, yj (k := 8) (n := c.ep) Om, iP (v := c.tree) Om, iP (v := c.trans) Om, tO (k := 1) (n := 0) Om]
end M20
open M20
end
section
open Go.RowKit
def je (w : aa9) (base : Nat) (e : TypeId) (sz : Nat) (A : Oa) (n c : Nat) (xs : List Value) : Prop := w.ownsRow base e sz (.slice A n c) n xs
section
variable {c : Nat}
theorem je.empty (w : aa9) (base : Nat) (e : TypeId) (sz : Nat) : je w base e sz none 0 0 [] := ⟨by simp, .inl ⟨rfl, rfl⟩⟩
theorem je.len (h : je w base e sz A n c xs) : xs.length = n * sz := h.1
theorem je.cap (h : je w base e sz A n c xs) : n ≤ c := by
 rcases h.2 with ⟨hv, rfl⟩ | ⟨g, cap, cur, hv, _, _, hc, _⟩
 ·omega
 injection hv with _ _ hv; omega
theorem je.at (h : je w base e sz A n c xs) : At w A xs := by
 have h0 := h
 rcases h.2 with ⟨hv, rfl⟩ | ⟨g, cap, cur, hv, _⟩
 ·have := h.1;exact .inl (List.eq_nil_of_length_eq_zero Om)
 injection hv with hA
 subst hA;exact At.uv (World.ownsRow.cells h0 rfl)
theorem je.kp (h : je w base e sz A n c xs) (hS : ∀ g ∈ S, g < base) : Kp w.heap.size S (fun w => je w base e sz A n c xs) w := by
 refine ⟨Nat.le_refl _, fun w2 hw => ⟨h.1, ?_⟩⟩
 rcases h.2 with h0 | ⟨g, cap, cur, hv, hg, hb, r⟩
 ·exact .inl h0
 have hlt : g < w.heap.size := (Array.getElem?_eq_some_iff.1 hb).1;exact .inr ⟨g, cap, cur, hv, hg, (hw g hlt fun hm => by grind).trans hb, r⟩
theorem je.bD (h : je w base e sz A n c xs) (k : aI S w w') (hS : ∀ g ∈ S, g < base := by first | (simp; done) | (simp; omega)) : je w' base e sz A n c xs := ((h.kp hS).bD k (fun _ h => h)).out
theorem je.mz (h : je w base e sz A n c xs) : ∀ g ∈ (Value.slice A m c).ownBlock.toList, base ≤ g ∧ g < w.heap.size := by
 intro g hg;have h0 := h
 rcases h.2 with ⟨hv, _⟩ | ⟨g', cap, cur, hv, hb, hk, _⟩
 ·injection hv with hA; subst hA; simp [Value.ownBlock] at hg
 injection hv with hA; subst hA
 simp only [Value.ownBlock, Option.toList_some, List.mem_singleton] at hg;grind
end
structure wW (P : Program) (t e : TypeId) (sz bytes : Nat) : Prop where
 ht : P.underlying t = some (.slice e)
 pos : 0 < sz
 row : ∃ (i : TypeInfo) (z : Value), P.info? e = some i ∧ i.zero = some z ∧ i.size = sz ∧ i.bytes = bytes ∧ z.cells.size = sz
theorem wW.of {bytes : Nat} (ht : P.underlying t = some (.slice e)) (h : (P.info? e).map (fun i => (i.zero, i.size, i.bytes)) = some (some z, sz, bytes)) (hz : z.cells.size = sz) (hp : 0 < sz) : wW P t e sz bytes := by obtain ⟨i, h1, h2, h3, h4⟩ := info_parts h;exact ⟨ht, hp, i, z, h1, h2, h3, h4, hz⟩
def Wa (w : aa9) (base : Nat) (e : TypeId) (sz : Nat) (A : Oa) (n c : Nat) (xs : List Value) (v : Value) (w' : aa9) : Prop :=
 ∃ A' c', v = .slice A' (n + 1) c' ∧ je w' base e sz A' (n + 1) c' xs ∧ w.grownBy w' (Value.slice A n c).ownBlock ∧ ((Value.slice A' (n + 1) c').ownBlock = (Value.slice A n c).ownBlock ∨ (Value.slice A' (n + 1) c').ownBlock = some w.heap.size)
theorem xJ {c c2 bytes : Nat} (hx : ev L x = some (.slice A n c)) (hy : ev L y = some (.slice (cf g) 1 c2)) (hE : wW P t e sz bytes) (aa5 : je w base e sz A n c xs) (hB : aq w g t2 cs) (hl : cs.size = sz) (h1 : cs.all (·.oneCell') = true)
  (hlen : (n + 1) * bytes ≤ 140737488355328) (YV : n + 1 ≤ 140737488355328) (aa6 : base ≤ w.heap.size) : Ef P L w (.call { callee := .builtin .append, args := #[x, y], argTypes := #[t, t] }) ty (Wa w base e sz A n c (xs ++ cs.toList)) := Ef.run fun ρ hρ => by
 obtain ⟨ht, hp, i, z, hi, hz, hs, hb, hzs⟩ := hE
 have hnews : ∀ j u, cs.toList[j]? = some u → w.cell? ((⟨g, 0, none⟩ : Addr).add j) = some u := fun j u hu => by rw [Addr.add_plain, Nat.zero_add]; exact hB.get (by simpa using hu)
 obtain ⟨v', w', aa8, h2, h3, _, h5⟩ := run_append_own_at (P := P) w base t ty e i z sz bytes ht hi hz hs hb hzs hp (.slice A n c) n xs aa5 ⟨g, 0, none⟩ 1 c2 cs.toList (by simp [hl]) hnews (fun u hu => by have := Array.all_eq_true'.1 h1 u (by simpa using hu); exact this) (by unfold maxLen; omega) hlen aa6;obtain ⟨g', YU, rfl, _, _⟩ := h2.form Om;exact ⟨_, w', ⟨_, _, rfl, h2, h3, h5⟩, fun _ _ _ _ => by simp [execOp, resolve, invoke, builtin, hρ _ _ hx, hρ _ _ hy, aa8]⟩
variable {Φ Ψ : aa9 → Prop}
theorem Kp.uP (h : Kp N S Φ w) (h1 : N ≤ M) (h2 : M ≤ w.heap.size) : Kp M S Φ w := ⟨h2, fun w2 hw => h.2 w2 fun k hk hn => hw k Om hn⟩
theorem Kp.and (h : Kp N S Φ w) (k : Kp N S Ψ w) : Kp N S (fun w => Φ w ∧ Ψ w) w := ⟨h.1, fun w2 hw => ⟨h.2 w2 hw, k.2 w2 hw⟩⟩
end
open Go.RowKit Tryz
attribute [local irreducible] Ef WC WF WG WJ WK WL WM WN WQ Y cu db iC lW
section
open Nd Wire
structure fK where
 ctx : Ctx
 tag : List UInt8
 frm : Int
 sig : List UInt8
structure nJ where
 ref : List UInt8
 enc : List UInt8
 box : List UInt8
structure nG where
 guests : List nJ
 info : List UInt8
def Ctx.zero : Ctx := ⟨[], 0, [], []⟩
def fK.zero : fK := ⟨Ctx.zero, [], 0, []⟩
def nJ.zero : nJ := ⟨[], [], []⟩
def nG.zero : nG := ⟨[], []⟩
theorem DZ {a b : fK} : a = b ↔ a.ctx = b.ctx ∧ a.tag = b.tag ∧ a.frm = b.frm ∧ a.sig = b.sig := by
 constructor
 ·grind
 rintro ⟨_, _, _, _⟩; cases a; cases b; simp_all
theorem Ul {a b : nJ} : a = b ↔ a.ref = b.ref ∧ a.enc = b.enc ∧ a.box = b.box := by
 constructor
 ·grind
 rintro ⟨_, _, _⟩; cases a; cases b; simp_all
theorem Un {a b : nG} : a = b ↔ a.guests = b.guests ∧ a.info = b.info := by
 constructor
 ·grind
 rintro ⟨_, _⟩; cases a; cases b; simp_all
instance (a b : fK) : Decidable (a = b) := decidable_of_iff _ DZ.symm
instance (a b : nJ) : Decidable (a = b) := decidable_of_iff _ Ul.symm
instance : DecidableEq nJ := fun a b => inferInstance
instance (a b : nG) : Decidable (a = b) := decidable_of_iff _ Un.symm
def Jv (g : Hd) (ep : Nat) (t u : Hd) : Array Value := #[.slice g.A g.n g.c, .int .u64 (ep : Int), .slice t.A t.n t.c, .slice u.A u.n u.c]
def kA (g : Hd) (ep : Nat) (t u tg : Hd) (z : Int) (sg : Hd) : Array Value := #[.slice g.A g.n g.c, .int .u64 (ep : Int), .slice t.A t.n t.c, .slice u.A u.n u.c, .slice tg.A tg.n tg.c, .int .i64 z, .slice sg.A sg.n sg.c]
def eQ (a b c : Hd) : Array Value := #[.slice a.A a.n a.c, .slice b.A b.n b.c, .slice c.A c.n c.c]
def JS (B : Hd → List UInt8 → Prop) (cs : Array Value) (x : Ctx) : Prop := ∃ g t u, cs = Jv g x.ep t u ∧ x.ep < 18446744073709551616 ∧ B g x.grp ∧ B t x.tree ∧ B u x.trans
def mV (B : Hd → List UInt8 → Prop) (cs : Array Value) (x : fK) : Prop :=
 ∃ g t u tg sg, cs = kA g x.ctx.ep t u tg x.frm sg ∧ x.ctx.ep < 18446744073709551616 ∧ (-9223372036854775808 ≤ x.frm ∧ x.frm ≤ 9223372036854775807) ∧ B g x.ctx.grp ∧ B t x.ctx.tree ∧ B u x.ctx.trans ∧ B tg x.tag ∧ B sg x.sig
def JN (B : Hd → List UInt8 → Prop) (cs : Array Value) (x : nJ) : Prop := ∃ a b c, cs = eQ a b c ∧ B a x.ref ∧ B b x.enc ∧ B c x.box
def eP (w : aa9) (cs : Array Value) (x : fK) : Prop := mV (qP w) cs x
def Ge (w : aa9) (cs : Array Value) (x : nJ) : Prop := JN (qP w) cs x
section
variable {B B' : Hd → List UInt8 → Prop}
theorem mV.imp {x : fK} (h : mV B cs x) (f : ∀ h xs, B h xs → B' h xs) : mV B' cs x := by obtain ⟨g, t, u, tg, sg, e, he, hz, a, b, c, d, k⟩ := h;exact ⟨g, t, u, tg, sg, e, he, hz, f _ _ a, f _ _ b, f _ _ c, f _ _ d, f _ _ k⟩
theorem JN.imp {x : nJ} (h : JN B cs x) (f : ∀ h xs, B h xs → B' h xs) : JN B' cs x := by obtain ⟨a, b, c, e, h1, h2, h3⟩ := h;exact ⟨a, b, c, e, f _ _ h1, f _ _ h2, f _ _ h3⟩
theorem JS.at {x : Ctx} (h : JS (qP w) cs x) : gU w cs x := by obtain ⟨g, t, u, e, he, a, b, c⟩ := h;exact ⟨g.A, t.A, u.A, g.n, g.c, t.n, t.c, u.n, u.c, e, a, b, c⟩
theorem mV.ctx {x : fK} (h : mV B cs x) : JS B ((cs.toList.drop 0).take 4).toArray x.ctx := by obtain ⟨g, t, u, tg, sg, rfl, he, hz, a, b, c, d, k⟩ := h;exact ⟨g, t, u, rfl, he, a, b, c⟩
theorem eP.ext {x : fK} (h : eP w cs x) (e : Ext w w') : eP w' cs x := mV.imp h fun _ _ b => Bs.ext b e
theorem Ge.ext {x : nJ} (h : Ge w cs x) (e : Ext w w') : Ge w' cs x := JN.imp h fun _ _ b => Bs.ext b e
end
def dk (i : fK) : Prop := i.ctx.grp.length ≤ 64 ∧ i.ctx.tree.length = 32 ∧ i.ctx.trans.length = 32 ∧ i.tag.length = 32 ∧ (0 ≤ i.frm ∧ i.frm ≤ 65535) ∧ i.sig.length = 64
instance (i : fK) : Decidable (dk i) := by unfold dk; infer_instance
def lT (j y : Lb) : Prop := j.length = 32 ∧ (y.length = 0 ∨ y.length = 32)
instance (j y : Lb) : Decidable (lT j y) := by unfold lT; infer_instance
def nJ.Small (g : nJ) : Prop := g.ref.length ≤ 100 ∧ g.enc.length ≤ 100 ∧ g.box.length ≤ 200
instance (g : nJ) : Decidable g.Small := by unfold nJ.Small; infer_instance
def nG.Small (x : nG) : Prop := x.guests.length < 70 ∧ (∀ g ∈ x.guests, g.Small) ∧ x.info.length ≤ 500
instance (x : nG) : Decidable x.Small := by unfold nG.Small; infer_instance
/-! Their bytes. -/
def jX (i : fK) : List UInt8 := cy i.ctx ++ [0] ++ vec i.tag ++ be 4 (PN i.frm)
def mb (i : fK) : List UInt8 := jX i ++ vec i.sig
def mc (j y : Lb) : List UInt8 := if y.length = 0 then vec j ++ [0] else vec j ++ [1] ++ vec y
namespace M20
/-! How they are read. -/
def nI (s : St) : fK × St :=
 let c := DM s
 let t := iE (jA 1 0 c.2)
 let f := iR 4 t.2
 let g := iE f.2
 (⟨c.1, t.1, (f.1 : Int), g.1⟩, g.2)
def kE (s : St) : (List UInt8 × Bool × List UInt8) × St :=
 let j := iE s
 let h := kB j.2
 let y := if h.1 then iE h.2 else ([], h.2)
 ((j.1, h.1, y.1), y.2)
def fx {α : Type} (z : α) (p : α × St) (ok : Bool) : α × Nat := if jv p.2 ≠ 0 then (z, jv p.2) else if ok then (p.1, 0) else (z, 3)
def eO (b : Lb) : fK × Nat := fx fK.zero (nI (.ok b)) (decide (dk (nI (.ok b)).1))
def lC (p : List UInt8 × Bool × List UInt8) : Prop := lT p.1 p.2.2 ∧ (p.2.1 = true ↔ 0 < p.2.2.length)
instance (p : List UInt8 × Bool × List UInt8) : Decidable (lC p) := by unfold lC; infer_instance
def fY (b : Lb) : (List UInt8 × Bool × List UInt8) × Nat := fx ([], false, []) (kE (.ok b)) (decide (lC (kE (.ok b)).1))
theorem yw {α : Type} {z : α} {p : α × St} {ok : Bool} (h : (fx z p ok).2 ≠ 0) : (fx z p ok).1 = z := by unfold fx at h ⊢;grind
theorem pP {α : Type} {z x : α} {ok : Bool} (h : ok = true) : fx z (x, .ok []) ok = (x, 0) := by subst h; rfl
end M20
end
section
open Wire Nd M20
structure Ud (M : Nat) (V : List Nat) (w w' : aa9) : Prop where
 os : w'.os = w.os
 tape : w'.tape = w.tape
 output : w'.output = w.output
 size : w.heap.size ≤ w'.heap.size
 block : ∀ k, k < M → k ∉ V → w'.heap[k]? = w.heap[k]?
section
variable {Φ : aa9 → Prop}
theorem aI.SX (h : aI S w w') (hM : M ≤ w.heap.size) (hS : ∀ k ∈ S, k < M → k ∈ V := by first | (simp; done) | (simp; omega)) : Ud M V w w' := ⟨h.os, h.tape, h.output, h.size, fun k hk hn => h.block k Om fun hm => hn (hS k hm hk)⟩
theorem _root_.Go.RowKit.Below.SX (h : Ext w w') (hM : M ≤ w.heap.size) : Ud M V w w' := (aI.of h []).SX hM (by simp)
theorem aI.T5 (h : aI S w w') (l : Ud M V w' w'') (hM : w.heap.size ≤ M) (hV : ∀ k ∈ V, k ∈ S) : aI S w w'' :=
 ⟨l.os.trans h.os, l.tape.trans h.tape, l.output.trans h.output, Nat.le_trans h.size l.size, fun k hk hn => (l.block k Om fun hm => hn (hV k hm)).trans (h.block k hk hn)⟩
end
def U9 (gr e : Nat) : Array Value := #[.pointer (cf gr), .int .u8 (e : Int)]
theorem Qc (gr e e' : Nat) {z : Int} (hz : z = (e' : Int)) : (U9 gr e).setIfInBounds 1 (.int .u8 z) = U9 gr e' := by subst hz; rfl
def sc (N : Nat) (S : List Nat) (w : aa9) (gi gr : Nat) (s : St) (e : Nat) : Prop := aq w gi 214 (U9 gr e) ∧ gi ∈ S ∧ gi ≠ gr ∧ Rs N S w gr s
def In (N : Nat) (S : List Nat) (w : aa9) (gi gr : Nat) : St → Prop
 | .ok xs => sc N S w gi gr (.ok xs) 0
 | .error c => c ≠ 0 ∧ c < 256 ∧ ∃ s, sc N S w gi gr s c
section
variable {e : Nat} {s : St}
theorem sc.ext (h : sc N S w gi gr s e) (E : Ext w w') : sc N S w' gi gr s e := ⟨h.1.ext E, h.2.1, h.2.2.1, h.2.2.2.ext E⟩
theorem sc.grow (h : sc N S w gi gr s e) (E : Ext w w') (hk : w.heap.size ≤ k) : sc N (k :: S) w' gi gr s e := ⟨h.1.ext E, List.mem_cons_of_mem _ h.2.1, h.2.2.1, h.2.2.2.grow E hk⟩
theorem sc.bD (h : sc N S w gi gr s e) (C : aI S' w w') (hs : ∀ k ∈ S', k ∈ S := by first | (simp; done) | (simp; assumption)) (hg : gi ∉ S' := by first | (simp; done) | (simp; omega)) (hr : gr ∉ S' := by first | (simp; done) | (simp; omega)) : sc N S w' gi gr s e := ⟨h.1.bD C hg, h.2.1, h.2.2.1, h.2.2.2.bD C hs hr⟩
theorem sc.mono (h : sc N S w gi gr s e) (hs : ∀ k ∈ S', k ∈ S) (hg : gi ∈ S') (hr : gr ∈ S') : sc N S' w gi gr s e := ⟨h.1, hg, h.2.2.1, h.2.2.2.mono hs hr⟩
theorem In.cases (h : In N S w gi gr s) : ∃ t, sc N S w gi gr t (bX s) ∧ bX s < 256 ∧ ((∃ xs, s = .ok xs ∧ t = s) ∨ (bX s ≠ 0 ∧ s = .error (bX s))) := by
 cases s with
 | ok xs => exact ⟨_, h, by show 0 < 256; omega, .inl ⟨xs, rfl, rfl⟩⟩
 | error c => obtain ⟨h1, h2, t, h⟩ := h; exact ⟨t, h, h2, .inr ⟨h1, rfl⟩⟩
theorem In.fA (h : In N S w gi gr s) : aq w gi 214 (U9 gr (bX s)) := by obtain ⟨t, h, _⟩ := h.cases; exact h.1
theorem In.ne (h : In N S w gi gr s) : gi ≠ gr := by obtain ⟨t, h, _⟩ := h.cases; exact h.2.2.1
theorem In.VO (h : In N S w gi gr s) : gi < w.heap.size := h.fA.lt
theorem In.Vq (h : In N S w gi gr s) : gr < w.heap.size := by obtain ⟨t, h, _⟩ := h.cases; exact h.2.2.2.lt
theorem In.Qh (h : In N S w gi gr s) : gi ∈ S := by obtain ⟨t, h, _⟩ := h.cases; exact h.2.1
theorem In.Xa (h : In N S w gi gr s) : gr ∈ S := by obtain ⟨t, h, _⟩ := h.cases; exact h.2.2.2.mem
theorem In.ext (h : In N S w gi gr s) (E : Ext w w') : In N S w' gi gr s := by
 cases s with
 | ok xs => exact sc.ext h E
 | error c => obtain ⟨h1, h2, t, h⟩ := h; exact ⟨h1, h2, t, h.ext E⟩
theorem In.grow (h : In N S w gi gr s) (E : Ext w w') (hk : w.heap.size ≤ k) : In N (k :: S) w' gi gr s := by
 cases s with
 | ok xs => exact sc.grow h E hk
 | error c => obtain ⟨h1, h2, t, h⟩ := h; exact ⟨h1, h2, t, h.grow E hk⟩
theorem In.bD (h : In N S w gi gr s) (C : aI S' w w') (hs : ∀ k ∈ S', k ∈ S := by first | (simp; done) | (simp; assumption)) (hg : gi ∉ S' := by first | (simp; done) | (simp; omega)) (hr : gr ∉ S' := by first | (simp; done) | (simp; omega)) : In N S w' gi gr s := by
 cases s with
 | ok xs => exact sc.bD h C hs hg hr
 | error c => obtain ⟨h1, h2, t, h⟩ := h; exact ⟨h1, h2, t, h.bD C hs hg hr⟩
theorem In.mono (h : In N S w gi gr s) (hs : ∀ k ∈ S', k ∈ S) (hg : gi ∈ S') (hr : gr ∈ S') : In N S' w gi gr s := by
 cases s with
 | ok xs => exact sc.mono h hs hg hr
 | error c => obtain ⟨h1, h2, t, h⟩ := h; exact ⟨h1, h2, t, h.mono hs hg hr⟩
end
/-! Wire's flag. -/
theorem Ot {s : St} {xs : Lb} (h : s = .ok xs ∨ (bX s ≠ 0 ∧ s = .error (bX s))) (he : bX s < 256) (hn : (tk xs (bX s) 1).2.1 = false) :
  ∃ c, kB s = (false, .error c) ∧ (tk xs (bX s) 1).2.2.2 = c ∧ c ≠ 0 ∧ c < 256 := by
 rcases h with rfl | ⟨h0, h1⟩
 ·have e : tk xs (bX (.ok xs)) 1 = tk xs 0 1 := rfl;rw [e, uH xs 1 (z := 1) rfl] at hn ⊢
  cases xs with
  | nil => exact ⟨4, rfl, rfl, Om, Om⟩
  | cons b r => rw [if_neg (by simp)] at hn; cases hn
 generalize bX s = c at *
 subst h1;exact ⟨c, rfl, by unfold tk; rw [if_pos h0], h0, he⟩
theorem uh (b : UInt8) (r : Lb) : kB (.ok (b :: r)) = if 1 < b.toNat then (false, .error 3) else (decide (b.toNat = 1), .ok r) := by unfold kB; rw [qR]
theorem Hs {s : St} (w : aa9) (H0 : Rs N S w g s) :
  Ct 171 #[.pointer (cf g)] w fun e w' => e = .returned (.bool (kB s).1) ∧ Rs N S w' g (kB s).2 ∧ aI [g] w w' := by
 obtain ⟨xs, H, he, hs⟩ := H0.rd;have F := aI.refl [g] w;refine ai 22 func171 ?_;intro _ aa4;refine aU ?_;refine aB func223 rfl (kH 1 _ he H) ?_;rintro e w1 ⟨A1, n1, _, rfl, _, K1, H1, ex⟩;replace F := F.bD ex;refine aU ?_;refine bw rfl (fun YU => ?_) (fun YU => ?_)
 ·refine aU ?_;refine aa4 rfl ?_;obtain ⟨c, e1, e2, h0, h9⟩ := Ot hs he (by simpa using YU);rw [e2] at H1;rw [e1];exact ⟨rfl, ⟨h0, h9, _, H1⟩, F⟩
 obtain ⟨b, r, rfl, ht⟩ := Ey hs (by simpa using YU);rw [ht] at K1 H1;replace K1 : Kp N S (fun w => Bs w A1 n1 [b]) w1 := K1;replace H1 : Rd N S w1 g r 0 := H1;have YW : n1 = 1 := K1.out.1.symm;subst YW;obtain ⟨b1, o1, rfl, _, aa7⟩ := K1.out.get (k := 0) Om;refine au 6 ?_;refine ak (aC rfl rfl Tn.u Kr (j := 0) rfl Om) ?_;refine ak (ah rfl Tn.u rfl aa7) ?_;refine aa1 (fun YV => ?_) (fun YV => ?_)
 ·refine aU ?_;refine aB func224 rfl (kv 3 3 rfl _ H1) ?_;rintro e _ ⟨rfl, H2, ex⟩;replace F := F.bD ex;refine aU ?_;refine aa4 rfl ?_;rw [uh, if_pos (by have h : (1 : Int) < ((b.toNat : Nat) : Int) := YV; omega)];exact ⟨rfl, ⟨Om, Om, _, H2⟩, F⟩
 refine au 5 ?_;refine ak (aC rfl rfl Tn.u Kr (j := 0) rfl Om) ?_;refine ak (ah rfl Tn.u rfl aa7) ?_;refine aU ?_;refine aa4 rfl ?_;have hb : ¬ 1 < b.toNat := by have h : ¬ (1 : Int) < ((b.toNat : Nat) : Int) := YV; omega
 rw [uh, if_neg hb];exact ⟨by show _ = Ending.returned (.bool (decide (b.toNat = 1))); congr 2; exact decide_eq_decide.2 So, H1, F⟩
/-! Notes. -/
def Gq (z : Nat) : St → St
 | .ok xs => if z = 0 then .ok xs else .error z
 | .error c => .error c
section
variable {e : Nat} {s : St}
theorem AZ (z : Nat) (zi : Int) (hz : zi = (z : Int)) (w : aa9) (H : sc N S w gi gr s e) :
  Ct 169 #[.pointer (cf gi), .int .u8 zi] w fun r w' => r = .returned (.tuple #[]) ∧ sc N S w' gi gr s (if e = 0 then z else e) ∧ aI [gi] w w' := by
 have H0 := H;obtain ⟨B, hm, hne, R⟩ := H;refine eX 13 func169 ?_;intro _ aa4;refine aa1 (fun YU => ?_) (fun YU => ?_)
 ·refine au 5 ?_;refine af (az rfl rfl rfl Kr B (by show 1 < 2; omega)) rfl ?_;rintro _ _ ⟨rfl, D, cg⟩;have ex := aI.one cg;rw [Qc gr e z hz] at D;refine aU ?_;refine aa4 (.inr rfl) ?_;rw [if_pos Om];exact ⟨rfl, ⟨D, hm, hne, R.bD ex (by simpa using hm)⟩, ex⟩
 refine aU ?_;refine aa4 (.inr rfl) ?_;rw [if_neg Om];exact ⟨rfl, H0, aI.refl _ _⟩
theorem sc.code (h : sc N S w gi gr s (bX s)) : In N S w gi gr s := by
 cases s with
 | ok xs => exact h
 | error c => exact ⟨h.2.2.2.1, h.2.2.2.2.1, _, h⟩
theorem nC (z : Nat) (zi : Int) (hz : zi = (z : Int)) (w : aa9) (H : sc N S w gi gr s 0) :
  Ct 169 #[.pointer (cf gi), .int .u8 zi] w fun r w' => r = .returned (.tuple #[]) ∧ sc N S w' gi gr s z ∧ aI [gi] w w' :=
 (AZ z zi hz w H).mono fun _ _ h => by rw [if_pos rfl] at h; exact h
theorem FJ (z : Nat) (zi : Int) (hz : zi = (z : Int)) (h8 : z < 256) (w : aa9) (H : In N S w gi gr s) :
    Ct 169 #[.pointer (cf gi), .int .u8 zi] w fun r w' => r = .returned (.tuple #[]) ∧ In N S w' gi gr (Gq z s) ∧ aI [gi] w w' := by
  cases s with
  | ok xs =>
    refine (nC z zi hz w H).mono fun _ _ ⟨h1, h2, h3⟩ => ⟨h1, ?_, h3⟩
    show In N S _ gi gr (if z = 0 then .ok xs else .error z)
    by_cases h : z = 0
    · rw [if_pos h]; subst h; exact h2
    rw [if_neg h]; exact ⟨h, h8, _, h2⟩
  | error c =>
    obtain ⟨k1, k2, t, H⟩ := H
    refine (AZ z zi hz w H).mono fun _ _ ⟨h1, h2, h3⟩ => ⟨h1, ?_, h3⟩
    rw [if_neg k1] at h2
    exact ⟨k1, k2, t, h2⟩
theorem In.Sy (h : In N S w gi gr s) (e : bX s = 0) : ∃ xs, s = .ok xs := by
 cases s with
 | ok xs => exact ⟨xs, rfl⟩
 | error c => exact absurd e h.1
theorem In.JV (h : In N S w gi gr s) (e : bX s ≠ 0) : ∃ c, s = .error c := by
 cases s with
 | ok xs => exact absurd rfl e
 | error c => exact ⟨c, rfl⟩
theorem ud (k : Nat) (z : Int) (hz : z = (k : Int)) (w : aa9) (hk : k = 1 ∨ k = 2 ∨ k = 4 ∨ k = 8) (H : In N S w gi gr s) :
  Ct 109 #[.pointer (cf gi), .int .i64 z] w fun e w' => e = .returned (.int .u64 (((iR k s).1 : Nat) : Int)) ∧ In N S w' gi gr (iR k s).2 ∧ aI [gr, gi] w w' := by
 have F := aI.refl [gr, gi] w;have hne := H.ne;have hmi := H.Qh;refine ai 25 func109 ?_;intro _ aa4;refine au 11 ?_;refine ak (ah rfl Tn.u rfl (H.fA.get (i := 1) rfl)) ?_;refine aa1 (fun YU => ?_) (fun YU => ?_)
 ·refine aU ?_;refine aa4 rfl ?_;obtain ⟨c, rfl⟩ := H.JV Om;exact ⟨rfl, H, F⟩
 obtain ⟨xs, rfl⟩ := H.Sy Om;have B := H.1;refine aU ?_;refine aB func182 rfl (KP k z hz _ hk H.2.2.2) ?_;rintro e _ ⟨rfl, R1, ex⟩;obtain ⟨F,B⟩ := jT ex F B;refine aU ?_;refine aB func170 rfl (pt _ R1) ?_;rintro e _ ⟨rfl, ex⟩;obtain ⟨F,B,R1⟩ := bh ex F B R1;refine aU ?_;refine aB func169 rfl (nC _ _ rfl _ ⟨B, hmi, hne, R1⟩) ?_;rintro e _ ⟨rfl, I3, ex⟩;replace F := F.bD ex;refine aU ?_;exact aa4 rfl ⟨rfl, I3.code, F⟩
theorem jx (w : aa9) (H : In N S w gi gr s) :
  Ct 93 #[.pointer (cf gi)] w fun e w' => ∃ A n c, e = .returned (.slice A n c) ∧ n ≤ c ∧ Fb w.heap.size w' A n (iE s).1 ∧ In N S w' gi gr (iE s).2 ∧ aI [gr, gi] w w' := by
 have F := aI.refl [gr, gi] w;have hne := H.ne;have hmi := H.Qh;have hli := H.VO;have hlr := H.Vq;refine ai 22 func93 ?_;intro _ aa4;refine au 11 ?_;refine ak (ah rfl Tn.u rfl (H.fA.get (i := 1) rfl)) ?_;refine aa1 (fun YV => ?_) (fun YV => ?_)
 ·refine aU ?_;refine aa4 rfl ?_;obtain ⟨c, rfl⟩ := H.JV Om;exact ⟨none, 0, 0, rfl, Nat.le_refl _, Fb.nil _ _ _, H, F⟩
 obtain ⟨xs, rfl⟩ := H.Sy Om;have B := H.1;refine aU ?_;refine aB func168 rfl (Mj _ H.2.2.2) ?_;rintro e _ ⟨A1, n1, c1, rfl, YU, V1, R1, ex⟩;replace F := F.bD ex;replace B := B.bD ex; have J1 := V1.kk (S := [gr, gi]) So;refine aU ?_;refine aB func170 rfl (pt _ R1) ?_;rintro e _ ⟨rfl, ex⟩;obtain ⟨F,B,R1,J1⟩ := bG ex F B R1 J1;refine aU ?_;refine aB func169 rfl (nC _ _ rfl _ ⟨B, hmi, hne, R1⟩) ?_;rintro e _ ⟨rfl, I3, ex⟩;obtain ⟨F,J1⟩ := jT ex F J1;refine aU ?_;exact aa4 rfl ⟨A1, n1, c1, rfl, YU, J1.out, I3.code, F⟩
theorem Jt (w : aa9) (H : In N S w gi gr s) :
  Ct 94 #[.pointer (cf gi)] w fun e w' => e = .returned (.bool (kB s).1) ∧ In N S w' gi gr (kB s).2 ∧ aI [gr, gi] w w' := by
 have F := aI.refl [gr, gi] w;have hne := H.ne;have hmi := H.Qh;refine ai 22 func94 ?_;intro _ aa4;refine au 11 ?_;refine ak (ah rfl Tn.u rfl (H.fA.get (i := 1) rfl)) ?_;refine aa1 (fun YU => ?_) (fun YU => ?_)
 ·refine aU ?_;refine aa4 rfl ?_;obtain ⟨c, rfl⟩ := H.JV Om;exact ⟨rfl, H, F⟩
 obtain ⟨xs, rfl⟩ := H.Sy Om;have B := H.1;refine aU ?_;refine aB func171 rfl (Hs _ H.2.2.2) ?_;rintro e _ ⟨rfl, R1, ex⟩;obtain ⟨F,B⟩ := jT ex F B;refine aU ?_;refine aB func170 rfl (pt _ R1) ?_;rintro e _ ⟨rfl, ex⟩;obtain ⟨F,B,R1⟩ := bh ex F B R1;refine aU ?_;refine aB func169 rfl (nC _ _ rfl _ ⟨B, hmi, hne, R1⟩) ?_;rintro e _ ⟨rfl, I3, ex⟩;replace F := F.bD ex;refine aU ?_;exact aa4 rfl ⟨rfl, I3.code, F⟩
theorem PI (h : (iR k s).1 ≠ n) : jA k n s = Gq 3 (iR k s).2 := by
 unfold jA
 cases (iR k s).2 with
 | ok r => exact if_neg h
 | error c => rfl
theorem PZ (h : (iR k s).1 = n) : jA k n s = (iR k s).2 := by
 unfold jA
 cases (iR k s).2 with
 | ok r => exact if_pos h
 | error c => rfl
theorem mZ (k n : Nat) (z u : Int) (hz : z = (k : Int)) (hu : u = (n : Int)) (w : aa9) (hk : k = 1 ∨ k = 2 ∨ k = 4 ∨ k = 8) (H : In N S w gi gr s) :
  Ct 108 #[.pointer (cf gi), .int .i64 z, .int .u64 u] w fun e w' => e = .returned (.tuple #[]) ∧ In N S w' gi gr (jA k n s) ∧ aI [gr, gi] w w' := by
 have F := aI.refl [gr, gi] w;refine eX 13 func108 ?_;intro _ aa4;refine aU ?_;refine aB func109 rfl (ud k z hz _ hk H) ?_;rintro e _ ⟨rfl, H1, ex⟩;replace F := F.bD ex;refine aa1 (fun YU => ?_) (fun YU => ?_)
 ·refine aU ?_;refine aB func169 rfl (FJ 3 3 rfl Om _ H1) ?_;rintro e _ ⟨rfl, H2, ex⟩;replace F := F.bD ex;refine aU ?_;refine aa4 (.inr rfl) ?_;rw [PI Om];exact ⟨rfl, H2, F⟩
 refine aU ?_;refine aa4 (.inr rfl) ?_;rw [PZ Om];exact ⟨rfl, H1, F⟩
end
/-! What is in a vector, one behind the other. -/
end
section
open Wire Nd M20
/-! In memory from a block on. -/
def VU (base : Nat) (w : aa9) (cs : Array Value) (x : Ctx) : Prop := JS (fun h xs => Fb base w h.A h.n xs) cs x
def kL (base : Nat) (w : aa9) (cs : Array Value) (x : fK) : Prop := mV (fun h xs => Fb base w h.A h.n xs) cs x
theorem kL.mono {x : fK} (h : kL base w cs x) (hb : b ≤ base) : kL b w cs x := mV.imp h fun _ _ k => k.mono hb
theorem kL.at {x : fK} (h : kL base w cs x) : eP w cs x := mV.imp h fun _ _ k => k.1
theorem kL.kk {x : fK} (h : kL base w cs x) (hS : ∀ g ∈ S, g < base) : Kp w.heap.size S (fun w => kL base w cs x) w := ⟨Nat.le_refl _, fun w2 hw => mV.imp h fun _ _ k => (k.kk hS).2 w2 hw⟩
theorem W5 {P : Nat → Prop} {a : Nat} {L : List Nat} (ha : P a) (hb : P b) (hL : ∀ k ∈ L, P k) : ∀ k ∈ a :: b :: L, P k := fun k hk => by
 simp only [List.mem_cons] at hk;rcases hk with rfl | rfl | hk
 ·exact ha
 ·exact hb
 exact hL k hk
end
section
open Wire Nd M20
section
variable {s : St}
theorem Nh (w : aa9) (H0 : In N S w gi gr s) :
  Ct 107 #[.pointer (cf gi)] w fun e w' => ∃ cs, e = .returned (.agg cs) ∧ VU w.heap.size w' cs (DM s).1 ∧ In N S w' gi gr (DM s).2 ∧ aI [gr, gi] w w' := by
 have F := aI.refl [gr, gi] w;have hmi := H0.Qh;have hmr := H0.Xa;have hli := H0.VO;have hlr := H0.Vq;have H := H0
 obtain ⟨g, hg⟩ : ∃ g, g = iE (jA 2 1 (jA 2 1 s)) := ⟨_, rfl⟩
 obtain ⟨e, he⟩ : ∃ e, e = iR 8 g.2 := ⟨_, rfl⟩
 have hX : DM s = (⟨g.1, e.1, (iE e.2).1, (iE (iE e.2).2).1⟩, jA 1 0 (iE (iE e.2).2).2) := by rw [he, hg]; rfl
 have YY : e.1 < 18446744073709551616 := by rw [he]; exact Fm 8 _
 refine aH (s := 4) 20 func107 rfl rfl rfl underlying40 rfl Kr rfl ?_;intro _ aa4;refine aU ?_;intro _ YW B2 YV ex;replace F := F.grow ex YV;replace H := H.grow ex YV;refine aU ?_;refine aB func108 rfl (mZ 2 1 2 1 rfl rfl _ Om H) ?_;rintro e _ ⟨rfl, H1, ex⟩;obtain ⟨F,B2⟩ := jT ex F B2;refine aU ?_;refine aB func108 rfl (mZ 2 1 2 1 rfl rfl _ Om H1) ?_;rintro e _ ⟨rfl, H2, ex⟩;obtain ⟨F,B2⟩ := jT ex F B2;refine aU ?_;have q2 := B2.lt; have q4 := F.size;refine aB func93 rfl (jx _ H2) ?_;rintro e _ ⟨A1, n1, c1, rfl, _, V1, H3, ex⟩;obtain ⟨F,B2⟩ := jT ex F B2;rw [← hg] at H3 V1;have J1 := V1.kk (S := [YW, gr, gi]) So;refine aU ?_;refine aB func109 rfl (ud 8 8 rfl _ Om H3) ?_;rintro e _ ⟨rfl, H4, ex⟩;refine au 1 ?_;rw [← he] at H4 ⊢;obtain ⟨F,B2,J1⟩ := DC ex F B2 J1;refine aU ?_;have r2 := B2.lt; have r4 := F.size;refine aB func93 rfl (jx _ H4) ?_;rintro e _ ⟨A2, n2, c2, rfl, _, V2, H5, ex⟩;obtain ⟨F,B2,J1⟩ := DC ex F B2 J1;have J2 := V2.kk (S := [YW, gr, gi]) So;refine aU ?_;have u2 := B2.lt; have u4 := F.size;refine aB func93 rfl (jx _ H5) ?_;rintro e _ ⟨A3, n3, c3, rfl, _, V3, H6, ex⟩;refine au 1 ?_;obtain ⟨F,B2,J1,J2⟩ := j6 ex F B2 J1 J2;have J3 := V3.kk (S := [YW, gr, gi]) So;refine ak (aA rfl (cells := Jv ⟨A1, n1, c1⟩ e.1 ⟨A2, n2, c2⟩ ⟨A3, n3, c3⟩) Kr) ?_;refine aU ?_;intro _ YZ B3 YU ex;have YX : YW < YZ := Nat.lt_of_lt_of_le B2.lt YU;replace F := F.grow ex YU;replace B2 := B2.grow ex YU;replace J1 := J1.grow ex YU;replace J2 := J2.grow ex YU;replace H6 := H6.grow ex YU;replace J3 := J3.grow ex YU;refine aU ?_;intro _ D cg;have ex := aI.one cg;clear cg;obtain ⟨F,B2,J1,J2,H6,J3⟩ := mg ex F B2 J1 J2 H6 J3;replace B3 := D; clear D;replace B3 := B3.congr (cs' := Jv ⟨A1, n1, c1⟩ e.1 ⟨A2, n2, c2⟩ ⟨A3, n3, c3⟩) rfl;refine aU ?_;refine aB func108 rfl (mZ 1 0 1 0 rfl rfl _ Om H6) ?_;rintro e _ ⟨rfl, H7, ex⟩;obtain ⟨F,B2,J1,J2,J3,B3⟩ := mg ex F B2 J1 J2 J3 B3;refine aU ?_;intro _ D cg;have ex := aI.one cg;clear cg;obtain ⟨F,J1,J2,J3,H7⟩ := vf ex F J1 J2 J3 H7;replace B2 := D; clear D;replace B2 := B2.congr (cs' := Jv ⟨A1, n1, c1⟩ e.1 ⟨A2, n2, c2⟩ ⟨A3, n3, c3⟩) rfl;refine aU ?_;refine aa4 rfl B2 rfl ?_;rw [hX]; exact ⟨_, rfl, ⟨_, _, _, rfl, YY, J1.out.mono Om, J2.out.mono Om, J3.out.mono Om⟩, H7.mono (fun k hk => by simp [hk]) hmi hmr, (F.drop Om).drop Om⟩
end
theorem Pg {t : St} (h : Rs N S w g t) : jv t < 256 := by
  cases t with
  | error c => exact h.2.1
  | ok xs =>
    cases xs with
    | nil => show 0 < 256; omega
    | cons x xs => show 5 < 256; omega
theorem LO {t t' : St} (h : (∃ xs, t = .ok xs ∧ t' = t) ∨ (bX t ≠ 0 ∧ t = .error (bX t))) : bX (Gq (jv t') t) = jv t := by
 rcases h with ⟨xs, rfl, rfl⟩ | ⟨h0, h1⟩
 ·cases xs with
  | nil => rfl
  | cons x xs => rfl
 generalize bX t = c at *
 subst h1; rfl
theorem zn {c : Nat} {b : Lb} {t : St} {okv : Bool} {YY YZ : Code} {Ψ : Nat → aa9 → Prop} (w : aa9) (K : Kp N V (fun w => Bs w A n b) w) (hc : n ≤ c) (hn : n ≤ 1048576) (hV : ∀ k ∈ V, k < w.heap.size)
  (Y0 : Tryz.prog.funcs[ft]? = some YU) (Y2 : YU.body = some YY) (Y3 : (YU.name == "runtime.NumGoroutine") = false) (Za : Tryz.prog.funcs[fo]? = some YV) (Zb : YV.body = some YZ) (Zc : (YV.name == "runtime.NumGoroutine") = false)
  (hT : ∀ (w1 : aa9) (gi gr : Nat), Ext w w1 → w.heap.size ≤ gi → w.heap.size ≤ gr → In N (gi :: gr :: V) w1 gi gr (.ok b) → (∀ k ∈ gi :: gr :: V, k < w1.heap.size) →
   Ct ft (.pointer (cf gi) :: us).toArray w1 fun e w2 => e = .returned (.tuple #[]) ∧ In N (gi :: gr :: V) w2 gi gr t ∧ Ψ gi w2 ∧ Ud w.heap.size V w1 w2)
  (hΨ : ∀ gi w1 w2, w.heap.size ≤ gi → Ψ gi w1 → aI [gi] w1 w2 → Ψ gi w2)
  (hO : ∀ gi w1, Ψ gi w1 → jv t = 0 → Ct fo vs.toArray w1 fun e w2 => e = .returned (.bool okv) ∧ Ext w1 w2) :
  Ct 95 #[.slice A n c, .func (.func ft) #[] us.toArray, .func (.func fo) #[] vs.toArray] w fun e w' => e = .returned (.int .u8 (((if jv t ≠ 0 then jv t else if okv then 0 else 3 : Nat) : Nat) : Int)) ∧ (∃ gi, w.heap.size ≤ gi ∧ Ψ gi w') ∧ jv t < 256 ∧ aI V w w' := by
 have E := Ext.refl w;have hbl := K.out.1;refine ai 42 func95 ?_;intro _ aa4;refine aU ?_;refine aB func172 rfl (va A n c b _ hc K) ?_;rintro e w1 ⟨gr, rfl, _, R, ex⟩;replace E := E.ext ex;refine au 1 ?_;have hlr := R.lt;refine ak (aA rfl (cells := U9 gr 0) Kr) ?_;have R0 := R;refine aU ?_;intro w2 gi BI hgi ex;replace E := E.ext ex;replace R0 := R0.grow ex hgi;refine aU ?_
 have H : In N (gi :: gr :: V) w2 gi gr (.ok b) := ⟨BI, List.mem_cons_self, Om, R0⟩
 have z2 := BI.lt;have z3 := E.size;have z4 := H.Vq;refine af (kD (Φ := fun v w' => v = .tuple #[] ∧ In N (gi :: gr :: V) w' gi gr t ∧ Ψ gi w' ∧ Ud w.heap.size V w2 w') (xs := [.tmp 16]) (vs := [.pointer (cf gi)]) rfl Y0 Y2 Y3 rfl (hT w2 gi gr E Om Om H (W5 z2 z4 fun k hk => Nat.lt_of_lt_of_le (hV k hk) z3)) (fun _ _ ⟨h1, h2, h3, h4⟩ => ⟨_, h1, rfl, h2, h3, h4⟩)) rfl ?_;rintro _ _ ⟨rfl, H3, P3, L3⟩;have F := (aI.of E V).T5 L3 (Nat.le_refl _) (fun k hk => hk);refine au 8 ?_;refine ak (ah rfl Tn.u rfl (H3.fA.get (i := 0) rfl)) ?_;obtain ⟨t', I3, h8, hcs⟩ := H3.cases;have YX := Pg I3.2.2.2;have hne := LO hcs;have het : jv t < 256 := by rcases hcs with ⟨xs, rfl, rfl⟩ | ⟨h, e⟩; exact YX; rw [e]; exact h8
 refine aB func173 rfl (NJ _ I3.2.2.2) ?_;rintro e _ ⟨rfl, ex⟩;refine aU ?_;obtain ⟨F,H3⟩ := aS ex F H3;replace P3 := hΨ gi _ _ Om P3 (aI.of ex [gi]);refine aB func169 rfl (FJ (jv t') _ rfl YX _ H3) ?_;rintro e w5 ⟨rfl, H5, ex⟩;have z6 := F.size; replace P3 := hΨ gi _ _ Om P3 ex; replace F := F.T5 (aI.SX (M := w.heap.size) (V := []) ex Om) (Nat.le_refl _) (by simp);obtain ⟨q, hq⟩ : ∃ q, q = Gq (jv t') t := ⟨_, rfl⟩; rw [← hq] at H5 hne; have BQ := H5.fA;refine au 10 ?_;refine bL (ez rfl rfl) rfl (fun h0 => ?_) (fun h0 => ?_)
 ·refine aU ?_;refine LJ 30 rfl rfl (kD (Φ := fun v w' => v = .bool okv ∧ Ext w5 w') (xs := []) (vs := []) rfl Za Zb Zc rfl (hO gi _ P3 Om) (fun _ _ ⟨h1, h2⟩ => ⟨_, h1, rfl, h2⟩)) rfl ?_;rintro _ _ ⟨rfl, ex⟩;obtain ⟨F,BQ⟩ := aS ex F BQ;replace P3 := hΨ gi _ _ Om P3 (aI.of ex [gi]);refine aU ?_;refine bw rfl (fun YW => ?_) (fun YW => ?_)
  ·refine au 4 ?_;refine af (az rfl rfl rfl Kr BQ (by show 1 < 2; omega)) rfl ?_;rintro _ _ ⟨rfl, _, cg⟩;have ex := aI.one cg;have z7 := F.size; replace P3 := hΨ gi _ _ Om P3 ex; replace F := F.T5 (aI.SX (M := w.heap.size) (V := []) ex Om) (Nat.le_refl _) (by simp);refine aU ?_;refine aa4 rfl ?_;rw [if_neg Om, if_neg (by simpa using YW)];exact ⟨rfl, ⟨gi, Om, P3⟩, het, F⟩
  refine aU ?_;refine aa4 rfl ?_;rw [if_neg Om, if_pos (by simpa using YW), show bX q = 0 by omega];exact ⟨rfl, ⟨gi, Om, P3⟩, het, F⟩
 refine au 7 ?_;refine bm rfl rfl ?_;refine aU ?_;refine aa4 rfl ?_;rw [if_pos Om, hne];exact ⟨rfl, ⟨gi, Om, P3⟩, het, F⟩
end
open Wire Nd M20
theorem Dd {α : Type} (z : α) (p : α × St) (ok : Bool) : (fx z p ok).2 = if jv p.2 ≠ 0 then jv p.2 else if ok then 0 else 3 := by
 unfold fx;split
 ·rfl
 split <;> rfl
theorem Bk {α : Type} {z : α} {p : α × St} {ok : Bool} (h : (if jv p.2 ≠ 0 then jv p.2 else if ok then 0 else 3) ≠ 0) : fx z p ok = (z, if jv p.2 ≠ 0 then jv p.2 else if ok then 0 else 3) := by rw [← Dd z] at h ⊢;exact Prod.ext (yw h) rfl
theorem vW {α : Type} {z : α} {p : α × St} {ok : Bool} (h : ¬ (if jv p.2 ≠ 0 then jv p.2 else if ok then 0 else 3) ≠ 0) : fx z p ok = (p.1, 0) := by
 unfold fx;split at h
 ·rename_i h1; exact absurd h1 h
 rename_i h1;rw [if_neg h1];split at h
 ·rename_i h2; rw [if_pos h2]
 exact absurd (show (3 : Nat) ≠ 0 by decide) h
theorem zK (h : old.size = k) (hc : cs.size = k) : (old.toList.take 0 ++ cs.toList ++ old.toList.drop (0 + cs.size)).toArray = cs := by have e : old.toList.drop (0 + cs.size) = [] := List.drop_of_length_le So;rw [e]; simp
end Go.Proofs.YtgfafidlkldeaaaGreat
