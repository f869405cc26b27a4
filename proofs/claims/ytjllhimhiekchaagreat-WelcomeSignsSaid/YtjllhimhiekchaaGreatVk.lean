/- A region that draws its order, with blocks that every operation keeps. No conditions: plain lemmas of the model. -/
import Derived.Test.YtjllhimhiekchaaGreatMsC
import Derived.Test.YtjllhimhiekchaaGreatWireR
/- The text, the bytes and the name of packages: what msg and the reference hand back. -/
namespace Go.Proofs.YtjllhimhiekchaaGreat
open Go.RowKit
attribute [local irreducible] Y Ef WL WC WK WQ WM OpM WN WF OpN
open Nd Wire
def Told (w : World) (ok : Prop) (xs : List UInt8) (A : Option Addr) (k : Nat) (z : Nat) : Prop := (ok → z = 0 ∧ Bs w A k xs) ∧ (¬ ok → z = 3 ∧ k = 0)
theorem Told.ext {w w' : World} {ok : Prop} {xs : List UInt8} {A : Option Addr} {k z : Nat} (h : Told w ok xs A k z) (e : Ext w w') : Told w' ok xs A k z := ⟨fun o => ⟨(h.1 o).1, (h.1 o).2.ext e⟩, h.2⟩
def packN : ByteArray := ⟨#[77, 76, 83, 32, 49, 46, 48, 32, 75, 101, 121, 80, 97, 99, 107, 97, 103, 101, 32, 82, 101, 102, 101, 114, 101, 110, 99, 101]⟩
theorem packN_size : packN.size ≤ 1048576 := by decide
def packR (p : Pack) : List UInt8 := Sha.sum (vec packN.data.toList ++ vec (packB p))
section
variable {cs : Array Value} {l : Leaf} {p : Pack} {q : Prop20} {g : Nat} {t : TypeId}
theorem packTextF (w : World) (B : Blk w g t cs) (H : PackAt w cs p) (hf : p.Fit) (ok : okPack p) :
  Calls Tryz.prog 170 #[.pointer (some ⟨g, 0, none⟩)] w fun e w' => ∃ A k c, e = .returned (.slice A k c) ∧ (Bs w' A k (packT p) ∧ k ≤ c) ∧ Ext w w' := by
 have HP := H
 obtain ⟨i, h0, h1, h2, h4, h5, gg, rfl, hs, a, b0, b1, b2, b4, b5, c⟩ := H
 have E := Ext.refl w
 refine vc_enter1 4 Tryz.func170 rfl rfl rfl rfl ?_
 intro Q hret
 refine wc_seq ?_; intro K1 hK1
 refine wc_region ?_
 refine wl_y (y_assign rfl) rfl ?_
 refine wl_nil ?_
 refine wq_then_norm (hK1 ?_)
 refine wc_seq ?_; intro K2 hK2
 refine wc_region ?_
 refine wl_y (y_loadx (o := 0) (s := 8) rfl Tryz.underlying29 rfl (by kernel_rfl) B rfl) rfl ?_
 refine wl_call Tryz.func95 rfl rfl rfl (packText_any _ (HP.ext E) hf ok) rfl ?_
 rintro e w2 ⟨A2, k2, c2, rfl, R2, ex⟩
 refine ⟨_, rfl, ?_⟩
 replace E := E.ext ex
 skip
 refine wl_y (y_assign rfl) rfl ?_
 refine wl_nil ?_
 refine wq_then_norm (hK2 ?_)
 refine wc_ret ?_
 refine hret rfl ?_
 exact ⟨A2, k2, c2, rfl, ⟨R2.bs, R2.cap⟩, E⟩
theorem packNameF (w : World) (B : Blk w g t cs) (H : PackAt w cs p) (hs' : p.Small) (ok : okPack p) :
  Calls Tryz.prog 92 #[.pointer (some ⟨g, 0, none⟩)] w fun e w' => ∃ A k c, e = .returned (.slice A k c) ∧ Bs w' A k (packR p) ∧ Ext w w' := by
 have HP := H
 have hf := hs'.fit
 have hl := packT_sm hs'
 have h7 := hs'.2.1
 obtain ⟨i, h0, h1, h2, h4, h5, gg, rfl, hs, a, b0, b1, b2, b4, b5, c⟩ := H
 have lc := c.1
 have E := Ext.refl w
 refine vc_enter1 8 Tryz.func92 rfl rfl rfl rfl ?_
 intro Q hret
 refine wc_seq ?_; intro K1 hK1
 refine wc_region ?_
 refine wl_y (y_assign rfl) rfl ?_
 refine wl_nil ?_
 refine wq_then_norm (hK1 ?_)
 refine wc_seq ?_; intro K2 hK2
 refine wc_draw (by kernel_rfl) 7 rfl ?_; intro wd1 ex hd1
 replace E := E.ext ex
 replace B := B.ext ex
 refine wm_y 0 rfl (by kernel_rfl) (y_loadx (o := 0) (s := 8) rfl Tryz.underlying29 rfl (by kernel_rfl) B rfl) rfl ?_
 refine wm_y 2 rfl (by kernel_rfl) (y_fieldAddr (o := 7) (s := 1) (off := 0) (o' := 7) rfl Tryz.underlying29 rfl (by kernel_rfl) rfl rfl) rfl ?_
 refine wm_y 3 rfl (by kernel_rfl) (y_load1 rfl Tryz.underlying23 rfl (B.get (i := 7) rfl)) rfl ?_
 refine wm_one 1 (by kernel_rfl) ?_; refine om_call rfl Tryz.func95 rfl rfl rfl (packText_any _ (HP.ext E) hf ok) rfl ?_
 rintro e w2 ⟨A2, k2, c2, rfl, R2, ex⟩
 refine ⟨_, rfl, .inr ex, ?_⟩
 replace E := E.ext ex
 replace B := B.ext ex
 have hk2 := R2.bs.1
 refine wm_one 4 (by kernel_rfl) ?_; refine om_call rfl Tryz.func94 rfl rfl rfl (mvec_any A2 gg.A k2 c2 gg.n gg.c _ _ _ R2.bs (by omega) (Bs.ext c E) (by omega)) rfl ?_
 rintro e w3 ⟨A3, k3, c3, rfl, R3, hk3, ex⟩
 refine ⟨_, rfl, .inr ex, ?_⟩
 replace E := E.ext ex
 replace B := B.ext ex
 replace R2 := R2.ext ex
 have hl3 := lsz_le gg.n
 refine wm_one 5 (by kernel_rfl) ?_; refine om_call rfl Tryz.func93 rfl rfl rfl (ref_any A3 k3 c3 packN _ _ R3.bs packN_size (by omega)) rfl ?_
 rintro e w4 ⟨A4, c4, rfl, H4, ex⟩
 refine ⟨_, rfl, .inr ex, ?_⟩
 replace E := E.ext ex
 replace B := B.ext ex
 replace R3 := R3.ext ex
 skip
 refine wm_y 6 rfl (by kernel_rfl) (y_assign rfl) rfl ?_
 refine wm_done (by kernel_rfl) ?_
 refine wq_nop ?_
 refine wq_then_norm (hK2 ?_)
 refine wc_ret ?_
 refine hret rfl ?_
 exact ⟨A4, 32, c4, rfl, H4, E⟩
theorem PackageText_any (w : World) (H : PackAt w cs p) (hf : p.Fit) :
  Calls Tryz.prog 83 #[.agg cs] w fun e w' => ∃ A k c z, e = .returned (.tuple #[.slice A k c, .int .u8 ((z : Nat) : Int)]) ∧ Told w' (okPack p) (packT p) A k z ∧ k ≤ c ∧ Ext w w' := by
 have HP := H
 obtain ⟨i, h0, h1, h2, h4, h5, gg, rfl, hs, a, b0, b1, b2, b4, b5, c⟩ := H
 have E := Ext.refl w
 refine vc_enter2 10 Tryz.func83 rfl rfl rfl rfl ?_
 intro Q hret
 refine wc_seq ?_; intro K1 hK1
 refine wc_region ?_
 refine wl_ef (ef_box rfl rfl) rfl ?_
 rintro _ wB1 ⟨gB1, rfl, B1, hgB1, ex⟩
 have lB1 := B1.lt; have zB1 := ex.size
 replace E := E.ext ex
 refine wl_y (y_assign rfl) rfl ?_
 refine wl_y (y_assign rfl) rfl ?_
 refine wl_nil ?_
 refine wq_then_norm (hK1 ?_)
 refine wc_seq ?_; intro K2 hK2
 refine wc_region ?_
 refine wl_y (y_loadx (o := 0) (s := 8) rfl Tryz.underlying29 rfl (by kernel_rfl) B1 rfl) rfl ?_
 refine wl_call Tryz.func91 rfl rfl rfl (rightPack_any _ (HP.ext E) hf) rfl ?_
 rintro e w2 ⟨rfl, ex⟩
 refine ⟨_, rfl, ?_⟩
 replace E := E.ext ex
 replace B1 := B1.ext ex
 skip
 refine wl_y (y_func (xs := [.tmp 1]) (vs := [.pointer (some ⟨gB1, 0, none⟩)]) rfl) rfl ?_
 refine wl_call Tryz.func90 rfl rfl rfl (told_any (us := [.pointer (some ⟨gB1, 0, none⟩)]) (Ψ := fun w A k c => Bs w A k (packT p) ∧ k ≤ c) _ Tryz.func170 rfl rfl (fun hok w1 e1 => packTextF w1 (B1.ext e1) ((HP.ext E).ext e1) hf (of_decide_eq_true hok))) rfl ?_
 rintro e w3 ⟨A3, k3, c3, z3, rfl, T3, N3, ex⟩
 refine ⟨_, rfl, ?_⟩
 replace E := E.ext ex
 replace B1 := B1.ext ex
 skip
 refine wl_y (y_extract rfl rfl) rfl ?_
 refine wl_y (y_extract rfl rfl) rfl ?_
 refine wl_y (y_assign rfl) rfl ?_
 refine wl_y (y_assign rfl) rfl ?_
 refine wl_nil ?_
 refine wq_then_norm (hK2 ?_)
 refine wc_ret ?_
 refine hret rfl rfl ?_
 exact ⟨A3, k3, c3, z3, rfl, ⟨fun o => ⟨(T3 (decide_eq_true o)).1, (T3 (decide_eq_true o)).2.1⟩, fun o => ⟨(N3 (decide_eq_false o)).1, (N3 (decide_eq_false o)).2.2.1⟩⟩, (by by_cases o : okPack p; exact (T3 (decide_eq_true o)).2.2; have h := N3 (decide_eq_false o); omega), E⟩
theorem PackageName_any (w : World) (H : PackAt w cs p) (hs' : p.Small) :
  Calls Tryz.prog 40 #[.agg cs] w fun e w' => ∃ A k c z, e = .returned (.tuple #[.slice A k c, .int .u8 ((z : Nat) : Int)]) ∧ Told w' (okPack p) (packR p) A k z ∧ Ext w w' := by
 have HP := H
 have hf := hs'.fit
 obtain ⟨i, h0, h1, h2, h4, h5, gg, rfl, hs, a, b0, b1, b2, b4, b5, c⟩ := H
 have E := Ext.refl w
 refine vc_enter2 10 Tryz.func40 rfl rfl rfl rfl ?_
 intro Q hret
 refine wc_seq ?_; intro K1 hK1
 refine wc_region ?_
 refine wl_ef (ef_box rfl rfl) rfl ?_
 rintro _ wB1 ⟨gB1, rfl, B1, hgB1, ex⟩
 have lB1 := B1.lt; have zB1 := ex.size
 replace E := E.ext ex
 refine wl_y (y_assign rfl) rfl ?_
 refine wl_y (y_assign rfl) rfl ?_
 refine wl_nil ?_
 refine wq_then_norm (hK1 ?_)
 refine wc_seq ?_; intro K2 hK2
 refine wc_region ?_
 refine wl_y (y_loadx (o := 0) (s := 8) rfl Tryz.underlying29 rfl (by kernel_rfl) B1 rfl) rfl ?_
 refine wl_call Tryz.func91 rfl rfl rfl (rightPack_any _ (HP.ext E) hf) rfl ?_
 rintro e w2 ⟨rfl, ex⟩
 refine ⟨_, rfl, ?_⟩
 replace E := E.ext ex
 replace B1 := B1.ext ex
 skip
 refine wl_y (y_func (xs := [.tmp 1]) (vs := [.pointer (some ⟨gB1, 0, none⟩)]) rfl) rfl ?_
 refine wl_call Tryz.func90 rfl rfl rfl (told_any (us := [.pointer (some ⟨gB1, 0, none⟩)]) (Ψ := fun w A k c => Bs w A k (packR p)) _ Tryz.func92 rfl rfl (fun hok w1 e1 => packNameF w1 (B1.ext e1) ((HP.ext E).ext e1) hs' (of_decide_eq_true hok))) rfl ?_
 rintro e w3 ⟨A3, k3, c3, z3, rfl, T3, N3, ex⟩
 refine ⟨_, rfl, ?_⟩
 replace E := E.ext ex
 replace B1 := B1.ext ex
 skip
 refine wl_y (y_extract rfl rfl) rfl ?_
 refine wl_y (y_extract rfl rfl) rfl ?_
 refine wl_y (y_assign rfl) rfl ?_
 refine wl_y (y_assign rfl) rfl ?_
 refine wl_nil ?_
 refine wq_then_norm (hK2 ?_)
 refine wc_ret ?_
 refine hret rfl rfl ?_
 exact ⟨A3, k3, c3, z3, rfl, ⟨fun o => T3 (decide_eq_true o), fun o => ⟨(N3 (decide_eq_false o)).1, (N3 (decide_eq_false o)).2.2.1⟩⟩, E⟩
end
end Go.Proofs.YtjllhimhiekchaaGreat

/- The reference's bytes of proposals. -/
namespace Go.Proofs.YtjllhimhiekchaaGreat
open Go.RowKit
attribute [local irreducible] Y Ef WL WC WK WQ WM OpM WN WF OpN
open Nd Wire
def w64 (z : Int) : Nat := (z % 18446744073709551616).toNat
theorem w64_wrap (z : Int) : IntKind.u64.wrap z = ((w64 z : Nat) : Int) := by
 have h : IntKind.u64.wrap z = z % 18446744073709551616 := by simp [IntKind.wrap, IntKind.bits, IntKind.signed]
 rw [h]; unfold w64; omega
theorem w64_lt (z : Int) : w64 z < 18446744073709551616 := by unfold w64; omega
section
variable {cs : Array Value} {q : Prop20}
theorem four20_any (z : Int) (w : World) : Calls Tryz.prog 68 #[.int .i64 z] w fun e w' => ∃ A' c', e = .returned (.slice A' 4 c') ∧ Row w' w.heap.size 5 A' 4 c' ((be 4 (w64 z)).map bv) ∧ Ext w w' := by
 refine vc_enter1 6 Tryz.func68 rfl rfl rfl rfl ?_
 intro Q hret
 refine wc_seq ?_; intro K1 hK1
 refine wc_region ?_
 refine wl_y (y_assign rfl) rfl ?_
 refine wl_nil ?_
 refine wq_then_norm (hK1 ?_)
 refine wc_seq ?_; intro K2 hK2
 refine wc_region ?_
 refine wl_y (y_move rfl) rfl ?_
 refine wl_y (y_conv rfl Tryz.underlying3 Tryz.underlying38 (w64_wrap z)) rfl ?_
 refine wl_call Tryz.func59 rfl rfl rfl (refNum_any 4 (w64 z) _ (by omega) (w64_lt z)) rfl ?_
 rintro e w1 ⟨A1, c1, rfl, R1, ex⟩
 refine ⟨_, rfl, ?_⟩
 skip
 refine wl_y (y_assign rfl) rfl ?_
 refine wl_nil ?_
 refine wq_then_norm (hK2 ?_)
 refine wc_ret ?_
 refine hret rfl ?_
 exact ⟨A1, c1, rfl, R1, ex⟩
end
end Go.Proofs.YtjllhimhiekchaaGreat

/- Commits, plainly and in memory. No conditions: plain definitions and lemmas. -/
namespace Go.Proofs.YtjllhimhiekchaaGreat
open Go.RowKit
open Nd
structure Bxd where
 enc : List UInt8
 box : List UInt8
structure Stp where
 box : List UInt8
 to : List Bxd
structure Way20 where
 leaf : Leaf
 steps : List Stp
structure Item20 where
 ref : List UInt8
 prop : Prop20
structure Com20 where
 items : List Item20
 has : Bool
 way : Way20
def twoV (h0 h1 : Hd) : Array Value := #[.slice h0.A h0.n h0.c, .slice h1.A h1.n h1.c]
section
variable {w w' : World} {cs : Array Value}
end
/-! Which may be, and which are no more than is looked at. -/
def Bxd.Small (b : Bxd) : Prop := b.enc.length ≤ 100 ∧ b.box.length ≤ 100
instance (b : Bxd) : Decidable b.Small := by unfold Bxd.Small; infer_instance
def Stp.Small (s : Stp) : Prop := s.box.length ≤ 100 ∧ s.to.length ≤ 20 ∧ ∀ b ∈ s.to, b.Small
instance (s : Stp) : Decidable s.Small := by unfold Stp.Small; infer_instance
def Item20.Small (x : Item20) : Prop := x.ref.length ≤ 100 ∧ x.prop.Small
instance (x : Item20) : Decidable x.Small := by unfold Item20.Small; infer_instance
def Com20.Small (c : Com20) : Prop := c.items.length ≤ 70 ∧ c.way.steps.length ≤ 20 ∧ (⟨0, c.way.leaf, Par.zero⟩ : Node).Small ∧ (∀ x ∈ c.items, x.Small) ∧ ∀ s ∈ c.way.steps, s.Small
instance (c : Com20) : Decidable c.Small := by unfold Com20.Small; infer_instance
end Go.Proofs.YtjllhimhiekchaaGreat

namespace Go.Proofs.YtjllhimhiekchaaGreat
open Go.RowKit
def Kept (G : List Nat) (w w' : World) : Prop := ∀ b ∈ G, w'.heap[b]? = w.heap[b]?
theorem Kept.refl (G : List Nat) (w : World) : Kept G w w := fun _ _ => rfl
theorem Kept.tr {G : List Nat} {w w' w'' : World} (h : Kept G w w') (k : Kept G w' w'') : Kept G w w'' := fun b hb => (k b hb).trans (h b hb)
theorem kno {p : Nat → Prop} : ∀ b ∈ ([] : List Nat), p b := fun _ h => by cases h
theorem kin {p : Nat → Prop} {b : Nat} {G : List Nat} (h : p b) (h' : ∀ g ∈ G, p g) : ∀ g ∈ b :: G, p g := fun g hg => by
 rcases List.mem_cons.1 hg with rfl | hg
 ·exact h
 ·exact h' g hg
theorem Kept.ext {G : List Nat} {w w' : World} (e : Ext w w') (h : ∀ b ∈ G, b < w.heap.size) : Kept G w w' := fun b hb => e.block b (h b hb)
theorem Kept.own {G : List Nat} {w w' : World} {o : Option Nat} (e : w.grownBy w' o) (h : ∀ b ∈ G, b < w.heap.size) (hn : ∀ b ∈ G, some b ≠ o) : Kept G w w' := fun b hb => e.block b (h b hb) (hn b hb)
theorem Blk.kep {G : List Nat} {w w' : World} {b : Nat} {t : TypeId} {cs : Array Value} (h : Blk w b t cs) (k : Kept G w w') (hb : b ∈ G := by simp) : Blk w' b t cs := (k b hb).trans h
theorem Row.sepLo {w : World} {base b n c m : Nat} {e : TypeId} {A : Option Addr} {xs : List Value} (h : Row w base e A n c xs) (hb : b < base) : some b ≠ (Value.slice A m c).ownBlock := by
 rcases h.2 with ⟨hv, _⟩ | ⟨g, cap, cur, hv, hg, _⟩
 ·injection hv with hB _ _; subst hB; simp [Value.ownBlock]
 ·injection hv with hB _ _; subst hB
  simp only [Value.ownBlock]
  intro e; injection e with e; omega
section
variable {P : Program} {ops : Array Oper} {Q : Exit → Act → World → Prop} {N : Nd} {L : List (Nat × Value)} {w : World} {G : List Nat}
def wpK (P : Program) (ops : Array Oper) (Q : Exit → Act → World → Prop) (G : List Nat) : Nat → Array Bool → Act → World → Prop
 | 0, listed, a, w => Region.ready .any ops listed = [] ∧ Q .normal a w
 | n + 1, listed, a, w => (Region.ready .any ops listed = [] → Q .normal a w) ∧
   ∀ i ∈ Region.ready .any ops listed, wpOp P ops Q i (fun a' w' => Kept G w w' ∧ wpK P ops Q G n (listed.setIfInBounds i true) a' w') a w
theorem wpK_any : ∀ (n : Nat) (listed : Array Bool) (a : Act) (w : World), wpK P ops Q G n listed a w → wpAny P .any ops Q n listed a w
 | 0, _, _, _, h => h
 | n + 1, _, _, _, h => ⟨h.1, fun i hi => wpOp_mono (fun a' w' h' => wpK_any n _ a' w' h'.2) (h.2 i hi)⟩
theorem wpK_first {i : Nat} {oi : Oper} {v : Value} (D : Nat → Bool) (hi : ops[i]? = some oi) (hsel : ∀ (j : Nat) (o : Oper) cs b, ops[j]? = some o → o.op ≠ .select cs b)
    (hQ : ∀ c a w, Q (.panic c) (a.put oi.dst v) w → Q (.panic c) a w) :
    ∀ (n : Nat) (listed : Array Bool) (a : Act) (w : World),
      (∀ j oj, ops[j]? = some oj → j ≠ i → listed.getD j true = false → D j = true → ∃ e ∈ oj.after, Region.binds .any e = true ∧ (e.on = i ∨ D e.on = true ∧ listed.getD e.on true = false)) →
      (∀ j oj, ops[j]? = some oj → j ≠ i → listed.getD j true = false → D j = false → oi.apart ops oj = true) →
      i ∈ Region.ready .any ops listed → YieldsIf P ops (fun w' => Kept G w w') oi v a →
      wpK P ops Q G n (listed.setIfInBounds i true) (a.put oi.dst v) w → wpK P ops Q G (n + 1) listed a w := by
  intro n
  induction n with
  | zero =>
    intro listed a w _ _ hr hy H
    refine ⟨fun h => (by rw [h] at hr; cases hr), fun j hj => ?_⟩
    by_cases hji : j = i
    · subst hji; exact hy.wpOp hi (Kept.refl G w) ⟨Kept.refl _ w, H⟩
    · have := ready_mono hj hji
      rw [H.1] at this
      cases this
  | succ n ih =>
    intro listed a w hdep hfree hr hy H
    refine ⟨fun h => (by rw [h] at hr; cases hr), fun j hj => ?_⟩
    by_cases hji : j = i
    · subst hji; exact hy.wpOp hi (Kept.refl G w) ⟨Kept.refl _ w, H⟩
    · have h1 := H.2 j (ready_mono hj hji)
      obtain ⟨hjun, oj, hoj, hall⟩ := mem_ready.1 hj
      have hDj : D j = false := by
        cases hd : D j with
        | false => rfl
        | true =>
          exfalso
          obtain ⟨e, he, hb, hor⟩ := hdep j oj hoj hji hjun hd
          have h1 := hall e he hb
          rcases hor with heq | ⟨_, hun⟩
          · have h0 := (mem_ready.1 hr).1
            rw [heq] at h1
            rcases Nat.lt_or_ge i listed.size with h' | h'
            · simp [h'] at h0 h1; rw [h0] at h1; cases h1
            · simp [Array.getElem?_eq_none h'] at h1
          · rcases Nat.lt_or_ge e.on listed.size with h' | h'
            · simp [h'] at hun h1; rw [hun] at h1; cases h1
            · simp [Array.getElem?_eq_none h'] at h1
      have hap := hfree j oj hoj hji hjun hDj
      have h2 := wpOp_putIf hoj hap (fun cs b => hsel i oi cs b hi) (fun cs b => hsel j oj cs b hoj) hQ hy h1
      have back : ∀ k, (listed.setIfInBounds j true).getD k true = false → listed.getD k true = false := fun k hun => by
        by_cases hjk : j = k
        · subst hjk; exact hjun
        · rwa [getD_set_ne true hjk] at hun
      have hdep' : ∀ k ok, ops[k]? = some ok → k ≠ i → (listed.setIfInBounds j true).getD k true = false → D k = true → ∃ e ∈ ok.after, Region.binds .any e = true ∧ (e.on = i ∨ D e.on = true ∧ (listed.setIfInBounds j true).getD e.on true = false) := fun k ok hk hki hun hd => by
        obtain ⟨e, he, hb, hor⟩ := hdep k ok hk hki (back k hun) hd
        refine ⟨e, he, hb, hor.imp id fun ⟨h3, h4⟩ => ⟨h3, ?_⟩⟩
        have hne : j ≠ e.on := by rintro rfl; rw [hDj] at h3; cases h3
        rw [getD_set_ne true hne]; exact h4
      have hfree' : ∀ k ok, ops[k]? = some ok → k ≠ i → (listed.setIfInBounds j true).getD k true = false → D k = false → oi.apart ops ok = true := fun k ok hk hki hun hd =>
        hfree k ok hk hki (back k hun) hd
      refine wpOp_mono (fun a' w' h3 => ?_) h2
      obtain ⟨hy', hx, hrest⟩ := h3
      refine ⟨hx, ih (listed.setIfInBounds j true) a' w' hdep' hfree' (ready_mono hr (Ne.symm hji)) (hy'.imp (fun ⟨q1, q2⟩ => ⟨q1, fun w2 e2 => q2 w2 (hx.tr e2)⟩) id) ?_⟩
      rw [Array.setIfInBounds_comm _ _ hji]
      exact hrest
def WG (P : Program) (ops : Array Oper) (Q : Exit → Act → World → Prop) (G : List Nat) (n : Nat) (listed : Array Bool) (N : Nd) (L : List (Nat × Value)) (w : World) : Prop := ∀ a, Fr N L a → wpK P ops Q G n listed a w
theorem wc_drawG (G : List Nat) {id : Nat} {l : List Oper} (hm : P.follows .mixedOrders = true) (n : Nat) (hn : l.length = n) (h : ∀ w', Ext w w' → w'.heap = w.heap → WG P l.toArray (NoP Q) G n (Array.replicate n false) N L w') : WC P Q (.region id l.toArray true) N L w := by
 intro a ha
 subst hn
 have h1 : (Code.region id l.toArray true).wp P (NoP Q) a w := by
  refine wp_region_any hm (wpK_any (G := G) _ _ _ _ ?_)
  rw [List.size_toArray]
  exact h _ (Ext.drew w) rfl a ha
 refine wp_mono h1 fun e a w hq => ?_
 cases e <;> first | exact hq | exact hq.elim
theorem wg_done {n : Nat} {listed : Array Bool} (hr : Region.ready .any ops listed = []) (h : WQ Q .normal N L w) : WG P ops Q G n listed N L w := by
 intro a ha
 cases n with
 | zero => exact ⟨hr, h a ha⟩
 | succ n => exact ⟨fun _ => h a ha, by rw [hr]; simp⟩
def freeByK (md : Region.Mode) (ops : Array Oper) (listed : Array Bool) (i : Nat) (D : List Bool) : Bool :=
 Region.noSelect ops && (match ops[i]? with
  | none => false
  | some oi => (List.range ops.size).all fun j => j == i || (listed.getD j true || (match ops[j]? with
    | none => true
    | some oj => cond (D.getD j false) (oj.after.any fun e => Region.binds md e && (e.on == i || (D.getD e.on false && !listed.getD e.on true))) (oi.apart ops oj)))) && (Region.ready md ops listed).contains i
theorem wg_take {n : Nat} {listed : Array Bool} {i : Nat} {oi : Oper} {v : Value} (hi : ops[i]? = some oi) (hf : freeByK .any ops listed i (depSet .any ops listed i) = true)
  (hy : ∀ a, Fr N L a → YieldsIf P ops (fun w' => Kept G w w') oi v a) (hd : dOk N oi.dst = true) (h : WG P ops (NoP Q) G n (listed.setIfInBounds i true) N (pushd oi.dst v L) w) : WG P ops (NoP Q) G (n + 1) listed N L w := by
 intro a ha
 generalize depSet .any ops listed i = D at hf
 simp only [freeByK, hi, Bool.and_eq_true, List.all_eq_true, List.mem_range, Bool.or_eq_true, beq_iff_eq] at hf
 obtain ⟨⟨h1, h2⟩, h4⟩ := hf
 have key : ∀ j oj, ops[j]? = some oj → j ≠ i → listed.getD j true = false → cond (D.getD j false) (oj.after.any fun e => Region.binds .any e && (e.on == i || (D.getD e.on false && !listed.getD e.on true))) (oi.apart ops oj) = true := fun j oj hj hne hun => by
  have := h2 j (Array.getElem?_eq_some_iff.1 hj).1
  rcases this with h | h | h
  ·exact absurd h hne
  ·rw [hun] at h; cases h
  ·rw [hj] at h; exact h
 refine wpK_first (fun j => D.getD j false) hi (Region.noSelect_spec h1) (fun c a w h => h) n listed a w (fun j oj hj hne hun hd => ?_) (fun j oj hj hne hun hd => ?_) (by simpa using h4) (hy a ha) (h _ (ha.putd hd v))
 ·have k := key j oj hj hne hun
  rw [hd, cond_true] at k
  obtain ⟨e, he, hb⟩ := Array.any_eq_true'.1 k
  simp only [Bool.and_eq_true, Bool.or_eq_true, beq_iff_eq, Bool.not_eq_true'] at hb
  exact ⟨e, he, hb.1, hb.2⟩
 ·have k := key j oj hj hne hun
  rw [hd, cond_false] at k
  exact k
theorem wg_y {n : Nat} {listed : Array Bool} (i : Nat) {op : Op} {ty : TypeId} {v : Value} {dst : Option Tmp} {pos : String} {after : Array Edge} (hi : ops[i]? = some ⟨dst, op, ty, pos, after, none⟩) (hf : freeByK .any ops listed i (depSet .any ops listed i) = true) (h : ∀ w', Kept G w w' → Y P L w' op ty v) (hd : dOk N dst = true)
  (hr : WG P ops (NoP Q) G n (listed.setIfInBounds i true) N (pushd dst v L) w) : WG P ops (NoP Q) G (n + 1) listed N L w :=
 wg_take hi hf (fun a ha => .inl ⟨rfl, fun w' e => h w' e a.eval (fun _ _ hx => ha.ev hx) w' (Ext.refl w') _ _ _ _⟩) hd hr
def OpG (P : Program) (ops : Array Oper) (Q : Exit → Act → World → Prop) (G : List Nat) (n : Nat) (listed : Array Bool) (i : Nat) (N : Nd) (L : List (Nat × Value)) (w : World) : Prop :=
 ∀ a, Fr N L a → wpOp P ops Q i (fun a' w' => Kept G w w' ∧ wpK P ops Q G n (listed.setIfInBounds i true) a' w') a w
theorem wg_all {n : Nat} {listed : Array Bool} (rs : List Nat) (hr : Region.ready .any ops listed = rs) (hne : rs.isEmpty = false) (h : ∀ i ∈ rs, OpG P ops Q G n listed i N L w) : WG P ops Q G (n + 1) listed N L w := by
 intro a ha
 refine ⟨fun h0 => ?_, fun i hi => h i (hr ▸ hi) a ha⟩
 rw [hr] at h0
 rw [h0] at hne
 cases hne
theorem wg_one {n : Nat} {listed : Array Bool} (i : Nat) (hr : Region.ready .any ops listed = [i]) (h : OpG P ops Q G n listed i N L w) : WG P ops Q G (n + 1) listed N L w :=
 wg_all [i] hr rfl (fun k hk => by simp only [List.mem_singleton] at hk; subst hk; exact h)
theorem wg_two {n : Nat} {listed : Array Bool} (i j : Nat) (hr : Region.ready .any ops listed = [i, j]) (h : OpG P ops Q G n listed i N L w) (h' : OpG P ops Q G n listed j N L w) : WG P ops Q G (n + 1) listed N L w :=
 wg_all [i, j] hr rfl (fun k hk => by
  simp only [List.mem_cons, List.not_mem_nil, or_false] at hk
  rcases hk with hk | hk <;> subst hk
  ·exact h
  ·exact h')
theorem og_ef {n : Nat} {listed : Array Bool} {i : Nat} {op : Op} {ty : TypeId} {Φ : Value → World → Prop} {dst : Option Tmp} {pos : String} {after : Array Edge} (hi : ops[i]? = some ⟨dst, op, ty, pos, after, none⟩) (h : Ef P L w op ty Φ) (hd : dOk N dst = true)
  (hr : ∀ v w', Φ v w' → Kept G w w' ∧ WG P ops Q G n (listed.setIfInBounds i true) N (pushd dst v L) w') : OpG P ops Q G n listed i N L w := by
 intro a ha
 unfold wpOp
 simp only [hi]
 rw [if_pos (by simp [Region.wanted])]
 exact .inl (h a N ha _ _ _ _ _ _ fun v w' hv => ⟨(hr v w' hv).1, (hr v w' hv).2 _ (ha.putd hd v)⟩)
section
variable {f : FuncId} {xs : List Operand} {ats : Array TypeId} {vs : List Value} {R : Ending → World → Prop} {fn : Func} {c : Code} {ty : TypeId} {dst : Option Tmp} {pos : String} {after : Array Edge}
theorem og_call {n : Nat} {listed : Array Bool} {i : Nat} (hi : ops[i]? = some ⟨dst, .call { callee := .value (.func f), args := xs.toArray, argTypes := ats }, ty, pos, after, none⟩) (hf : P.funcs[f]? = some fn) (hb : fn.body = some c) (hn : (fn.name == "runtime.NumGoroutine") = false) (hx : evs L xs = some vs) (h : Calls P f vs.toArray w R) (hd : dOk N dst = true)
  (hr : ∀ e w', R e w' → ∃ v, e = .returned v ∧ Kept G w w' ∧ WG P ops Q G n (listed.setIfInBounds i true) N (pushd dst v L) w') : OpG P ops Q G n listed i N L w :=
 og_ef hi (ef_of_call hf hb hn hx h hr) hd fun _ _ hv => hv
end
end
end Go.Proofs.YtjllhimhiekchaaGreat
