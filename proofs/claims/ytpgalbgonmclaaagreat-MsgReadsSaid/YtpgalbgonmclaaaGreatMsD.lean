/- The text, the bytes and the name of packages: what msg and the reference hand back. -/
import Derived.Test.YtpgalbgonmclaaaGreatMsB
import Derived.Test.YtpgalbgonmclaaaGreatCtxA
/- The bytes of packages and proposals: what msg and the reference hand back; bytes told of what may be. -/
namespace Go.Proofs.YtpgalbgonmclaaaGreat
open Go.RowKit
attribute [local irreducible] Y Ef WL WC WK WQ WM OpM WN WF OpN
open Nd Wire
def packT (p : Pack) : List UInt8 := [0, 1, 0, 1] ++ vec p.init ++ leafB p.leaf
def packB (p : Pack) : List UInt8 := packT p ++ vec p.sig
def propB (p : Prop20) : List UInt8 := UInt8.ofNat p.kind :: (if p.kind = 1 then packB p.pack else if p.kind = 2 then leafB p.leaf else be 4 p.at_.toNat)
theorem packT_le {p : Pack} (hf : p.Fit) : (packT p).length ≤ 6000030 := by
  have h1 := vec_le p.init; have h2 := leafB_le hf.2.1; have h3 := hf.1
  unfold packT
  simp only [List.length_append, List.length_cons, List.length_nil]; omega
/-- Bytes are told of what may be; of other things none, and the error 3. -/
theorem told_any {ok : Bool} {f : FuncId} {us : List Value} {fn : Func} {b : Code} {Ψ : World → Option Addr → Nat → Nat → Prop} (w : World) (hf : Tryz.prog.funcs[f]? = some fn) (hb : fn.body = some b) (hnm : (fn.name == "runtime.NumGoroutine") = false)
    (hp : ok = true → ∀ w1 : World, Ext w w1 → Calls Tryz.prog f us.toArray w1 fun e w' => ∃ A k c, e = .returned (.slice A k c) ∧ Ψ w' A k c ∧ Ext w1 w') :
    Calls Tryz.prog 61 #[.bool ok, .func (.func f) #[] us.toArray] w fun e w' => ∃ A k c, ∃ z : Nat, e = .returned (.tuple #[.slice A k c, .int .u8 (z : Int)]) ∧ (ok = true → z = 0 ∧ Ψ w' A k c) ∧ (ok = false → z = 3 ∧ A = none ∧ k = 0 ∧ c = 0) ∧ Ext w w' := by
  have E := Ext.refl w
  refine vc_enter2 10 Tryz.func61 rfl rfl rfl rfl ?_
  intro Q hret
  refine wc_seq ?_; intro K1 hK1
  refine wc_region ?_
  refine wl_y (y_assign rfl) rfl ?_
  refine wl_y (y_assign rfl) rfl ?_
  refine wl_nil ?_
  refine wq_then_norm (hK1 ?_)
  refine wc_seq ?_; intro K2 hK2
  refine wc_seq ?_; intro K3 hK3
  refine wc_region ?_
  refine wl_y (y_move rfl) rfl ?_
  refine wl_y (y_not rfl) rfl ?_
  refine wl_nil ?_
  refine wq_then_norm (hK3 ?_)
  refine wc_cond rfl (fun hc1 => ?_) (fun hc1 => ?_)
  · skip
    refine wc_seq ?_; intro K4 hK4
    refine wc_region ?_
    refine wl_y (y_assign rfl) rfl ?_
    refine wl_y (y_assign rfl) rfl ?_
    refine wl_nil ?_
    refine wq_then_norm (hK4 ?_)
    refine wc_ret ?_
    refine wq_then_ret ?_
    refine hret rfl rfl ?_
    exact ⟨none, 0, 0, 3, rfl, fun h => (by rw [h] at hc1; cases hc1), fun _ => ⟨rfl, rfl, rfl, rfl⟩, E⟩
  · skip
    refine wc_skip ?_
    refine wq_then_norm (hK2 ?_)
    refine wc_seq ?_; intro K5 hK5
    have hok : ok = true := by cases ok <;> simp_all
    refine wc_region ?_
    refine wl_y (y_move rfl) rfl ?_
    refine wl_ef (ef_callv (Φ := fun v w' => ∃ A k c, v = .slice A k c ∧ Ψ w' A k c ∧ Ext _ w') (xs := []) (vs := []) rfl hf hb hnm rfl (hp hok _ E) (fun _ _ ⟨A, k, c, h1, h2, h3⟩ => ⟨_, h1, A, k, c, rfl, h2, h3⟩)) rfl ?_
    rintro _ w2 ⟨A2, k2, c2, rfl, P2, ex⟩
    replace E := E.ext ex
    skip
    refine wl_y (y_assign rfl) rfl ?_
    refine wl_y (y_assign rfl) rfl ?_
    refine wl_nil ?_
    refine wq_then_norm (hK5 ?_)
    refine wc_ret ?_
    refine hret rfl rfl ?_
    exact ⟨A2, k2, c2, 0, rfl, fun _ => ⟨rfl, P2⟩, fun h => (by rw [h] at hok; cases hok), E⟩
section
variable {cs : Array Value} {l : Leaf} {p : Pack} {q : Prop20}
theorem leafBytes20_any (w : World) (H : LeafAt w cs l) (hf : l.Fit) (ok : okLeaf l) :
    Calls Tryz.prog 108 #[.agg cs] w fun e w' => ∃ A' k c', e = .returned (.slice A' k c') ∧ Row w' w.heap.size 5 A' k c' ((leafB l).map bv) ∧ Ext w w' := by
  have HL := H
  have e1 : leafE l = (leafB l, 0) := by unfold leafE; rw [if_pos ok]
  obtain ⟨h0, h1, h2, h4, h5, rfl, hs, b0, b1, b2, b4, b5⟩ := H
  have E := Ext.refl w
  refine vc_enter1 11 Tryz.func108 rfl rfl rfl rfl ?_
  intro Q hret
  refine wc_seq ?_; intro K1 hK1
  refine wc_region ?_
  refine wl_ef (ef_box rfl rfl) rfl ?_
  rintro _ wB1 ⟨gB1, rfl, B1, hgB1, ex⟩
  have lB1 := B1.lt; have zB1 := ex.size
  replace E := E.ext ex
  refine wl_y (y_assign rfl) rfl ?_
  refine wl_nil ?_
  refine wq_then_norm (hK1 ?_)
  refine wc_seq ?_; intro K2 hK2
  refine wc_region ?_
  have hz1 := E.size
  refine wl_y (y_loadx (o := 0) (s := 6) rfl Tryz.underlying25 rfl (by kernel_rfl) B1 rfl) rfl ?_
  refine wl_call Tryz.func117 rfl rfl rfl (LeafBytes_any _ (HL.ext E) hf) rfl ?_
  rintro e w2 ⟨A2, k2, c2, rfl, R2, ex⟩
  refine ⟨_, rfl, ?_⟩
  replace E := E.ext ex
  replace B1 := B1.ext ex
  rw [e1] at R2
  refine wl_y (y_move rfl) rfl ?_
  refine wl_y (y_extract rfl rfl) rfl ?_
  refine wl_y (y_extract rfl rfl) rfl ?_
  refine wl_y (y_assign rfl) rfl ?_
  refine wl_y (y_assign rfl) rfl ?_
  refine wl_nil ?_
  refine wq_then_norm (hK2 ?_)
  refine wc_seq ?_; intro K3 hK3
  refine wc_region ?_
  refine wl_y (y_move rfl) rfl ?_
  refine wl_y (y_assign rfl) rfl ?_
  refine wl_nil ?_
  refine wq_then_norm (hK3 ?_)
  refine wc_ret ?_
  refine hret rfl ?_
  exact ⟨A2, k2, c2, rfl, R2.lower hz1, E⟩
theorem packText_any (w : World) (H : PackAt w cs p) (hf : p.Fit) (ok : okPack p) :
    Calls Tryz.prog 77 #[.agg cs] w fun e w' => ∃ A' k c', e = .returned (.slice A' k c') ∧ Row w' w.heap.size 5 A' k c' ((packT p).map bv) ∧ Ext w w' := by
  have HL := H.leaf
  have hB := leafB_le hf.2.1
  have h6 := hf.1
  obtain ⟨i, h0, h1, h2, h4, h5, g, rfl, hs, a, b0, b1, b2, b4, b5, c⟩ := H
  have la := a.1
  have E := Ext.refl w
  refine vc_enter1 14 Tryz.func77 rfl rfl rfl rfl ?_
  intro Q hret
  refine wc_seq ?_; intro K1 hK1
  refine wc_region ?_
  refine wl_ef (ef_box rfl rfl) rfl ?_
  rintro _ wB1 ⟨gB1, rfl, B1, hgB1, ex⟩
  have lB1 := B1.lt; have zB1 := ex.size
  replace E := E.ext ex
  refine wl_y (y_assign rfl) rfl ?_
  refine wl_nil ?_
  refine wq_then_norm (hK1 ?_)
  refine wc_seq ?_; intro K2 hK2
  refine wc_region ?_
  refine wl_call Tryz.func69 rfl rfl rfl (mnum_any none 0 0 2 1 [] _ (Bs.nil _ _) (by omega) (by omega) (by omega)) rfl ?_
  rintro e w2 ⟨A2, c2, rfl, R2, ex⟩
  refine ⟨_, rfl, ?_⟩
  replace E := E.ext ex
  replace B1 := B1.ext ex
  skip
  refine wl_call Tryz.func69 rfl rfl rfl (mnum_any A2 _ c2 2 1 _ _ R2.bs (by omega) (by omega) (by omega)) rfl ?_
  rintro e w3 ⟨A3, c3, rfl, R3, ex⟩
  refine ⟨_, rfl, ?_⟩
  replace E := E.ext ex
  replace B1 := B1.ext ex
  replace R2 := R2.ext ex
  skip
  refine wl_y (y_assign rfl) rfl ?_
  refine wl_nil ?_
  refine wq_then_norm (hK2 ?_)
  refine wc_seq ?_; intro K3 hK3
  refine wc_draw (by kernel_rfl) 9 rfl ?_; intro wd2 ex hd2
  replace E := E.ext ex
  replace B1 := B1.ext ex
  replace R3 := R3.ext ex
  refine wm_z 0 rfl (by kernel_rfl) (fun _ => y_move rfl) rfl ?_
  refine wm_z 1 rfl (by kernel_rfl) (fun _ => y_fieldAddr (o := 0) (s := 1) (off := 0) (o' := 0) rfl Tryz.underlying27 rfl (by kernel_rfl) rfl rfl) rfl ?_
  refine wm_y 2 rfl (by kernel_rfl) (y_load1 rfl Tryz.underlying22 rfl (B1.get (i := 0) rfl)) rfl ?_
  refine wm_z 4 rfl (by kernel_rfl) (fun _ => y_fieldAddr (o := 1) (s := 6) (off := 0) (o' := 1) rfl Tryz.underlying27 rfl (by kernel_rfl) rfl rfl) rfl ?_
  refine wm_y 5 rfl (by kernel_rfl) (y_loadx (o := 1) (s := 6) rfl Tryz.underlying25 rfl (by kernel_rfl) B1 rfl) rfl ?_
  have hz3 := E.size
  refine wm_one 3 (by kernel_rfl) ?_; refine om_call rfl Tryz.func68 rfl rfl rfl (mvec_any A3 i.A _ c3 i.n i.c _ _ _ R3.bs (by omega) (Bs.ext a E) (by omega)) rfl ?_
  rintro e w4 ⟨A4, k4, c4, rfl, R4, hk4, ex⟩
  refine ⟨_, rfl, .inr ex, ?_⟩
  replace E := E.ext ex
  replace B1 := B1.ext ex
  replace R3 := R3.ext ex
  have hl4 := lsz_le i.n; replace R4 := R4.lower hz3
  refine wm_one 6 (by kernel_rfl) ?_; refine om_call rfl Tryz.func108 rfl rfl rfl (leafBytes20_any _ (HL.ext E) hf.2.1 ok.2.1.1) rfl ?_
  rintro e w5 ⟨A5, k5, c5, rfl, R5, ex⟩
  refine ⟨_, rfl, .inr ex, ?_⟩
  replace E := E.ext ex
  replace B1 := B1.ext ex
  replace R4 := R4.ext ex
  have hk5 := R5.bs.1
  have hz7 := E.size
  refine wm_one 7 (by kernel_rfl) ?_; refine om_ef rfl (ef_app rfl rfl eltB R4 R5.at R5.len (by intro u hu; exact bv_one u hu) (by omega) (by omega) hz7) rfl ?_
  rintro _ w6 ⟨A6, c6, rfl, R6, be, gr, hl⟩
  refine ⟨.inl rfl, ?_⟩
  replace E := E.trans be; have R7 := R6.cat
  refine wm_y 8 rfl (by kernel_rfl) (y_assign rfl) rfl ?_
  refine wm_done (by kernel_rfl) ?_
  refine wq_nop ?_
  refine wq_then_norm (hK3 ?_)
  refine wc_ret ?_
  refine hret rfl ?_
  exact ⟨A6, _, c6, rfl, R7.congr rfl (by unfold packT; rw [List.nil_append]; rfl), E⟩
end
end Go.Proofs.YtpgalbgonmclaaaGreat

namespace Go.Proofs.YtpgalbgonmclaaaGreat
open Go.RowKit
attribute [local irreducible] Y Ef WL WC WK WQ WM OpM WN WF OpN
open Nd Wire
/-- What is told: bytes of what may be, or nothing and 3. -/
def Told (w : World) (ok : Prop) (xs : List UInt8) (A : Option Addr) (k : Nat) (z : Nat) : Prop := (ok → z = 0 ∧ Bs w A k xs) ∧ (¬ ok → z = 3 ∧ k = 0)
theorem Told.ext {w w' : World} {ok : Prop} {xs : List UInt8} {A : Option Addr} {k z : Nat} (h : Told w ok xs A k z) (e : Ext w w') : Told w' ok xs A k z := ⟨fun o => ⟨(h.1 o).1, (h.1 o).2.ext e⟩, h.2⟩
section
variable {cs : Array Value} {l : Leaf} {p : Pack} {q : Prop20} {g : Nat} {t : TypeId}
end
end Go.Proofs.YtpgalbgonmclaaaGreat
