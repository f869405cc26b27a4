/- The text, the bytes and the name of packages: what msg and the reference hand back. -/
import Derived.Test.YtpgalbgonmclaaaMsC
namespace Go.Proofs.Ytpgalbgonmclaaa
open Go.RowKit
attribute [local irreducible] Y Ef WL WC WK WQ WM OpM WN WF OpN
open Nd Wire
/-- What is told: bytes of what may be, or nothing and 3. -/
def Told (w : World) (ok : Prop) (xs : List UInt8) (A : Option Addr) (k : Nat) (z : Nat) : Prop := (ok → z = 0 ∧ Bs w A k xs) ∧ (¬ ok → z = 3 ∧ k = 0)
theorem Told.ext {w w' : World} {ok : Prop} {xs : List UInt8} {A : Option Addr} {k z : Nat} (h : Told w ok xs A k z) (e : Ext w w') : Told w' ok xs A k z := ⟨fun o => ⟨(h.1 o).1, (h.1 o).2.ext e⟩, h.2⟩
section
variable {cs : Array Value} {l : Leaf} {p : Pack} {q : Prop20} {g : Nat} {t : TypeId}
theorem rpackBytes_any (w : World) (H : PackAt w cs p) (hs' : p.Small) :
    Calls Try.prog 42 #[.agg cs] w fun e w' => ∃ A' k c', e = .returned (.slice A' k c') ∧ Row w' w.heap.size 5 A' k c' ((packB p).map bv) ∧ Ext w w' := by
  have HP := H
  have hl := packT_sm hs'
  have h7 := hs'.2.1
  obtain ⟨i, h0, h1, h2, h4, h5, gg, rfl, hs, a, b0, b1, b2, b4, b5, c⟩ := H
  have lc := c.1
  have E := Ext.refl w
  refine vc_enter1 9 Try.func42 rfl rfl rfl rfl ?_
  intro Q hret
  refine wc_seq ?_; intro K1 hK1
  refine wc_region ?_
  refine wl_ef (ef_box rfl rfl) rfl ?_
  rintro _ wB1 ⟨gB1, rfl, B1, hgB1, ex⟩
  have lB1 := B1.lt; have zB1 := ex.size
  replace E := E.ext ex
  refine wl_y (y_assign rfl) rfl ?_
  refine wl_nil ?_
  refine wq_then_norm (hK1 ?_)
  refine wc_seq ?_; intro K2 hK2
  refine wc_draw (by kernel_rfl) 7 rfl ?_; intro wd1 ex hd1
  replace E := E.ext ex
  replace B1 := B1.ext ex
  refine wm_y 0 rfl (by kernel_rfl) (y_loadx (o := 0) (s := 8) rfl Try.underlying26 rfl (by kernel_rfl) B1 rfl) rfl ?_
  refine wm_y 2 rfl (by kernel_rfl) (y_fieldAddr (o := 7) (s := 1) (off := 0) (o' := 7) rfl Try.underlying26 rfl (by kernel_rfl) rfl rfl) rfl ?_
  refine wm_y 3 rfl (by kernel_rfl) (y_load1 rfl Try.underlying22 rfl (B1.get (i := 7) rfl)) rfl ?_
  refine wm_one 1 (by kernel_rfl) ?_; refine om_call rfl Try.func41 rfl rfl rfl (rpackText_any _ (HP.ext E) hs') rfl ?_
  rintro e w2 ⟨A2, k2, c2, rfl, R2, ex⟩
  refine ⟨_, rfl, .inr ex, ?_⟩
  replace E := E.ext ex
  replace B1 := B1.ext ex
  have hk2 := R2.bs.1
  refine wm_one 4 (by kernel_rfl) ?_; refine om_call rfl Try.func82 rfl rfl rfl (vec20_any gg.A gg.n gg.c _ _ (Bs.ext c E) (by omega)) rfl ?_
  rintro e w3 ⟨A3, k3, c3, rfl, R3, hk3, ex⟩
  refine ⟨_, rfl, .inr ex, ?_⟩
  replace E := E.ext ex
  replace B1 := B1.ext ex
  replace R2 := R2.ext ex
  have hl3 := lsz_le gg.n
  have hz5 := E.size
  refine wm_one 5 (by kernel_rfl) ?_; refine om_call rfl Try.func76 rfl rfl rfl (join20_any A2 A3 k2 c2 k3 c3 _ _ _ R2.bs (by omega) R3.bs (by omega)) rfl ?_
  rintro e w4 ⟨A4, c4, rfl, R4, ex⟩
  refine ⟨_, rfl, .inr ex, ?_⟩
  replace E := E.ext ex
  replace B1 := B1.ext ex
  replace R2 := R2.ext ex
  replace R3 := R3.ext ex
  skip
  refine wm_y 6 rfl (by kernel_rfl) (y_assign rfl) rfl ?_
  refine wm_done (by kernel_rfl) ?_
  refine wq_nop ?_
  refine wq_then_norm (hK2 ?_)
  refine wc_ret ?_
  refine hret rfl ?_
  exact ⟨A4, _, c4, rfl, R4.lower hz5, E⟩
end
end Go.Proofs.Ytpgalbgonmclaaa
