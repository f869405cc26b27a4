/- The text, the bytes and the name of packages: what msg and the reference hand back. -/
import Derived.Test.YtpgalbgonmclaaaMsC
namespace Go.Proofs.Ytpgalbgonmclaaa
open Go.RowKit
attribute [local irreducible] Y Ef WL WC WK WQ WM OpM WN WF OpN
open Nd Wire
/-- What is told: bytes of what may be, or nothing and 3. -/
def Told (w : World) (ok : Prop) (xs : List UInt8) (A : Option Addr) (k : Nat) (z : Nat) : Prop := (ok → z = 0 ∧ Bs w A k xs) ∧ (¬ ok → z = 3 ∧ k = 0)
theorem Told.ext {w w' : World} {ok : Prop} {xs : List UInt8} {A : Option Addr} {k z : Nat} (h : Told w ok xs A k z) (e : Ext w w') : Told w' ok xs A k z := ⟨fun o => ⟨(h.1 o).1, (h.1 o).2.ext e⟩, h.2⟩
def packN : ByteArray := ⟨#[77, 76, 83, 32, 49, 46, 48, 32, 75, 101, 121, 80, 97, 99, 107, 97, 103, 101, 32, 82, 101, 102, 101, 114, 101, 110, 99, 101]⟩
theorem packN_size : packN.size ≤ 1048576 := by decide
def packR (p : Pack) : List UInt8 := Sha.sum (vec packN.data.toList ++ vec (packB p))
section
variable {cs : Array Value} {l : Leaf} {p : Pack} {q : Prop20} {g : Nat} {t : TypeId}
theorem packTextF (w : World) (B : Blk w g t cs) (H : PackAt w cs p) (hf : p.Fit) (ok : okPack p) :
    Calls Try.prog 101 #[.pointer (some ⟨g, 0, none⟩)] w fun e w' => ∃ A k c, e = .returned (.slice A k c) ∧ (Bs w' A k (packT p) ∧ k ≤ c) ∧ Ext w w' := by
  have HP := H
  obtain ⟨i, h0, h1, h2, h4, h5, gg, rfl, hs, a, b0, b1, b2, b4, b5, c⟩ := H
  have E := Ext.refl w
  refine vc_enter1 4 Try.func101 rfl rfl rfl rfl ?_
  intro Q hret
  refine wc_seq ?_; intro K1 hK1
  refine wc_region ?_
  refine wl_y (y_assign rfl) rfl ?_
  refine wl_nil ?_
  refine wq_then_norm (hK1 ?_)
  refine wc_seq ?_; intro K2 hK2
  refine wc_region ?_
  refine wl_y (y_loadx (o := 0) (s := 8) rfl Try.underlying26 rfl (by kernel_rfl) B rfl) rfl ?_
  refine wl_call Try.func102 rfl rfl rfl (packText_any _ (HP.ext E) hf ok) rfl ?_
  rintro e w2 ⟨A2, k2, c2, rfl, R2, ex⟩
  refine ⟨_, rfl, ?_⟩
  replace E := E.ext ex
  skip
  refine wl_y (y_assign rfl) rfl ?_
  refine wl_nil ?_
  refine wq_then_norm (hK2 ?_)
  refine wc_ret ?_
  refine hret rfl ?_
  exact ⟨A2, k2, c2, rfl, ⟨R2.bs, R2.cap⟩, E⟩
theorem packBytesF (w : World) (B : Blk w g t cs) (H : PackAt w cs p) (hf : p.Fit) (ok : okPack p) :
    Calls Try.prog 103 #[.pointer (some ⟨g, 0, none⟩)] w fun e w' => ∃ A k c, e = .returned (.slice A k c) ∧ (Bs w' A k (packB p) ∧ k ≤ c) ∧ Ext w w' := by
  have HP := H
  have hl := packT_le hf
  have h7 := hf.2.2
  obtain ⟨i, h0, h1, h2, h4, h5, gg, rfl, hs, a, b0, b1, b2, b4, b5, c⟩ := H
  have lc := c.1
  have E := Ext.refl w
  refine vc_enter1 7 Try.func103 rfl rfl rfl rfl ?_
  intro Q hret
  refine wc_seq ?_; intro K1 hK1
  refine wc_region ?_
  refine wl_y (y_assign rfl) rfl ?_
  refine wl_nil ?_
  refine wq_then_norm (hK1 ?_)
  refine wc_seq ?_; intro K2 hK2
  refine wc_draw (by kernel_rfl) 6 rfl ?_; intro wd1 ex hd1
  replace E := E.ext ex
  replace B := B.ext ex
  refine wm_y 0 rfl (by kernel_rfl) (y_loadx (o := 0) (s := 8) rfl Try.underlying26 rfl (by kernel_rfl) B rfl) rfl ?_
  refine wm_y 2 rfl (by kernel_rfl) (y_fieldAddr (o := 7) (s := 1) (off := 0) (o' := 7) rfl Try.underlying26 rfl (by kernel_rfl) rfl rfl) rfl ?_
  refine wm_y 3 rfl (by kernel_rfl) (y_load1 rfl Try.underlying22 rfl (B.get (i := 7) rfl)) rfl ?_
  refine wm_one 1 (by kernel_rfl) ?_; refine om_call rfl Try.func102 rfl rfl rfl (packText_any _ (HP.ext E) hf ok) rfl ?_
  rintro e w2 ⟨A2, k2, c2, rfl, R2, ex⟩
  refine ⟨_, rfl, .inr ex, ?_⟩
  replace E := E.ext ex
  replace B := B.ext ex
  have hk2 := R2.bs.1
  refine wm_one 4 (by kernel_rfl) ?_; refine om_call rfl Try.func87 rfl rfl rfl (mvec_any A2 gg.A k2 c2 gg.n gg.c _ _ _ R2.bs (by omega) (Bs.ext c E) (by omega)) rfl ?_
  rintro e w3 ⟨A3, k3, c3, rfl, R3, hk3, ex⟩
  refine ⟨_, rfl, .inr ex, ?_⟩
  replace E := E.ext ex
  replace B := B.ext ex
  replace R2 := R2.ext ex
  skip
  refine wm_y 5 rfl (by kernel_rfl) (y_assign rfl) rfl ?_
  refine wm_done (by kernel_rfl) ?_
  refine wq_nop ?_
  refine wq_then_norm (hK2 ?_)
  refine wc_ret ?_
  refine hret rfl ?_
  exact ⟨A3, k3, c3, rfl, ⟨R3.bs, R3.cap⟩, E⟩
theorem packNameF (w : World) (B : Blk w g t cs) (H : PackAt w cs p) (hs' : p.Small) (ok : okPack p) :
    Calls Try.prog 104 #[.pointer (some ⟨g, 0, none⟩)] w fun e w' => ∃ A k c, e = .returned (.slice A k c) ∧ Bs w' A k (packR p) ∧ Ext w w' := by
  have HP := H
  have hf := hs'.fit
  have hl := packT_sm hs'
  have h7 := hs'.2.1
  obtain ⟨i, h0, h1, h2, h4, h5, gg, rfl, hs, a, b0, b1, b2, b4, b5, c⟩ := H
  have lc := c.1
  have E := Ext.refl w
  refine vc_enter1 8 Try.func104 rfl rfl rfl rfl ?_
  intro Q hret
  refine wc_seq ?_; intro K1 hK1
  refine wc_region ?_
  refine wl_y (y_assign rfl) rfl ?_
  refine wl_nil ?_
  refine wq_then_norm (hK1 ?_)
  refine wc_seq ?_; intro K2 hK2
  refine wc_draw (by kernel_rfl) 7 rfl ?_; intro wd1 ex hd1
  replace E := E.ext ex
  replace B := B.ext ex
  refine wm_y 0 rfl (by kernel_rfl) (y_loadx (o := 0) (s := 8) rfl Try.underlying26 rfl (by kernel_rfl) B rfl) rfl ?_
  refine wm_y 2 rfl (by kernel_rfl) (y_fieldAddr (o := 7) (s := 1) (off := 0) (o' := 7) rfl Try.underlying26 rfl (by kernel_rfl) rfl rfl) rfl ?_
  refine wm_y 3 rfl (by kernel_rfl) (y_load1 rfl Try.underlying22 rfl (B.get (i := 7) rfl)) rfl ?_
  refine wm_one 1 (by kernel_rfl) ?_; refine om_call rfl Try.func102 rfl rfl rfl (packText_any _ (HP.ext E) hf ok) rfl ?_
  rintro e w2 ⟨A2, k2, c2, rfl, R2, ex⟩
  refine ⟨_, rfl, .inr ex, ?_⟩
  replace E := E.ext ex
  replace B := B.ext ex
  have hk2 := R2.bs.1
  refine wm_one 4 (by kernel_rfl) ?_; refine om_call rfl Try.func87 rfl rfl rfl (mvec_any A2 gg.A k2 c2 gg.n gg.c _ _ _ R2.bs (by omega) (Bs.ext c E) (by omega)) rfl ?_
  rintro e w3 ⟨A3, k3, c3, rfl, R3, hk3, ex⟩
  refine ⟨_, rfl, .inr ex, ?_⟩
  replace E := E.ext ex
  replace B := B.ext ex
  replace R2 := R2.ext ex
  have hl3 := lsz_le gg.n
  refine wm_one 5 (by kernel_rfl) ?_; refine om_call rfl Try.func105 rfl rfl rfl (ref_any A3 k3 c3 packN _ _ R3.bs packN_size (by omega)) rfl ?_
  rintro e w4 ⟨A4, c4, rfl, H4, ex⟩
  refine ⟨_, rfl, .inr ex, ?_⟩
  replace E := E.ext ex
  replace B := B.ext ex
  replace R3 := R3.ext ex
  skip
  refine wm_y 6 rfl (by kernel_rfl) (y_assign rfl) rfl ?_
  refine wm_done (by kernel_rfl) ?_
  refine wq_nop ?_
  refine wq_then_norm (hK2 ?_)
  refine wc_ret ?_
  refine hret rfl ?_
  exact ⟨A4, 32, c4, rfl, H4, E⟩
theorem PackageText_any (w : World) (H : PackAt w cs p) (hf : p.Fit) :
    Calls Try.prog 38 #[.agg cs] w fun e w' => ∃ A k c z, e = .returned (.tuple #[.slice A k c, .int .u8 ((z : Nat) : Int)]) ∧ Told w' (okPack p) (packT p) A k z ∧ k ≤ c ∧ Ext w w' := by
  have HP := H
  obtain ⟨i, h0, h1, h2, h4, h5, gg, rfl, hs, a, b0, b1, b2, b4, b5, c⟩ := H
  have E := Ext.refl w
  refine vc_enter2 10 Try.func38 rfl rfl rfl rfl ?_
  intro Q hret
  refine wc_seq ?_; intro K1 hK1
  refine wc_region ?_
  refine wl_ef (ef_box rfl rfl) rfl ?_
  rintro _ wB1 ⟨gB1, rfl, B1, hgB1, ex⟩
  have lB1 := B1.lt; have zB1 := ex.size
  replace E := E.ext ex
  refine wl_y (y_assign rfl) rfl ?_
  refine wl_y (y_assign rfl) rfl ?_
  refine wl_nil ?_
  refine wq_then_norm (hK1 ?_)
  refine wc_seq ?_; intro K2 hK2
  refine wc_region ?_
  refine wl_y (y_loadx (o := 0) (s := 8) rfl Try.underlying26 rfl (by kernel_rfl) B1 rfl) rfl ?_
  refine wl_call Try.func100 rfl rfl rfl (rightPack_any _ (HP.ext E) hf) rfl ?_
  rintro e w2 ⟨rfl, ex⟩
  refine ⟨_, rfl, ?_⟩
  replace E := E.ext ex
  replace B1 := B1.ext ex
  skip
  refine wl_y (y_func (xs := [.tmp 1]) (vs := [.pointer (some ⟨gB1, 0, none⟩)]) rfl) rfl ?_
  refine wl_call Try.func66 rfl rfl rfl (told_any (us := [.pointer (some ⟨gB1, 0, none⟩)]) (Ψ := fun w A k c => Bs w A k (packT p) ∧ k ≤ c) _ Try.func101 rfl rfl (fun hok w1 e1 => packTextF w1 (B1.ext e1) ((HP.ext E).ext e1) hf (of_decide_eq_true hok))) rfl ?_
  rintro e w3 ⟨A3, k3, c3, z3, rfl, T3, N3, ex⟩
  refine ⟨_, rfl, ?_⟩
  replace E := E.ext ex
  replace B1 := B1.ext ex
  skip
  refine wl_y (y_extract rfl rfl) rfl ?_
  refine wl_y (y_extract rfl rfl) rfl ?_
  refine wl_y (y_assign rfl) rfl ?_
  refine wl_y (y_assign rfl) rfl ?_
  refine wl_nil ?_
  refine wq_then_norm (hK2 ?_)
  refine wc_ret ?_
  refine hret rfl rfl ?_
  exact ⟨A3, k3, c3, z3, rfl, ⟨fun o => ⟨(T3 (decide_eq_true o)).1, (T3 (decide_eq_true o)).2.1⟩, fun o => ⟨(N3 (decide_eq_false o)).1, (N3 (decide_eq_false o)).2.2.1⟩⟩, (by by_cases o : okPack p; exact (T3 (decide_eq_true o)).2.2; have h := N3 (decide_eq_false o); omega), E⟩
theorem PackageBytes_any (w : World) (H : PackAt w cs p) (hf : p.Fit) :
    Calls Try.prog 39 #[.agg cs] w fun e w' => ∃ A k c z, e = .returned (.tuple #[.slice A k c, .int .u8 ((z : Nat) : Int)]) ∧ Told w' (okPack p) (packB p) A k z ∧ k ≤ c ∧ Ext w w' := by
  have HP := H
  obtain ⟨i, h0, h1, h2, h4, h5, gg, rfl, hs, a, b0, b1, b2, b4, b5, c⟩ := H
  have E := Ext.refl w
  refine vc_enter2 10 Try.func39 rfl rfl rfl rfl ?_
  intro Q hret
  refine wc_seq ?_; intro K1 hK1
  refine wc_region ?_
  refine wl_ef (ef_box rfl rfl) rfl ?_
  rintro _ wB1 ⟨gB1, rfl, B1, hgB1, ex⟩
  have lB1 := B1.lt; have zB1 := ex.size
  replace E := E.ext ex
  refine wl_y (y_assign rfl) rfl ?_
  refine wl_y (y_assign rfl) rfl ?_
  refine wl_nil ?_
  refine wq_then_norm (hK1 ?_)
  refine wc_seq ?_; intro K2 hK2
  refine wc_region ?_
  refine wl_y (y_loadx (o := 0) (s := 8) rfl Try.underlying26 rfl (by kernel_rfl) B1 rfl) rfl ?_
  refine wl_call Try.func100 rfl rfl rfl (rightPack_any _ (HP.ext E) hf) rfl ?_
  rintro e w2 ⟨rfl, ex⟩
  refine ⟨_, rfl, ?_⟩
  replace E := E.ext ex
  replace B1 := B1.ext ex
  skip
  refine wl_y (y_func (xs := [.tmp 1]) (vs := [.pointer (some ⟨gB1, 0, none⟩)]) rfl) rfl ?_
  refine wl_call Try.func66 rfl rfl rfl (told_any (us := [.pointer (some ⟨gB1, 0, none⟩)]) (Ψ := fun w A k c => Bs w A k (packB p) ∧ k ≤ c) _ Try.func103 rfl rfl (fun hok w1 e1 => packBytesF w1 (B1.ext e1) ((HP.ext E).ext e1) hf (of_decide_eq_true hok))) rfl ?_
  rintro e w3 ⟨A3, k3, c3, z3, rfl, T3, N3, ex⟩
  refine ⟨_, rfl, ?_⟩
  replace E := E.ext ex
  replace B1 := B1.ext ex
  skip
  refine wl_y (y_extract rfl rfl) rfl ?_
  refine wl_y (y_extract rfl rfl) rfl ?_
  refine wl_y (y_assign rfl) rfl ?_
  refine wl_y (y_assign rfl) rfl ?_
  refine wl_nil ?_
  refine wq_then_norm (hK2 ?_)
  refine wc_ret ?_
  refine hret rfl rfl ?_
  exact ⟨A3, k3, c3, z3, rfl, ⟨fun o => ⟨(T3 (decide_eq_true o)).1, (T3 (decide_eq_true o)).2.1⟩, fun o => ⟨(N3 (decide_eq_false o)).1, (N3 (decide_eq_false o)).2.2.1⟩⟩, (by by_cases o : okPack p; exact (T3 (decide_eq_true o)).2.2; have h := N3 (decide_eq_false o); omega), E⟩
theorem PackageName_any (w : World) (H : PackAt w cs p) (hs' : p.Small) :
    Calls Try.prog 40 #[.agg cs] w fun e w' => ∃ A k c z, e = .returned (.tuple #[.slice A k c, .int .u8 ((z : Nat) : Int)]) ∧ Told w' (okPack p) (packR p) A k z ∧ Ext w w' := by
  have HP := H
  have hf := hs'.fit
  obtain ⟨i, h0, h1, h2, h4, h5, gg, rfl, hs, a, b0, b1, b2, b4, b5, c⟩ := H
  have E := Ext.refl w
  refine vc_enter2 10 Try.func40 rfl rfl rfl rfl ?_
  intro Q hret
  refine wc_seq ?_; intro K1 hK1
  refine wc_region ?_
  refine wl_ef (ef_box rfl rfl) rfl ?_
  rintro _ wB1 ⟨gB1, rfl, B1, hgB1, ex⟩
  have lB1 := B1.lt; have zB1 := ex.size
  replace E := E.ext ex
  refine wl_y (y_assign rfl) rfl ?_
  refine wl_y (y_assign rfl) rfl ?_
  refine wl_nil ?_
  refine wq_then_norm (hK1 ?_)
  refine wc_seq ?_; intro K2 hK2
  refine wc_region ?_
  refine wl_y (y_loadx (o := 0) (s := 8) rfl Try.underlying26 rfl (by kernel_rfl) B1 rfl) rfl ?_
  refine wl_call Try.func100 rfl rfl rfl (rightPack_any _ (HP.ext E) hf) rfl ?_
  rintro e w2 ⟨rfl, ex⟩
  refine ⟨_, rfl, ?_⟩
  replace E := E.ext ex
  replace B1 := B1.ext ex
  skip
  refine wl_y (y_func (xs := [.tmp 1]) (vs := [.pointer (some ⟨gB1, 0, none⟩)]) rfl) rfl ?_
  refine wl_call Try.func66 rfl rfl rfl (told_any (us := [.pointer (some ⟨gB1, 0, none⟩)]) (Ψ := fun w A k c => Bs w A k (packR p)) _ Try.func104 rfl rfl (fun hok w1 e1 => packNameF w1 (B1.ext e1) ((HP.ext E).ext e1) hs' (of_decide_eq_true hok))) rfl ?_
  rintro e w3 ⟨A3, k3, c3, z3, rfl, T3, N3, ex⟩
  refine ⟨_, rfl, ?_⟩
  replace E := E.ext ex
  replace B1 := B1.ext ex
  skip
  refine wl_y (y_extract rfl rfl) rfl ?_
  refine wl_y (y_extract rfl rfl) rfl ?_
  refine wl_y (y_assign rfl) rfl ?_
  refine wl_y (y_assign rfl) rfl ?_
  refine wl_nil ?_
  refine wq_then_norm (hK2 ?_)
  refine wc_ret ?_
  refine hret rfl rfl ?_
  exact ⟨A3, k3, c3, z3, rfl, ⟨fun o => T3 (decide_eq_true o), fun o => ⟨(N3 (decide_eq_false o)).1, (N3 (decide_eq_false o)).2.2.1⟩⟩, E⟩
theorem rpackBytes_any (w : World) (H : PackAt w cs p) (hs' : p.Small) :
    Calls Try.prog 42 #[.agg cs] w fun e w' => ∃ A' k c', e = .returned (.slice A' k c') ∧ Row w' w.heap.size 5 A' k c' ((packB p).map bv) ∧ Ext w w' := by
  have HP := H
  have hl := packT_sm hs'
  have h7 := hs'.2.1
  obtain ⟨i, h0, h1, h2, h4, h5, gg, rfl, hs, a, b0, b1, b2, b4, b5, c⟩ := H
  have lc := c.1
  have E := Ext.refl w
  refine vc_enter1 9 Try.func42 rfl rfl rfl rfl ?_
  intro Q hret
  refine wc_seq ?_; intro K1 hK1
  refine wc_region ?_
  refine wl_ef (ef_box rfl rfl) rfl ?_
  rintro _ wB1 ⟨gB1, rfl, B1, hgB1, ex⟩
  have lB1 := B1.lt; have zB1 := ex.size
  replace E := E.ext ex
  refine wl_y (y_assign rfl) rfl ?_
  refine wl_nil ?_
  refine wq_then_norm (hK1 ?_)
  refine wc_seq ?_; intro K2 hK2
  refine wc_draw (by kernel_rfl) 7 rfl ?_; intro wd1 ex hd1
  replace E := E.ext ex
  replace B1 := B1.ext ex
  refine wm_y 0 rfl (by kernel_rfl) (y_loadx (o := 0) (s := 8) rfl Try.underlying26 rfl (by kernel_rfl) B1 rfl) rfl ?_
  refine wm_y 2 rfl (by kernel_rfl) (y_fieldAddr (o := 7) (s := 1) (off := 0) (o' := 7) rfl Try.underlying26 rfl (by kernel_rfl) rfl rfl) rfl ?_
  refine wm_y 3 rfl (by kernel_rfl) (y_load1 rfl Try.underlying22 rfl (B1.get (i := 7) rfl)) rfl ?_
  refine wm_one 1 (by kernel_rfl) ?_; refine om_call rfl Try.func41 rfl rfl rfl (rpackText_any _ (HP.ext E) hs') rfl ?_
  rintro e w2 ⟨A2, k2, c2, rfl, R2, ex⟩
  refine ⟨_, rfl, .inr ex, ?_⟩
  replace E := E.ext ex
  replace B1 := B1.ext ex
  have hk2 := R2.bs.1
  refine wm_one 4 (by kernel_rfl) ?_; refine om_call rfl Try.func82 rfl rfl rfl (vec20_any gg.A gg.n gg.c _ _ (Bs.ext c E) (by omega)) rfl ?_
  rintro e w3 ⟨A3, k3, c3, rfl, R3, hk3, ex⟩
  refine ⟨_, rfl, .inr ex, ?_⟩
  replace E := E.ext ex
  replace B1 := B1.ext ex
  replace R2 := R2.ext ex
  have hl3 := lsz_le gg.n
  have hz5 := E.size
  refine wm_one 5 (by kernel_rfl) ?_; refine om_call rfl Try.func76 rfl rfl rfl (join20_any A2 A3 k2 c2 k3 c3 _ _ _ R2.bs (by omega) R3.bs (by omega)) rfl ?_
  rintro e w4 ⟨A4, c4, rfl, R4, ex⟩
  refine ⟨_, rfl, .inr ex, ?_⟩
  replace E := E.ext ex
  replace B1 := B1.ext ex
  replace R2 := R2.ext ex
  replace R3 := R3.ext ex
  skip
  refine wm_y 6 rfl (by kernel_rfl) (y_assign rfl) rfl ?_
  refine wm_done (by kernel_rfl) ?_
  refine wq_nop ?_
  refine wq_then_norm (hK2 ?_)
  refine wc_ret ?_
  refine hret rfl ?_
  exact ⟨A4, _, c4, rfl, R4.lower hz5, E⟩
theorem rpackName_any (w : World) (H : PackAt w cs p) (hs' : p.Small) :
    Calls Try.prog 43 #[.agg cs] w fun e w' => ∃ A' c', e = .returned (.slice A' 32 c') ∧ Bs w' A' 32 (packR p) ∧ Ext w w' := by
  have HP := H
  have hl := packB_sm hs'
  obtain ⟨i, h0, h1, h2, h4, h5, gg, rfl, hs, a, b0, b1, b2, b4, b5, c⟩ := H
  have E := Ext.refl w
  refine vc_enter1 6 Try.func43 rfl rfl rfl rfl ?_
  intro Q hret
  refine wc_seq ?_; intro K1 hK1
  refine wc_region ?_
  refine wl_ef (ef_box rfl rfl) rfl ?_
  rintro _ wB1 ⟨gB1, rfl, B1, hgB1, ex⟩
  have lB1 := B1.lt; have zB1 := ex.size
  replace E := E.ext ex
  refine wl_y (y_assign rfl) rfl ?_
  refine wl_nil ?_
  refine wq_then_norm (hK1 ?_)
  refine wc_seq ?_; intro K2 hK2
  refine wc_region ?_
  refine wl_y (y_loadx (o := 0) (s := 8) rfl Try.underlying26 rfl (by kernel_rfl) B1 rfl) rfl ?_
  refine wl_call Try.func42 rfl rfl rfl (rpackBytes_any _ (HP.ext E) hs') rfl ?_
  rintro e w2 ⟨A2, k2, c2, rfl, R2, ex⟩
  refine ⟨_, rfl, ?_⟩
  replace E := E.ext ex
  replace B1 := B1.ext ex
  have hk2 := R2.bs.1
  refine wl_call Try.func106 rfl rfl rfl (refRef_any A2 k2 c2 packN _ _ R2.bs packN_size (by omega)) rfl ?_
  rintro e w3 ⟨A3, c3, rfl, H3, ex⟩
  refine ⟨_, rfl, ?_⟩
  replace E := E.ext ex
  replace B1 := B1.ext ex
  replace R2 := R2.ext ex
  skip
  refine wl_y (y_assign rfl) rfl ?_
  refine wl_nil ?_
  refine wq_then_norm (hK2 ?_)
  refine wc_ret ?_
  refine hret rfl ?_
  exact ⟨A3, c3, rfl, H3, E⟩
end
end Go.Proofs.Ytpgalbgonmclaaa
