/- The reference's infos, welcomes and secrets of bytes; a guest's secrets: what msg and the reference hand back. No conditions: contracts of functions. -/
import Derived.Test.YtpgalbgonmclaaaMuC
import Derived.Test.YtpgalbgonmclaaaPlA
namespace Go.Proofs.Ytpgalbgonmclaaa
open Go.RowKit
attribute [local irreducible] Y Ef WL WC WK WQ WM OpM WN WF OpN WJ OpJ WG OpG
open Wire Nd M20
theorem PlS.get {A0 : Option Addr} {n0 : Nat} {b0 : List UInt8} {cs : Array Value} {s : St} (h : PlS A0 n0 b0 cs s) : ∃ A n c at_ e, cs = placeV A n c at_ e ∧ PlS A0 n0 b0 (placeV A n c at_ e) s := by
  have H := h
  obtain ⟨A, n, c, at_, e, b, rfl, _⟩ := h
  exact ⟨A, n, c, at_, e, rfl, H⟩
def InfS (A0 : Option Addr) (n0 : Nat) (b0 : List UInt8) (cs : Array Value) (x : Inf) : Prop := InfC (fun h xs => Sub A0 n0 b0 h.A h.n xs) cs x
theorem InfS.at {A0 : Option Addr} {n0 : Nat} {b0 : List UInt8} {cs : Array Value} {x : Inf} {w : World} (h : InfS A0 n0 b0 cs x) (HA : Bs w A0 n0 b0) : InfAt w cs x := InfC.imp h fun _ _ s => s w HA
theorem InfS.zero (A0 : Option Addr) (n0 : Nat) (b0 : List UInt8) : InfS A0 n0 b0 zInfV Inf.zero := ⟨_, _, _, _, _, rfl, (by decide), (by decide), Sub.nil _ _ _, Sub.nil _ _ _, Sub.nil _ _ _, Sub.nil _ _ _, Sub.nil _ _ _⟩
theorem rInfoOf_any {A : Option Addr} {n c : Nat} {b : List UInt8} (w : World) (HA : Bs w A n b) (hc : n ≤ c) (hn : n ≤ 10000) :
    Calls Try.prog 48 #[.slice A n c] w fun e w' => ∃ cs, e = .returned (.tuple #[.agg cs, .int .i64 (((infOf b).2 : Nat) : Int)]) ∧ InfS A n b cs (infOf b).1 ∧ Ext w w' := by
  have F := Chs.refl [] w
  have KA : Kp w.heap.size [] (fun w => Bs w A n b) w := Kp.bs HA (by simp)
  have hbl := HA.1
  have P := PlS.whole (A0 := A) (b0 := b) hc (by omega) hbl
  obtain ⟨g, hg⟩ : ∃ g, g = vecX (justX 2 1 (justX 2 1 (.ok b))) := ⟨_, rfl⟩
  obtain ⟨e, he⟩ : ∃ e, e = numX 8 g.2 := ⟨_, rfl⟩
  obtain ⟨t, ht⟩ : ∃ t, t = vecX e.2 := ⟨_, rfl⟩
  obtain ⟨u, hu⟩ : ∃ u, u = vecX t.2 := ⟨_, rfl⟩
  obtain ⟨q, hq⟩ : ∃ q, q = vecX (justX 1 0 (justX 1 0 u.2)) := ⟨_, rfl⟩
  obtain ⟨f, hf⟩ : ∃ f, f = numX 4 q.2 := ⟨_, rfl⟩
  obtain ⟨z, hz⟩ : ∃ z, z = vecX f.2 := ⟨_, rfl⟩
  have hX : infX (.ok b) = (⟨⟨g.1, e.1, t.1, u.1⟩, q.1, (f.1 : Int), z.1⟩, z.2) := by rw [hz, hf, hq, hu, ht, he, hg]; rfl
  have he8 : e.1 < 18446744073709551616 := by rw [he]; exact numX_lt 8 _
  have hf4 : f.1 < 4294967296 := by rw [hf]; exact numX_lt 4 _
  have hO : infOf b = wholeX Inf.zero (infX (.ok b)) (decide (okInf (infX (.ok b)).1)) := rfl
  rw [hX] at hO
  refine vc_enterct (s := 7) 80 Try.func48 rfl rfl rfl Try.underlying67 rfl (by kernel_rfl) rfl ?_
  intro Q hret
  refine wc_seq ?_; intro K1 hK1
  refine wc_region ?_
  refine wl_ef (ef_alloc (Z := #[.slice none 0 0, .int .u64 0, .slice none 0 0, .slice none 0 0, .slice none 0 0, .int .i64 0, .slice none 0 0]) (by kernel_rfl)) rfl ?_
  rintro _ wB2 ⟨gB2, rfl, B2, hgB2, ex⟩
  have lB2 := B2.lt; have zB2 := ex.size
  replace F := F.grow ex hgB2
  replace KA := KA.grow ex hgB2
  refine wl_y (y_assign rfl) rfl ?_
  refine wl_nil ?_
  refine wq_then_norm (hK1 ?_)
  refine wc_seq ?_; intro K2 hK2
  refine wc_region ?_
  refine wl_ef (ef_alloc (Z := #[.slice none 0 0, .int .u64 0, .slice none 0 0, .slice none 0 0, .slice none 0 0, .int .i64 0, .slice none 0 0]) (by kernel_rfl)) rfl ?_
  rintro _ wB4 ⟨gB4, rfl, B4, hgB4, ex⟩
  have lB4 := B4.lt; have zB4 := ex.size
  have nB2_4 : gB2 < gB4 := Nat.lt_of_lt_of_le B2.lt hgB4
  replace F := F.grow ex hgB4
  replace KA := KA.grow ex hgB4
  replace B2 := B2.grow ex hgB4
  refine wl_nil ?_
  refine wq_then_norm (hK2 ?_)
  refine wc_seq ?_; intro K3 hK3
  refine wc_seq ?_; intro K4 hK4
  refine wc_region ?_
  refine wl_y (y_move rfl) rfl ?_
  refine wl_y (y_len_slice rfl Try.underlying22) rfl ?_
  refine wl_y (y_gtr rfl rfl) rfl ?_
  refine wl_nil ?_
  refine wq_then_norm (hK4 ?_)
  refine wc_no rfl (by omega) ?_
  refine wc_skip ?_
  refine wq_then_norm (hK3 ?_)
  refine wc_seq ?_; intro K5 hK5
  refine wc_region ?_
  refine wl_y (y_move rfl) rfl ?_
  refine wl_y (y_build rfl (cells := placeV A n c 0 0) (by kernel_rfl)) rfl ?_
  refine wl_call Try.func118 rfl rfl rfl (pljust_any 2 1 2 1 rfl rfl _ KA.out P (by omega)) rfl ?_
  rintro e w4 ⟨cs4, rfl, P, ex⟩
  refine ⟨_, rfl, ?_⟩
  replace F := F.ext ex
  replace KA := KA.ext ex
  replace B2 := B2.ext ex
  replace B4 := B4.ext ex
  obtain ⟨A4, n4, c4, t4, e4, rfl, P⟩ := P.get
  refine wl_ef (ef_alloc (Z := #[.slice none 0 0, .int .i64 0, .int .i64 0]) (by kernel_rfl)) rfl ?_
  rintro _ wB5 ⟨gB5, rfl, B5, hgB5, ex⟩
  have lB5 := B5.lt; have zB5 := ex.size
  have nB2_5 : gB2 < gB5 := Nat.lt_of_lt_of_le B2.lt hgB5
  have nB4_5 : gB4 < gB5 := Nat.lt_of_lt_of_le B4.lt hgB5
  replace F := F.grow ex hgB5
  replace KA := KA.grow ex hgB5
  replace B2 := B2.grow ex hgB5
  replace B4 := B4.grow ex hgB5
  refine wl_ef (ef_storeP (o := 0) rfl rfl (by kernel_rfl) B5 (Nat.le_of_ble_eq_true rfl) (all_ones rfl)) rfl ?_
  rintro _ wS4_4 ⟨rfl, D, cg⟩
  have ex := Chs.one cg
  clear cg
  replace F := F.chs ex
  replace KA := KA.chs ex
  replace B2 := B2.chs ex
  replace B4 := B4.chs ex
  replace B5 := D; clear D
  replace B5 := B5.congr (cs' := placeV A4 n4 c4 t4 e4) rfl
  refine wl_nil ?_
  refine wq_then_norm (hK5 ?_)
  refine wc_seq ?_; intro K6 hK6
  refine wc_region ?_
  refine wl_y (y_loadw rfl Try.underlying134 rfl (by kernel_rfl) B5) rfl ?_
  refine wl_call Try.func118 rfl rfl rfl (pljust_any 2 1 2 1 rfl rfl _ KA.out P (by omega)) rfl ?_
  rintro e w5 ⟨cs5, rfl, P, ex⟩
  refine ⟨_, rfl, ?_⟩
  replace F := F.ext ex
  replace KA := KA.ext ex
  replace B2 := B2.ext ex
  replace B4 := B4.ext ex
  replace B5 := B5.ext ex
  obtain ⟨A5, n5, c5, t5, e5, rfl, P⟩ := P.get
  refine wl_ef (ef_storeP (o := 0) rfl rfl (by kernel_rfl) B5 (Nat.le_of_ble_eq_true rfl) (all_ones rfl)) rfl ?_
  rintro _ wS5_2 ⟨rfl, D, cg⟩
  have ex := Chs.one cg
  clear cg
  replace F := F.chs ex
  replace KA := KA.chs ex
  replace B2 := B2.chs ex
  replace B4 := B4.chs ex
  replace B5 := D; clear D
  replace B5 := B5.congr (cs' := placeV A5 n5 c5 t5 e5) rfl
  refine wl_nil ?_
  refine wq_then_norm (hK6 ?_)
  refine wc_seq ?_; intro K7 hK7
  refine wc_region ?_
  refine wl_y (y_loadw rfl Try.underlying134 rfl (by kernel_rfl) B5) rfl ?_
  refine wl_call Try.func119 rfl rfl rfl (plvec_any _ KA.out P) rfl ?_
  rintro e w6 ⟨h6, cs6, rfl, Sh6, lh6, mh6, uh6, P, ex⟩
  refine ⟨_, rfl, ?_⟩
  replace F := F.ext ex
  replace KA := KA.ext ex
  replace B2 := B2.ext ex
  replace B4 := B4.ext ex
  replace B5 := B5.ext ex
  rw [← hg] at P Sh6 lh6; obtain ⟨A6, n6, c6, t6, e6, rfl, P⟩ := P.get
  refine wl_y (y_move rfl) rfl ?_
  refine wl_y (y_extract rfl rfl) rfl ?_
  refine wl_y (y_extract rfl rfl) rfl ?_
  refine wl_y (y_fieldAddr (o := 0) (s := 4) (off := 0) (o' := 0) rfl Try.underlying67 rfl (by kernel_rfl) rfl rfl) rfl ?_
  refine wl_y (y_fieldAddr (o := 0) (s := 1) (off := 0) (o' := 0) rfl Try.underlying50 rfl (by kernel_rfl) rfl rfl) rfl ?_
  refine wl_ef (ef_storeB (i := 0) rfl rfl rfl (by kernel_rfl) B4 (Nat.le_of_ble_eq_true rfl)) rfl ?_
  rintro _ wS6_7 ⟨rfl, D, cg⟩
  have ex := Chs.one cg
  clear cg
  replace F := F.chs ex
  replace KA := KA.chs ex
  replace B2 := B2.chs ex
  replace B5 := B5.chs ex
  replace B4 := D; clear D
  refine wl_ef (ef_storeP (o := 0) rfl rfl (by kernel_rfl) B5 (Nat.le_of_ble_eq_true rfl) (all_ones rfl)) rfl ?_
  rintro _ wS6_8 ⟨rfl, D, cg⟩
  have ex := Chs.one cg
  clear cg
  replace F := F.chs ex
  replace KA := KA.chs ex
  replace B2 := B2.chs ex
  replace B4 := B4.chs ex
  replace B5 := D; clear D
  replace B5 := B5.congr (cs' := placeV A6 n6 c6 t6 e6) rfl
  refine wl_nil ?_
  refine wq_then_norm (hK7 ?_)
  refine wc_seq ?_; intro K8 hK8
  refine wc_region ?_
  refine wl_y (y_loadw rfl Try.underlying134 rfl (by kernel_rfl) B5) rfl ?_
  refine wl_call Try.func120 rfl rfl rfl (plnum_any 8 8 rfl _ KA.out P (by omega)) rfl ?_
  rintro e w7 ⟨cs7, rfl, P, ex⟩
  refine ⟨_, rfl, ?_⟩
  replace F := F.ext ex
  replace KA := KA.ext ex
  replace B2 := B2.ext ex
  replace B4 := B4.ext ex
  replace B5 := B5.ext ex
  rw [← he] at P ⊢; obtain ⟨A7, n7, c7, t7, e7, rfl, P⟩ := P.get
  refine wl_y (y_move rfl) rfl ?_
  refine wl_y (y_extract rfl rfl) rfl ?_
  refine wl_y (y_extract rfl rfl) rfl ?_
  refine wl_y (y_fieldAddr (o := 0) (s := 4) (off := 0) (o' := 0) rfl Try.underlying67 rfl (by kernel_rfl) rfl rfl) rfl ?_
  refine wl_y (y_fieldAddr (o := 1) (s := 1) (off := 0) (o' := 1) rfl Try.underlying50 rfl (by kernel_rfl) rfl rfl) rfl ?_
  refine wl_ef (ef_storeB (i := 1) rfl rfl rfl (by kernel_rfl) B4 (Nat.le_of_ble_eq_true rfl)) rfl ?_
  rintro _ wS7_7 ⟨rfl, D, cg⟩
  have ex := Chs.one cg
  clear cg
  replace F := F.chs ex
  replace KA := KA.chs ex
  replace B2 := B2.chs ex
  replace B5 := B5.chs ex
  replace B4 := D; clear D
  refine wl_ef (ef_storeP (o := 0) rfl rfl (by kernel_rfl) B5 (Nat.le_of_ble_eq_true rfl) (all_ones rfl)) rfl ?_
  rintro _ wS7_8 ⟨rfl, D, cg⟩
  have ex := Chs.one cg
  clear cg
  replace F := F.chs ex
  replace KA := KA.chs ex
  replace B2 := B2.chs ex
  replace B4 := B4.chs ex
  replace B5 := D; clear D
  replace B5 := B5.congr (cs' := placeV A7 n7 c7 t7 e7) rfl
  refine wl_nil ?_
  refine wq_then_norm (hK8 ?_)
  refine wc_seq ?_; intro K9 hK9
  refine wc_region ?_
  refine wl_y (y_loadw rfl Try.underlying134 rfl (by kernel_rfl) B5) rfl ?_
  refine wl_call Try.func119 rfl rfl rfl (plvec_any _ KA.out P) rfl ?_
  rintro e w8 ⟨h8, cs8, rfl, Sh8, lh8, mh8, uh8, P, ex⟩
  refine ⟨_, rfl, ?_⟩
  replace F := F.ext ex
  replace KA := KA.ext ex
  replace B2 := B2.ext ex
  replace B4 := B4.ext ex
  replace B5 := B5.ext ex
  rw [← ht] at P Sh8 lh8; obtain ⟨A8, n8, c8, t8, e8, rfl, P⟩ := P.get
  refine wl_y (y_move rfl) rfl ?_
  refine wl_y (y_extract rfl rfl) rfl ?_
  refine wl_y (y_extract rfl rfl) rfl ?_
  refine wl_y (y_fieldAddr (o := 0) (s := 4) (off := 0) (o' := 0) rfl Try.underlying67 rfl (by kernel_rfl) rfl rfl) rfl ?_
  refine wl_y (y_fieldAddr (o := 2) (s := 1) (off := 0) (o' := 2) rfl Try.underlying50 rfl (by kernel_rfl) rfl rfl) rfl ?_
  refine wl_ef (ef_storeB (i := 2) rfl rfl rfl (by kernel_rfl) B4 (Nat.le_of_ble_eq_true rfl)) rfl ?_
  rintro _ wS8_7 ⟨rfl, D, cg⟩
  have ex := Chs.one cg
  clear cg
  replace F := F.chs ex
  replace KA := KA.chs ex
  replace B2 := B2.chs ex
  replace B5 := B5.chs ex
  replace B4 := D; clear D
  refine wl_ef (ef_storeP (o := 0) rfl rfl (by kernel_rfl) B5 (Nat.le_of_ble_eq_true rfl) (all_ones rfl)) rfl ?_
  rintro _ wS8_8 ⟨rfl, D, cg⟩
  have ex := Chs.one cg
  clear cg
  replace F := F.chs ex
  replace KA := KA.chs ex
  replace B2 := B2.chs ex
  replace B4 := B4.chs ex
  replace B5 := D; clear D
  replace B5 := B5.congr (cs' := placeV A8 n8 c8 t8 e8) rfl
  refine wl_nil ?_
  refine wq_then_norm (hK9 ?_)
  refine wc_seq ?_; intro K10 hK10
  refine wc_region ?_
  refine wl_y (y_loadw rfl Try.underlying134 rfl (by kernel_rfl) B5) rfl ?_
  refine wl_call Try.func119 rfl rfl rfl (plvec_any _ KA.out P) rfl ?_
  rintro e w9 ⟨h9, cs9, rfl, Sh9, lh9, mh9, uh9, P, ex⟩
  refine ⟨_, rfl, ?_⟩
  replace F := F.ext ex
  replace KA := KA.ext ex
  replace B2 := B2.ext ex
  replace B4 := B4.ext ex
  replace B5 := B5.ext ex
  rw [← hu] at P Sh9 lh9; obtain ⟨A9, n9, c9, t9, e9, rfl, P⟩ := P.get
  refine wl_y (y_move rfl) rfl ?_
  refine wl_y (y_extract rfl rfl) rfl ?_
  refine wl_y (y_extract rfl rfl) rfl ?_
  refine wl_y (y_fieldAddr (o := 0) (s := 4) (off := 0) (o' := 0) rfl Try.underlying67 rfl (by kernel_rfl) rfl rfl) rfl ?_
  refine wl_y (y_fieldAddr (o := 3) (s := 1) (off := 0) (o' := 3) rfl Try.underlying50 rfl (by kernel_rfl) rfl rfl) rfl ?_
  refine wl_ef (ef_storeB (i := 3) rfl rfl rfl (by kernel_rfl) B4 (Nat.le_of_ble_eq_true rfl)) rfl ?_
  rintro _ wS9_7 ⟨rfl, D, cg⟩
  have ex := Chs.one cg
  clear cg
  replace F := F.chs ex
  replace KA := KA.chs ex
  replace B2 := B2.chs ex
  replace B5 := B5.chs ex
  replace B4 := D; clear D
  refine wl_ef (ef_storeP (o := 0) rfl rfl (by kernel_rfl) B5 (Nat.le_of_ble_eq_true rfl) (all_ones rfl)) rfl ?_
  rintro _ wS9_8 ⟨rfl, D, cg⟩
  have ex := Chs.one cg
  clear cg
  replace F := F.chs ex
  replace KA := KA.chs ex
  replace B2 := B2.chs ex
  replace B4 := B4.chs ex
  replace B5 := D; clear D
  replace B5 := B5.congr (cs' := placeV A9 n9 c9 t9 e9) rfl
  refine wl_nil ?_
  refine wq_then_norm (hK10 ?_)
  refine wc_seq ?_; intro K11 hK11
  refine wc_region ?_
  refine wl_y (y_loadw rfl Try.underlying134 rfl (by kernel_rfl) B5) rfl ?_
  refine wl_call Try.func118 rfl rfl rfl (pljust_any 1 0 1 0 rfl rfl _ KA.out P (by omega)) rfl ?_
  rintro e w10 ⟨cs10, rfl, P, ex⟩
  refine ⟨_, rfl, ?_⟩
  replace F := F.ext ex
  replace KA := KA.ext ex
  replace B2 := B2.ext ex
  replace B4 := B4.ext ex
  replace B5 := B5.ext ex
  obtain ⟨A10, n10, c10, t10, e10, rfl, P⟩ := P.get
  refine wl_ef (ef_storeP (o := 0) rfl rfl (by kernel_rfl) B5 (Nat.le_of_ble_eq_true rfl) (all_ones rfl)) rfl ?_
  rintro _ wS10_2 ⟨rfl, D, cg⟩
  have ex := Chs.one cg
  clear cg
  replace F := F.chs ex
  replace KA := KA.chs ex
  replace B2 := B2.chs ex
  replace B4 := B4.chs ex
  replace B5 := D; clear D
  replace B5 := B5.congr (cs' := placeV A10 n10 c10 t10 e10) rfl
  refine wl_nil ?_
  refine wq_then_norm (hK11 ?_)
  refine wc_seq ?_; intro K12 hK12
  refine wc_region ?_
  refine wl_y (y_loadw rfl Try.underlying134 rfl (by kernel_rfl) B5) rfl ?_
  refine wl_call Try.func118 rfl rfl rfl (pljust_any 1 0 1 0 rfl rfl _ KA.out P (by omega)) rfl ?_
  rintro e w11 ⟨cs11, rfl, P, ex⟩
  refine ⟨_, rfl, ?_⟩
  replace F := F.ext ex
  replace KA := KA.ext ex
  replace B2 := B2.ext ex
  replace B4 := B4.ext ex
  replace B5 := B5.ext ex
  obtain ⟨A11, n11, c11, t11, e11, rfl, P⟩ := P.get
  refine wl_ef (ef_storeP (o := 0) rfl rfl (by kernel_rfl) B5 (Nat.le_of_ble_eq_true rfl) (all_ones rfl)) rfl ?_
  rintro _ wS11_2 ⟨rfl, D, cg⟩
  have ex := Chs.one cg
  clear cg
  replace F := F.chs ex
  replace KA := KA.chs ex
  replace B2 := B2.chs ex
  replace B4 := B4.chs ex
  replace B5 := D; clear D
  replace B5 := B5.congr (cs' := placeV A11 n11 c11 t11 e11) rfl
  refine wl_nil ?_
  refine wq_then_norm (hK12 ?_)
  refine wc_seq ?_; intro K13 hK13
  refine wc_region ?_
  refine wl_y (y_loadw rfl Try.underlying134 rfl (by kernel_rfl) B5) rfl ?_
  refine wl_call Try.func119 rfl rfl rfl (plvec_any _ KA.out P) rfl ?_
  rintro e w12 ⟨h12, cs12, rfl, Sh12, lh12, mh12, uh12, P, ex⟩
  refine ⟨_, rfl, ?_⟩
  replace F := F.ext ex
  replace KA := KA.ext ex
  replace B2 := B2.ext ex
  replace B4 := B4.ext ex
  replace B5 := B5.ext ex
  rw [← hq] at P Sh12 lh12; obtain ⟨A12, n12, c12, t12, e12, rfl, P⟩ := P.get
  refine wl_y (y_move rfl) rfl ?_
  refine wl_y (y_extract rfl rfl) rfl ?_
  refine wl_y (y_extract rfl rfl) rfl ?_
  refine wl_y (y_fieldAddr (o := 4) (s := 1) (off := 0) (o' := 4) rfl Try.underlying67 rfl (by kernel_rfl) rfl rfl) rfl ?_
  refine wl_ef (ef_storeB (i := 4) rfl rfl rfl (by kernel_rfl) B4 (Nat.le_of_ble_eq_true rfl)) rfl ?_
  rintro _ wS12_6 ⟨rfl, D, cg⟩
  have ex := Chs.one cg
  clear cg
  replace F := F.chs ex
  replace KA := KA.chs ex
  replace B2 := B2.chs ex
  replace B5 := B5.chs ex
  replace B4 := D; clear D
  refine wl_ef (ef_storeP (o := 0) rfl rfl (by kernel_rfl) B5 (Nat.le_of_ble_eq_true rfl) (all_ones rfl)) rfl ?_
  rintro _ wS12_7 ⟨rfl, D, cg⟩
  have ex := Chs.one cg
  clear cg
  replace F := F.chs ex
  replace KA := KA.chs ex
  replace B2 := B2.chs ex
  replace B4 := B4.chs ex
  replace B5 := D; clear D
  replace B5 := B5.congr (cs' := placeV A12 n12 c12 t12 e12) rfl
  refine wl_nil ?_
  refine wq_then_norm (hK13 ?_)
  refine wc_seq ?_; intro K14 hK14
  refine wc_region ?_
  refine wl_y (y_loadw rfl Try.underlying134 rfl (by kernel_rfl) B5) rfl ?_
  refine wl_call Try.func120 rfl rfl rfl (plnum_any 4 4 rfl _ KA.out P (by omega)) rfl ?_
  rintro e w13 ⟨cs13, rfl, P, ex⟩
  refine ⟨_, rfl, ?_⟩
  replace F := F.ext ex
  replace KA := KA.ext ex
  replace B2 := B2.ext ex
  replace B4 := B4.ext ex
  replace B5 := B5.ext ex
  rw [← hf] at P ⊢; obtain ⟨A13, n13, c13, t13, e13, rfl, P⟩ := P.get
  refine wl_y (y_move rfl) rfl ?_
  refine wl_y (y_extract rfl rfl) rfl ?_
  refine wl_y (y_extract rfl rfl) rfl ?_
  refine wl_y (y_assign rfl) rfl ?_
  refine wl_ef (ef_storeP (o := 0) rfl rfl (by kernel_rfl) B5 (Nat.le_of_ble_eq_true rfl) (all_ones rfl)) rfl ?_
  rintro _ wS13_6 ⟨rfl, D, cg⟩
  have ex := Chs.one cg
  clear cg
  replace F := F.chs ex
  replace KA := KA.chs ex
  replace B2 := B2.chs ex
  replace B4 := B4.chs ex
  replace B5 := D; clear D
  replace B5 := B5.congr (cs' := placeV A13 n13 c13 t13 e13) rfl
  refine wl_nil ?_
  refine wq_then_norm (hK14 ?_)
  refine wc_seq ?_; intro K15 hK15
  refine wc_region ?_
  refine wl_y (y_move rfl) rfl ?_
  refine wl_y (y_conv rfl Try.underlying46 Try.underlying3 (i64_ok (by omega) (by omega))) rfl ?_
  refine wl_y (y_fieldAddr (o := 5) (s := 1) (off := 0) (o' := 5) rfl Try.underlying67 rfl (by kernel_rfl) rfl rfl) rfl ?_
  refine wl_ef (ef_storeB (i := 5) rfl rfl rfl (by kernel_rfl) B4 (Nat.le_of_ble_eq_true rfl)) rfl ?_
  rintro _ wS14_3 ⟨rfl, D, cg⟩
  have ex := Chs.one cg
  clear cg
  replace F := F.chs ex
  replace KA := KA.chs ex
  replace B2 := B2.chs ex
  replace B5 := B5.chs ex
  replace B4 := D; clear D
  refine wl_nil ?_
  refine wq_then_norm (hK15 ?_)
  refine wc_seq ?_; intro K16 hK16
  refine wc_region ?_
  refine wl_y (y_loadw rfl Try.underlying134 rfl (by kernel_rfl) B5) rfl ?_
  refine wl_call Try.func119 rfl rfl rfl (plvec_any _ KA.out P) rfl ?_
  rintro e w15 ⟨h15, cs15, rfl, Sh15, lh15, mh15, uh15, P, ex⟩
  refine ⟨_, rfl, ?_⟩
  replace F := F.ext ex
  replace KA := KA.ext ex
  replace B2 := B2.ext ex
  replace B4 := B4.ext ex
  replace B5 := B5.ext ex
  rw [← hz] at P Sh15 lh15; obtain ⟨A15, n15, c15, t15, e15, rfl, P⟩ := P.get
  refine wl_y (y_move rfl) rfl ?_
  refine wl_y (y_extract rfl rfl) rfl ?_
  refine wl_y (y_extract rfl rfl) rfl ?_
  refine wl_y (y_fieldAddr (o := 6) (s := 1) (off := 0) (o' := 6) rfl Try.underlying67 rfl (by kernel_rfl) rfl rfl) rfl ?_
  refine wl_ef (ef_storeB (i := 6) rfl rfl rfl (by kernel_rfl) B4 (Nat.le_of_ble_eq_true rfl)) rfl ?_
  rintro _ wS15_6 ⟨rfl, D, cg⟩
  have ex := Chs.one cg
  clear cg
  replace F := F.chs ex
  replace KA := KA.chs ex
  replace B2 := B2.chs ex
  replace B5 := B5.chs ex
  replace B4 := D; clear D
  refine wl_ef (ef_storeP (o := 0) rfl rfl (by kernel_rfl) B5 (Nat.le_of_ble_eq_true rfl) (all_ones rfl)) rfl ?_
  rintro _ wS15_7 ⟨rfl, D, cg⟩
  have ex := Chs.one cg
  clear cg
  replace F := F.chs ex
  replace KA := KA.chs ex
  replace B2 := B2.chs ex
  replace B4 := B4.chs ex
  replace B5 := D; clear D
  replace B5 := B5.congr (cs' := placeV A15 n15 c15 t15 e15) rfl
  refine wl_nil ?_
  refine wq_then_norm (hK16 ?_)
  refine wc_seq ?_; intro K17 hK17
  refine wc_seq ?_; intro K18 hK18
  refine wc_region ?_
  refine wl_y (y_loadw rfl Try.underlying134 rfl (by kernel_rfl) B5) rfl ?_
  refine wl_call Try.func121 rfl rfl rfl (plend_any _ P) rfl ?_
  rintro e w16 ⟨rfl, ex⟩
  refine ⟨_, rfl, ?_⟩
  replace F := F.ext ex
  replace KA := KA.ext ex
  replace B2 := B2.ext ex
  replace B4 := B4.ext ex
  replace B5 := B5.ext ex
  have IS : InfS A n b (infV h6 e.1 h8 h9 h12 (f.1 : Int) h15) ⟨⟨g.1, e.1, t.1, u.1⟩, q.1, (f.1 : Int), z.1⟩ := ⟨_, _, _, _, _, rfl, he8, (by show (-9223372036854775808 : Int) ≤ (f.1 : Int) ∧ (f.1 : Int) ≤ 9223372036854775807; omega), Sh6, Sh8, Sh9, Sh12, Sh15⟩
  refine wl_y (y_assign rfl) rfl ?_
  refine wl_nil ?_
  refine wq_then_norm (hK18 ?_)
  refine wc_seq ?_; intro K19 hK19
  refine wc_region ?_
  replace B4 := B4.congr (cs' := infV h6 e.1 h8 h9 h12 (f.1 : Int) h15) rfl
  refine wl_y (y_move rfl) rfl ?_
  refine wl_y (y_neq rfl rfl) rfl ?_
  refine wl_nil ?_
  refine wq_then_norm (hK19 ?_)
  refine wc_dec rfl (fun hc2 => ?_) (fun hc2 => ?_)
  · skip
    refine wc_seq ?_; intro K20 hK20
    refine wc_region ?_
    refine wl_y (y_build rfl (cells := zInfV) (by kernel_rfl)) rfl ?_
    refine wl_y (y_move rfl) rfl ?_
    refine wl_ef (ef_storeP (o := 0) rfl rfl (by kernel_rfl) B2 (Nat.le_of_ble_eq_true rfl) (all_ones rfl)) rfl ?_
    rintro _ wS18_2 ⟨rfl, D, cg⟩
    have ex := Chs.one cg
    clear cg
    replace F := F.chs ex
    replace KA := KA.chs ex
    replace B4 := B4.chs ex
    replace B5 := B5.chs ex
    replace B2 := D; clear D
    replace B2 := B2.congr (cs' := zInfV) rfl
    refine wl_y (y_assign rfl) rfl ?_
    refine wl_nil ?_
    refine wq_then_norm (hK20 ?_)
    refine wc_ret ?_
    refine wq_then_ret ?_
    refine hret rfl rfl B2 rfl ?_
    rw [hO]; unfold wholeX; rw [if_pos (show endX z.2 ≠ 0 by omega)]; exact ⟨_, rfl, InfS.zero _ _ _, (((F.drop (by omega)).drop (by omega)).drop (by omega)) |>.toExt (by simp)⟩
  · skip
    refine wc_skip ?_
    refine wq_then_norm (hK17 ?_)
    refine wc_seq ?_; intro K21 hK21
    refine wc_seq ?_; intro K22 hK22
    refine wc_region ?_
    refine wl_y (y_loadw rfl Try.underlying67 rfl (by kernel_rfl) B4) rfl ?_
    refine wl_call Try.func44 rfl rfl rfl (rInfo_any _ (IS.at KA.out)) rfl ?_
    rintro e w19 ⟨rfl, ex⟩
    refine ⟨_, rfl, ?_⟩
    replace F := F.ext ex
    replace KA := KA.ext ex
    replace B2 := B2.ext ex
    replace B4 := B4.ext ex
    replace B5 := B5.ext ex
    skip
    refine wl_y (y_not rfl) rfl ?_
    refine wl_nil ?_
    refine wq_then_norm (hK22 ?_)
    refine wc_cond rfl (fun hc3 => ?_) (fun hc3 => ?_)
    · skip
      refine wc_seq ?_; intro K23 hK23
      refine wc_region ?_
      refine wl_y (y_build rfl (cells := zInfV) (by kernel_rfl)) rfl ?_
      refine wl_ef (ef_storeP (o := 0) rfl rfl (by kernel_rfl) B2 (Nat.le_of_ble_eq_true rfl) (all_ones rfl)) rfl ?_
      rintro _ wS20_1 ⟨rfl, D, cg⟩
      have ex := Chs.one cg
      clear cg
      replace F := F.chs ex
      replace KA := KA.chs ex
      replace B4 := B4.chs ex
      replace B5 := B5.chs ex
      replace B2 := D; clear D
      replace B2 := B2.congr (cs' := zInfV) rfl
      refine wl_y (y_assign rfl) rfl ?_
      refine wl_nil ?_
      refine wq_then_norm (hK23 ?_)
      refine wc_ret ?_
      refine wq_then_ret ?_
      refine hret rfl rfl B2 rfl ?_
      rw [hO]; unfold wholeX; rw [if_neg (show ¬ endX z.2 ≠ 0 by omega), if_neg (by simpa using hc3)]; exact ⟨_, rfl, InfS.zero _ _ _, (((F.drop (by omega)).drop (by omega)).drop (by omega)) |>.toExt (by simp)⟩
    · skip
      refine wc_skip ?_
      refine wq_then_norm (hK21 ?_)
      refine wc_seq ?_; intro K24 hK24
      refine wc_region ?_
      refine wl_y (y_loadw rfl Try.underlying67 rfl (by kernel_rfl) B4) rfl ?_
      refine wl_ef (ef_storeP (o := 0) rfl rfl (by kernel_rfl) B2 (Nat.le_of_ble_eq_true rfl) (all_ones rfl)) rfl ?_
      rintro _ wS21_1 ⟨rfl, D, cg⟩
      have ex := Chs.one cg
      clear cg
      replace F := F.chs ex
      replace KA := KA.chs ex
      replace B4 := B4.chs ex
      replace B5 := B5.chs ex
      replace B2 := D; clear D
      replace B2 := B2.congr (cs' := infV h6 e.1 h8 h9 h12 (f.1 : Int) h15) rfl
      refine wl_y (y_assign rfl) rfl ?_
      refine wl_nil ?_
      refine wq_then_norm (hK24 ?_)
      refine wc_ret ?_
      refine hret rfl rfl B2 rfl ?_
      rw [hO]; unfold wholeX; rw [if_neg (show ¬ endX z.2 ≠ 0 by omega), if_pos (by simpa using hc3)]; exact ⟨_, rfl, IS, (((F.drop (by omega)).drop (by omega)).drop (by omega)) |>.toExt (by simp)⟩
end Go.Proofs.Ytpgalbgonmclaaa
