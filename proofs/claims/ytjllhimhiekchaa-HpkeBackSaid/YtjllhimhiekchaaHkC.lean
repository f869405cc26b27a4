/- hpke: the lock; a box that is too short is not opened; the layer is alive. No conditions: contracts of functions. -/
import Derived.Test.YtjllhimhiekchaaHkB
namespace Go.Proofs.Ytjllhimhiekchaa
open Go.RowKit
attribute [local irreducible] Y Ef WL WC WK WQ WM OpM WN WF OpN
open Hk
theorem bs_off {w : World} {A a a' : Option Addr} {n g b c b' c' : Nat} {t : TypeId} {xs : List UInt8} (H : Bs w A n xs) (B : Blk w g t #[.slice a b c, .slice a' b' c']) (hn : 0 < n) (o : Nat) : A ≠ some ⟨g, o, none⟩ := by
  rintro rfl
  obtain ⟨b1, off, e, _, hc⟩ := H.get (k := 0) hn
  injection e with e
  injection e with e1 e2 _
  subst e1; subst e2
  rw [B.cell] at hc
  rcases o with _ | _ | o
  · simp at hc
  · simp at hc
  · simp at hc
theorem hkctx_eq (is : List UInt8) : [[0], Hk.ext BOX [] psk [], Hk.ext BOX [] inf is].flatten = ctx is := by simp [ctx]
theorem ctx_length (is : List UInt8) : (ctx is).length = 65 := by unfold ctx; simp [ext_length]
set_option maxHeartbeats 1000000 in
theorem hlock_any (A B : Option Addr) (n c m d : Nat) (xs is : List UInt8) (w : World) (HA : Bs w A n xs) (hn : n ≤ 1000) (HB : Bs w B m is) (hm : m ≤ 8000) :
    Calls Try.prog 35 #[.slice A n c, .slice B m d] w fun e w' => ∃ A1 c1 A2 c2, e = .returned (.agg #[.slice A1 16 c1, .slice A2 12 c2]) ∧ Bs w' A1 16 (lkey xs is) ∧ Bs w' A2 12 (lnon xs is) ∧ 16 ≤ c1 ∧ 12 ≤ c2 ∧ Ext w w' := by
  have F := Chs.refl [] w
  have KA : Kp w.heap.size [] (fun w => Bs w A n xs) w := Kp.bs HA (by simp)
  have KB : Kp w.heap.size [] (fun w => Bs w B m is) w := Kp.bs HB (by simp)
  refine vc_enterc1 (s := 2) 22 Try.func35 rfl rfl rfl Try.underlying58 rfl (by kernel_rfl) rfl ?_
  intro Q hret
  refine wc_seq ?_; intro K1 hK1
  refine wc_region ?_
  refine wl_ef (ef_alloc (Z := #[.slice none 0 0, .slice none 0 0]) (by kernel_rfl)) rfl ?_
  rintro _ wB4 ⟨gB4, rfl, B4, hgB4, ex⟩
  have lB4 := B4.lt; have zB4 := ex.size
  replace F := F.grow ex hgB4
  replace KA := KA.grow ex hgB4
  replace KB := KB.grow ex hgB4
  refine wl_nil ?_
  refine wq_then_norm (hK1 ?_)
  refine wc_seq ?_; intro K2 hK2
  refine wc_region ?_
  refine wl_ef (ef_lit (z := .int .u8 0) Try.underlying22 (by kernel_rfl) rfl rfl rfl rfl rfl) rfl ?_
  rintro _ w1 ⟨g1, rfl, D1, hg1, ex⟩
  replace F := F.ext ex
  replace KA := KA.ext ex
  replace KB := KB.ext ex
  replace B4 := B4.ext ex
  have H1 := bs_blk' (xs := [0]) (D1.congr rfl) rfl
  refine wl_call Try.func27 rfl rfl rfl (hextract_any BOX psk none none 0 0 0 0 [] [] _ (Bs.nil _ _) (by omega) (Bs.nil _ _) (by omega) (by decide) (by decide)) rfl ?_
  rintro e w2 ⟨A2, c2, rfl, H2, ex⟩
  refine ⟨_, rfl, ?_⟩
  replace F := F.ext ex
  replace KA := KA.ext ex
  replace KB := KB.ext ex
  replace B4 := B4.ext ex
  replace H1 := H1.ext ex
  skip
  refine wl_y (y_move rfl) rfl ?_
  refine wl_call Try.func27 rfl rfl rfl (hextract_any BOX inf none B 0 0 m d [] is _ (Bs.nil _ _) (by omega) KB.out (by omega) (by decide) (by decide)) rfl ?_
  rintro e w3 ⟨A3, c3, rfl, H3, ex⟩
  refine ⟨_, rfl, ?_⟩
  replace F := F.ext ex
  replace KA := KA.ext ex
  replace KB := KB.ext ex
  replace B4 := B4.ext ex
  replace H1 := H1.ext ex
  replace H2 := H2.ext ex
  skip
  refine wl_ef (ef_lit (z := .slice none 0 0) Try.underlying79 (by kernel_rfl) rfl rfl rfl rfl rfl) rfl ?_
  rintro _ w4 ⟨g4, rfl, D4, hg4, ex⟩
  replace F := F.ext ex
  replace KA := KA.ext ex
  replace KB := KB.ext ex
  replace B4 := B4.ext ex
  replace H1 := H1.ext ex
  replace H2 := H2.ext ex
  replace H3 := H3.ext ex
  have S4 := bss_three D4 H1 H2 H3
  refine wl_call Try.func56 rfl rfl rfl (concatH_any _ 3 3 [[0], Hk.ext BOX [] psk [], Hk.ext BOX [] inf is] _ S4 (by omega) (by rw [hkctx_eq, ctx_length]; omega)) rfl ?_
  rintro e w5 ⟨A5, k5, c5, rfl, R5, ex⟩
  refine ⟨_, rfl, ?_⟩
  replace F := F.ext ex
  replace KA := KA.ext ex
  replace KB := KB.ext ex
  replace B4 := B4.ext ex
  replace H1 := H1.ext ex
  replace H2 := H2.ext ex
  replace H3 := H3.ext ex
  have H5 := R5.bs; rw [hkctx_eq] at H5; obtain rfl : k5 = 65 := by rw [← H5.1, ctx_length]
  refine wl_y (y_assign rfl) rfl ?_
  refine wl_nil ?_
  refine wq_then_norm (hK2 ?_)
  refine wc_seq ?_; intro K3 hK3
  refine wc_region ?_
  refine wl_y (y_move rfl) rfl ?_
  refine wl_call Try.func27 rfl rfl rfl (hextract_any BOX sec A none n c 0 0 xs [] _ KA.out (by omega) (Bs.nil _ _) (by omega) (by decide) (by decide)) rfl ?_
  rintro e w6 ⟨A6, c6, rfl, H6, ex⟩
  refine ⟨_, rfl, ?_⟩
  replace F := F.ext ex
  replace KA := KA.ext ex
  replace KB := KB.ext ex
  replace B4 := B4.ext ex
  replace H1 := H1.ext ex
  replace H2 := H2.ext ex
  replace H3 := H3.ext ex
  replace H5 := H5.ext ex
  skip
  refine wl_y (y_assign rfl) rfl ?_
  refine wl_nil ?_
  refine wq_then_norm (hK3 ?_)
  refine wc_seq ?_; intro K4 hK4
  refine wc_region ?_
  refine wl_y (y_move rfl) rfl ?_
  refine wl_y (y_move rfl) rfl ?_
  refine wl_call Try.func26 rfl rfl rfl (hexpand_any BOX keyL A6 A5 32 c6 65 c5 16 _ (ctx is) _ H6 (by omega) H5 (by omega) (by decide) (by decide) (by omega)) rfl ?_
  rintro e w7 ⟨A7, c7, rfl, H7, hc7, ex⟩
  refine ⟨_, rfl, ?_⟩
  replace F := F.ext ex
  replace KA := KA.ext ex
  replace KB := KB.ext ex
  replace B4 := B4.ext ex
  replace H1 := H1.ext ex
  replace H2 := H2.ext ex
  replace H3 := H3.ext ex
  replace H5 := H5.ext ex
  replace H6 := H6.ext ex
  skip
  refine wl_y (y_move rfl) rfl ?_
  refine wl_y (y_move rfl) rfl ?_
  refine wl_call Try.func26 rfl rfl rfl (hexpand_any BOX nonL A6 A5 32 c6 65 c5 12 _ (ctx is) _ H6 (by omega) H5 (by omega) (by decide) (by decide) (by omega)) rfl ?_
  rintro e w8 ⟨A8, c8, rfl, H8, hc8, ex⟩
  refine ⟨_, rfl, ?_⟩
  replace F := F.ext ex
  replace KA := KA.ext ex
  replace KB := KB.ext ex
  replace B4 := B4.ext ex
  replace H1 := H1.ext ex
  replace H2 := H2.ext ex
  replace H3 := H3.ext ex
  replace H5 := H5.ext ex
  replace H6 := H6.ext ex
  replace H7 := H7.ext ex
  skip
  refine wl_y (y_build rfl (cells := #[.slice A7 16 c7, .slice A8 12 c8]) (by kernel_rfl)) rfl ?_
  replace B4 := B4.congr (cs' := #[.slice none 0 0, .slice none 0 0]) rfl
  have K7 := Kp.bs (S := [gB4]) H7 (fun h g hg o => by simp at hg; subst hg; exact bs_off H7 B4 h o)
  have K8 := Kp.bs (S := [gB4]) H8 (fun h g hg o => by simp at hg; subst hg; exact bs_off H8 B4 h o)
  refine wl_ef (ef_storeP (o := 0) rfl rfl (by kernel_rfl) B4 (Nat.le_of_ble_eq_true rfl) (all_ones rfl)) rfl ?_
  rintro _ wS3_7 ⟨rfl, D, cg⟩
  have ex := Chs.one cg
  clear cg
  replace F := F.chs ex
  replace KA := KA.chs ex
  replace KB := KB.chs ex
  replace K7 := K7.chs ex
  replace K8 := K8.chs ex
  replace B4 := D; clear D
  replace B4 := B4.congr (cs' := #[.slice A7 16 c7, .slice A8 12 c8]) rfl
  refine wl_nil ?_
  refine wq_then_norm (hK4 ?_)
  refine wc_ret ?_
  refine hret rfl B4 rfl ?_
  exact ⟨A7, c7, A8, c8, rfl, K7.out, K8.out, hc7, hc8, F.drop (by omega) |>.toExt (by simp)⟩
theorem gmay_t (A B : Option Addr) (c d : Nat) (w : World) : Calls Try.prog 40 #[.slice A 16 c, .slice B 12 d] w fun e w' => e = .returned (.bool true) ∧ Ext w w' := by
  refine vc_enter1 13 Try.func40 rfl rfl rfl rfl ?_
  intro Q hret
  refine wc_seq ?_; intro K1 hK1
  refine wc_region ?_
  refine wl_y (y_assign rfl) rfl ?_
  refine wl_nil ?_
  refine wq_then_norm (hK1 ?_)
  refine wc_seq ?_; intro K2 hK2
  refine wc_region ?_
  refine wl_y (y_move rfl) rfl ?_
  refine wl_y (y_len_slice rfl Try.underlying22) rfl ?_
  refine wl_y (Y.as (y_eql rfl rfl) (congrArg Value.bool (decide_eq_true rfl))) rfl ?_
  refine wl_y (y_move rfl) rfl ?_
  refine wl_gy 8 rfl rfl (y_move rfl) rfl ?_
  refine wl_gy 8 rfl rfl (y_len_slice rfl Try.underlying22) rfl ?_
  refine wl_gy 8 rfl rfl (Y.as (y_eql rfl rfl) (congrArg Value.bool (decide_eq_true rfl))) rfl ?_
  refine wl_y (y_pickt rfl rfl) rfl ?_
  refine wl_y (y_assign rfl) rfl ?_
  refine wl_nil ?_
  refine wq_then_norm (hK2 ?_)
  refine wc_ret ?_
  refine hret rfl ?_
  exact ⟨rfl, Ext.refl _⟩
theorem gopen_short (A B C D : Option Addr) (c d k e m f : Nat) (w : World) (hk : k < 16) : Calls Try.prog 19 #[.slice A 16 c, .slice B 12 d, .slice C k e, .slice D m f] w fun e w' => e = .returned (.tuple #[.slice none 0 0, .bool false]) ∧ Ext w w' := by
  have E := Ext.refl w
  refine vc_enter2 57 Try.func19 rfl rfl rfl rfl ?_
  intro Q hret
  refine wc_seq ?_; intro K1 hK1
  refine wc_region ?_
  refine wl_y (y_assign rfl) rfl ?_
  refine wl_y (y_assign rfl) rfl ?_
  refine wl_nil ?_
  refine wq_then_norm (hK1 ?_)
  refine wc_seq ?_; intro K2 hK2
  refine wc_region ?_
  refine wl_y (y_move rfl) rfl ?_
  refine wl_y (y_len_slice rfl Try.underlying22) rfl ?_
  refine wl_y (y_sub rfl rfl (i64_ok (by omega) (by omega))) rfl ?_
  refine wl_y (y_assign rfl) rfl ?_
  refine wl_nil ?_
  refine wq_then_norm (hK2 ?_)
  refine wc_seq ?_; intro K3 hK3
  refine wc_seq ?_; intro K4 hK4
  refine wc_region ?_
  refine wl_y (y_move rfl) rfl ?_
  refine wl_y (y_move rfl) rfl ?_
  refine wl_call Try.func40 rfl rfl rfl (gmay_t A B c d _) rfl ?_
  rintro e w1 ⟨rfl, ex⟩
  refine ⟨_, rfl, ?_⟩
  replace E := E.ext ex
  refine wl_y (y_not rfl) rfl ?_
  refine wl_y (y_move rfl) rfl ?_
  refine wl_gy 21 rfl rfl (y_move rfl) rfl ?_
  refine wl_gy 21 rfl rfl (Y.as (y_lss rfl rfl) (congrArg Value.bool (decide_eq_true (by omega)))) rfl ?_
  refine wl_y (y_pickf rfl rfl) rfl ?_
  refine wl_nil ?_
  refine wq_then_norm (hK4 ?_)
  refine wc_true rfl rfl ?_
  refine wc_seq ?_; intro K5 hK5
  refine wc_region ?_
  refine wl_y (y_assign rfl) rfl ?_
  refine wl_y (y_assign rfl) rfl ?_
  refine wl_nil ?_
  refine wq_then_norm (hK5 ?_)
  refine wc_ret ?_
  refine wq_then_ret ?_
  refine hret rfl rfl ?_
  exact ⟨rfl, E⟩
theorem hopen_short (A B C D M : Option Addr) (n c m d k q z v i j : Nat) (xs ys is : List UInt8) (w : World) (HA : Bs w A n xs) (hn : n ≤ 1000) (HB : Bs w B m ys) (hm : m ≤ 1000) (HC : Bs w C k is) (hk : k ≤ 8000) (hz : z < 16) (hS : (unw xs ys).2 = 0) :
    Calls Try.prog 15 #[.slice A n c, .slice B m d, .slice C k q, .slice D z v, .slice M i j] w fun e w' => e = .returned (.tuple #[.slice none 0 0, .int .u8 11]) ∧ Ext w w' := by
  have E := Ext.refl w
  refine vc_enter2 42 Try.func15 rfl rfl rfl rfl ?_
  intro Q hret
  refine wc_seq ?_; intro K1 hK1
  refine wc_region ?_
  refine wl_y (y_assign rfl) rfl ?_
  refine wl_y (y_assign rfl) rfl ?_
  refine wl_nil ?_
  refine wq_then_norm (hK1 ?_)
  refine wc_seq ?_; intro K2 hK2
  refine wc_region ?_
  refine wl_y (y_move rfl) rfl ?_
  refine wl_y (y_move rfl) rfl ?_
  refine wl_call Try.func14 rfl rfl rfl (hunwrap_any A B n c m d xs ys _ HA hn HB hm) rfl ?_
  rintro e w1 ⟨A1, k1, c1, rfl, H1, hk1, ex⟩
  refine ⟨_, rfl, ?_⟩
  replace HA := HA.ext ex
  replace HB := HB.ext ex
  replace HC := HC.ext ex
  replace E := E.ext ex
  rw [hS]
  refine wl_y (y_move rfl) rfl ?_
  refine wl_y (y_extract rfl rfl) rfl ?_
  refine wl_y (y_extract rfl rfl) rfl ?_
  refine wl_y (y_assign rfl) rfl ?_
  refine wl_y (y_assign rfl) rfl ?_
  refine wl_nil ?_
  refine wq_then_norm (hK2 ?_)
  refine wc_seq ?_; intro K3 hK3
  refine wc_seq ?_; intro K4 hK4
  refine wc_region ?_
  refine wl_y (y_move rfl) rfl ?_
  refine wl_y (y_neq rfl rfl) rfl ?_
  refine wl_nil ?_
  refine wq_then_norm (hK4 ?_)
  refine wc_no rfl (by omega) ?_
  refine wc_skip ?_
  refine wq_then_norm (hK3 ?_)
  refine wc_seq ?_; intro K5 hK5
  refine wc_region ?_
  refine wl_y (y_move rfl) rfl ?_
  refine wl_y (y_move rfl) rfl ?_
  refine wl_call Try.func35 rfl rfl rfl (hlock_any A1 C k1 c1 k q _ is _ H1 (by omega) HC hk) rfl ?_
  rintro e w2 ⟨A2, c2, A3, c3, rfl, H2, H3, hc2, hc3, ex⟩
  refine ⟨_, rfl, ?_⟩
  replace HA := HA.ext ex
  replace HB := HB.ext ex
  replace HC := HC.ext ex
  replace E := E.ext ex
  replace H1 := H1.ext ex
  skip
  refine wl_ef (ef_alloc (Z := #[.slice none 0 0, .slice none 0 0]) (by kernel_rfl)) rfl ?_
  rintro _ wA14 ⟨gB14, rfl, D14, hgB14, exA⟩
  refine wl_ef (ef_storeP (o := 0) rfl rfl (by kernel_rfl) D14 (Nat.le_of_ble_eq_true rfl) (all_ones rfl)) rfl ?_
  rintro _ wB14 ⟨rfl, B14, cg⟩
  have ex := exA.chg cg hgB14; clear cg exA D14
  have lB14 := B14.lt; have zB14 := ex.size
  replace HA := HA.ext ex
  replace HB := HB.ext ex
  replace HC := HC.ext ex
  replace E := E.ext ex
  replace H1 := H1.ext ex
  refine wl_nil ?_
  refine wq_then_norm (hK5 ?_)
  refine wc_seq ?_; intro K6 hK6
  refine wc_region ?_
  refine wl_y (y_fieldAddr (o := 0) (s := 1) (off := 0) (o' := 0) rfl Try.underlying58 rfl (by kernel_rfl) rfl rfl) rfl ?_
  refine wl_y (y_load1 rfl Try.underlying22 rfl (B14.get (i := 0) rfl)) rfl ?_
  refine wl_y (y_fieldAddr (o := 1) (s := 1) (off := 0) (o' := 1) rfl Try.underlying58 rfl (by kernel_rfl) rfl rfl) rfl ?_
  refine wl_y (y_load1 rfl Try.underlying22 rfl (B14.get (i := 1) rfl)) rfl ?_
  refine wl_y (y_move rfl) rfl ?_
  refine wl_y (y_move rfl) rfl ?_
  refine wl_call Try.func19 rfl rfl rfl (gopen_short A2 A3 D M c2 c3 z v i j _ hz) rfl ?_
  rintro e w3 ⟨rfl, ex⟩
  refine ⟨_, rfl, ?_⟩
  replace HA := HA.ext ex
  replace HB := HB.ext ex
  replace HC := HC.ext ex
  replace E := E.ext ex
  replace H1 := H1.ext ex
  replace B14 := B14.ext ex
  skip
  refine wl_y (y_move rfl) rfl ?_
  refine wl_y (y_extract rfl rfl) rfl ?_
  refine wl_y (y_extract rfl rfl) rfl ?_
  refine wl_y (y_assign rfl) rfl ?_
  refine wl_y (y_assign rfl) rfl ?_
  refine wl_nil ?_
  refine wq_then_norm (hK6 ?_)
  refine wc_seq ?_; intro K7 hK7
  refine wc_seq ?_; intro K8 hK8
  refine wc_region ?_
  refine wl_y (y_move rfl) rfl ?_
  refine wl_y (y_not rfl) rfl ?_
  refine wl_nil ?_
  refine wq_then_norm (hK8 ?_)
  refine wc_true rfl rfl ?_
  refine wc_seq ?_; intro K9 hK9
  refine wc_region ?_
  refine wl_y (y_assign rfl) rfl ?_
  refine wl_y (y_assign rfl) rfl ?_
  refine wl_nil ?_
  refine wq_then_norm (hK9 ?_)
  refine wc_ret ?_
  refine wq_then_ret ?_
  refine hret rfl rfl ?_
  exact ⟨rfl, E⟩
end Go.Proofs.Ytjllhimhiekchaa
