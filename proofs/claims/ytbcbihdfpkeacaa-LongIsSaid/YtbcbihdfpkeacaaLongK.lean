/- The law LongIs: it answers true whatever it is given. -/
import Derived.Test.YtbcbihdfpkeacaaLongJ
namespace Go.Proofs.Ytbcbihdfpkeacaa
open Go.RowKit
attribute [local irreducible] Y Ef WL WC WK WQ WM OpM WN WF OpN
theorem longIs_law (A : Option Addr) (n c : Nat) (xs : List UInt8) (B : Option Addr) (m d : Nat) (ys : List UInt8) (w : World) (HA : Bs w A n xs) (hn : n ≤ maxLen) (HB : Bs w B m ys) (hm : m ≤ maxLen) :
    Calls Try.prog 7 #[.slice A n c, .slice B m d] w fun e w' => e = .returned (.bool true) ∧ Below w.heap.size w w' := by
  unfold maxLen at hn hm
  have E := Ext.refl w
  have hxl := HA.1; have hyl := HB.1
  have f2 : [xs, ys].flatten = xs ++ ys := by simp
  have f3 : [xs, [], ys].flatten = xs ++ ys := by simp
  refine vc_enter1 44 Try.func7 rfl rfl rfl rfl ?_
  intro Q hret
  refine wc_seq ?_; intro K1 hK1
  refine wc_region ?_
  refine wl_y (y_assign rfl) rfl ?_
  refine wl_nil ?_
  refine wq_then_norm (hK1 ?_)
  refine wc_seq ?_; intro K2 hK2
  refine wc_seq ?_; intro K3 hK3
  refine wc_region ?_
  refine wl_call Try.func37 rfl rfl rfl (alive3_any _) rfl ?_
  rintro e w1 ⟨rfl, ex⟩
  refine ⟨_, rfl, ?_⟩
  replace HA := HA.ext ex
  replace HB := HB.ext ex
  replace E := E.ext ex
  refine wl_y (y_not rfl) rfl ?_
  refine wl_nil ?_
  refine wq_then_norm (hK3 ?_)
  refine wc_false rfl rfl ?_
  refine wc_skip ?_
  refine wq_then_norm (hK2 ?_)
  refine wc_seq ?_; intro K4 hK4
  refine wc_seq ?_; intro K5 hK5
  refine wc_region ?_
  refine wl_y (y_move rfl) rfl ?_
  refine wl_y (y_len_slice rfl Try.underlying22) rfl ?_
  refine wl_yask (y_gtr rfl rfl) rfl (fun h1 => ?_) (fun h1 => ?_)
  · skip
    refine wl_y (y_move rfl) rfl ?_
    refine wl_gno 12 rfl rfl rfl rfl ?_
    refine wl_gno 12 rfl rfl rfl rfl ?_
    refine wl_gno 12 rfl rfl rfl rfl ?_
    refine wl_y (y_pickt rfl rfl) rfl ?_
    refine wl_nil ?_
    refine wq_then_norm (hK5 ?_)
    refine wc_true rfl rfl ?_
    refine wc_seq ?_; intro K6 hK6
    refine wc_region ?_
    refine wl_y (y_assign rfl) rfl ?_
    refine wl_nil ?_
    refine wq_then_norm (hK6 ?_)
    refine wc_ret ?_
    refine wq_then_ret ?_
    refine hret rfl ?_
    exact ⟨rfl, E⟩
  · skip
    refine wl_y (y_move rfl) rfl ?_
    refine wl_gy 12 rfl rfl (y_move rfl) rfl ?_
    refine wl_gy 12 rfl rfl (y_len_slice rfl Try.underlying22) rfl ?_
    refine wl_gyask 12 rfl rfl (y_gtr rfl rfl) rfl (fun h2 => ?_) (fun h2 => ?_)
    · skip
      refine wl_y (y_pickf rfl rfl) rfl ?_
      refine wl_nil ?_
      refine wq_then_norm (hK5 ?_)
      refine wc_true rfl rfl ?_
      refine wc_seq ?_; intro K7 hK7
      refine wc_region ?_
      refine wl_y (y_assign rfl) rfl ?_
      refine wl_nil ?_
      refine wq_then_norm (hK7 ?_)
      refine wc_ret ?_
      refine wq_then_ret ?_
      refine hret rfl ?_
      exact ⟨rfl, E⟩
    · skip
      refine wl_y (y_pickf rfl rfl) rfl ?_
      refine wl_nil ?_
      refine wq_then_norm (hK5 ?_)
      refine wc_false rfl rfl ?_
      refine wc_skip ?_
      refine wq_then_norm (hK4 ?_)
      refine wc_seq ?_; intro K8 hK8
      refine wc_region ?_
      refine wl_ef (ef_lit (z := .int .u8 0) Try.underlying22 (by kernel_rfl) rfl rfl rfl rfl rfl) rfl ?_
      rintro _ w2 ⟨g2, rfl, B2, hg2, ex⟩
      have x2 := ex; have R2 : Row w2 w1.heap.size 5 (some ⟨g2, 0, none⟩) 0 0 (([] : List UInt8).map bv) := Row.new B2 hg2 rfl (by unfold maxLen; omega)
      refine wl_y (y_move rfl) rfl ?_
      refine wl_ef (ef_app0 rfl rfl eltB R2 (HA.ext x2).2 (by rw [List.length_map, HA.1]) (by intro u hu; exact bv_one u hu) (by omega) (by omega) x2.size) rfl ?_
      rintro _ w3 ⟨A3, c3, rfl, R3, be, gr, hl⟩
      have x3 : Ext w1 w3 := x2.trans be
      refine wl_y (y_move rfl) rfl ?_
      refine wl_ef (ef_app rfl rfl eltB R3 (HB.ext x3).2 (by rw [List.length_map, HB.1]) (by intro u hu; exact bv_one u hu) (by omega) (by omega) x3.size) rfl ?_
      rintro _ w4 ⟨A4, c4, rfl, R4, be, gr, hl⟩
      have ex : Ext w1 w4 := x3.trans be; have S4 := R4.cat.bs
      replace HA := HA.ext ex
      replace HB := HB.ext ex
      replace E := E.ext ex
      refine wl_y (y_assign rfl) rfl ?_
      refine wl_nil ?_
      refine wq_then_norm (hK8 ?_)
      refine wc_seq ?_; intro K9 hK9
      refine wc_region ?_
      refine wl_y (y_move rfl) rfl ?_
      refine wl_call Try.func52 rfl rfl rfl (lsum_any A4 (n + m) c4 (xs ++ ys) _ S4 (by omega)) rfl ?_
      rintro e w5 ⟨rfl, ex⟩
      refine ⟨_, rfl, ?_⟩
      replace HA := HA.ext ex
      replace HB := HB.ext ex
      replace E := E.ext ex
      replace S4 := S4.ext ex
      skip
      have F := Ext.refl w5; have E0 := E; have S0 := S4; have HA0 := HA; have HB0 := HB
      refine wl_ef (ef_alloc (Z := bys (zbs 64)) (by kernel_rfl)) rfl ?_
      rintro _ w6 ⟨g6, rfl, B6, hg6, ex⟩
      replace F := F.ext ex
      refine wl_ef (ef_storeW rfl rfl (by rw [bys_size, Lng.sum_length]; kernel_rfl) B6 (by rw [bys_size, bys_size, Lng.sum_length]; rfl) (bys_one _)) rfl ?_
      rintro _ w7 ⟨rfl, B7, cg⟩
      replace F := F.chg cg hg6; replace E := E0.ext F; replace S4 := S0.ext F; replace HA := HA0.ext F; replace HB := HB0.ext F; have D := bs_blk' B7 (Lng.sum_length _)
      refine wl_nil ?_
      refine wq_then_norm (hK9 ?_)
      refine wc_seq ?_; intro K10 hK10
      refine wc_draw (by kernel_rfl) 21 rfl ?_; intro wd7 ex hd7
      replace HA := HA.ext ex
      replace HB := HB.ext ex
      replace E := E.ext ex
      replace S4 := S4.ext ex
      replace D := D.ext ex
      refine wm_y 0 rfl (by kernel_rfl) (y_cutarr (s := 1) rfl Try.underlying56 (by kernel_rfl)) rfl ?_
      refine wm_y 1 rfl (by kernel_rfl) (y_move rfl) rfl ?_
      refine wm_one 2 (by kernel_rfl) ?_; refine om_call rfl Try.func54 rfl rfl rfl (rlsum_any A4 (n + m) c4 (xs ++ ys) _ S4 (by omega)) rfl ?_
      rintro e w8 ⟨A8, c8, rfl, S8, ex⟩
      refine ⟨_, rfl, .inr ex, ?_⟩
      replace HA := HA.ext ex
      replace HB := HB.ext ex
      replace E := E.ext ex
      replace S4 := S4.ext ex
      replace D := D.ext ex
      skip
      refine wm_one 3 (by kernel_rfl) ?_; refine om_call rfl Try.func53 rfl rfl rfl (lsame_any _ _ 64 64 _ _ _ _ _ D S8 (by omega) (by omega)) rfl ?_
      rintro e w9 ⟨rfl, ex⟩
      refine ⟨_, rfl, .inr ex, ?_⟩
      replace HA := HA.ext ex
      replace HB := HB.ext ex
      replace E := E.ext ex
      replace S4 := S4.ext ex
      replace D := D.ext ex
      replace S8 := S8.ext ex
      rw [decide_eq_true rfl]
      refine wm_y 4 rfl (by kernel_rfl) (y_move rfl) rfl ?_
      refine wm_gy 5 rfl (by kernel_rfl) 28 rfl rfl (y_move rfl) rfl ?_
      refine wm_gy 6 rfl (by kernel_rfl) 28 rfl rfl (y_move rfl) rfl ?_
      refine wm_gy 9 rfl (by kernel_rfl) 28 rfl rfl (y_cutarr (s := 1) rfl Try.underlying56 (by kernel_rfl)) rfl ?_
      refine wm_one 7 (by kernel_rfl) ?_; refine om_gef rfl 28 rfl rfl (ef_lit (z := .slice none 0 0) Try.underlying117 (by kernel_rfl) rfl rfl rfl rfl rfl) rfl ?_
      rintro _ w10 ⟨g10, rfl, B10, hg10, ex⟩
      refine ⟨.inr ex, ?_⟩
      replace HA := HA.ext ex
      replace HB := HB.ext ex
      replace E := E.ext ex
      replace S4 := S4.ext ex
      replace D := D.ext ex
      replace S8 := S8.ext ex
      have S10 := bss_two B10 HA HB
      refine wm_one 8 (by kernel_rfl) ?_; refine om_gcall rfl 28 rfl rfl Try.func55 rfl rfl rfl (lof_any _ 2 2 _ _ S10 (by omega) (by rw [f2, List.length_append]; omega)) rfl ?_
      rintro e w11 ⟨g11, rfl, hg11, B11, ex⟩
      refine ⟨_, rfl, .inr ex, ?_⟩
      replace HA := HA.ext ex
      replace HB := HB.ext ex
      replace E := E.ext ex
      replace S4 := S4.ext ex
      replace D := D.ext ex
      replace S8 := S8.ext ex
      replace S10 := S10.ext ex
      rw [f2] at B11; have S11 := bs_blk' B11 (Lng.sum_length _)
      refine wm_one 10 (by kernel_rfl) ?_; refine om_gcall rfl 28 rfl rfl Try.func53 rfl rfl rfl (lsame_any _ _ 64 64 _ _ _ _ _ S11 D (by omega) (by omega)) rfl ?_
      rintro e w12 ⟨rfl, ex⟩
      refine ⟨_, rfl, .inr ex, ?_⟩
      replace HA := HA.ext ex
      replace HB := HB.ext ex
      replace E := E.ext ex
      replace S4 := S4.ext ex
      replace D := D.ext ex
      replace S8 := S8.ext ex
      replace S10 := S10.ext ex
      replace S11 := S11.ext ex
      rw [decide_eq_true rfl]
      refine wm_y 11 rfl (by kernel_rfl) (y_pickt rfl rfl) rfl ?_
      refine wm_y 12 rfl (by kernel_rfl) (y_move rfl) rfl ?_
      refine wm_gy 13 rfl (by kernel_rfl) 36 rfl rfl (y_move rfl) rfl ?_
      refine wm_gy 14 rfl (by kernel_rfl) 36 rfl rfl (y_move rfl) rfl ?_
      refine wm_gy 17 rfl (by kernel_rfl) 36 rfl rfl (y_cutarr (s := 1) rfl Try.underlying56 (by kernel_rfl)) rfl ?_
      refine wm_one 15 (by kernel_rfl) ?_; refine om_gef rfl 36 rfl rfl (ef_lit (z := .slice none 0 0) Try.underlying117 (by kernel_rfl) rfl rfl rfl rfl rfl) rfl ?_
      rintro _ w13 ⟨g13, rfl, B13, hg13, ex⟩
      refine ⟨.inr ex, ?_⟩
      replace HA := HA.ext ex
      replace HB := HB.ext ex
      replace E := E.ext ex
      replace S4 := S4.ext ex
      replace D := D.ext ex
      replace S8 := S8.ext ex
      replace S10 := S10.ext ex
      replace S11 := S11.ext ex
      have S13 := bss_three B13 HA (Bs.nil _ none) HB
      refine wm_one 16 (by kernel_rfl) ?_; refine om_gcall rfl 36 rfl rfl Try.func55 rfl rfl rfl (lof_any _ 3 3 _ _ S13 (by omega) (by rw [f3, List.length_append]; omega)) rfl ?_
      rintro e w14 ⟨g14, rfl, hg14, B14, ex⟩
      refine ⟨_, rfl, .inr ex, ?_⟩
      replace HA := HA.ext ex
      replace HB := HB.ext ex
      replace E := E.ext ex
      replace S4 := S4.ext ex
      replace D := D.ext ex
      replace S8 := S8.ext ex
      replace S10 := S10.ext ex
      replace S11 := S11.ext ex
      replace S13 := S13.ext ex
      rw [f3] at B14; have S14 := bs_blk' B14 (Lng.sum_length _)
      refine wm_one 18 (by kernel_rfl) ?_; refine om_gcall rfl 36 rfl rfl Try.func53 rfl rfl rfl (lsame_any _ _ 64 64 _ _ _ _ _ S14 D (by omega) (by omega)) rfl ?_
      rintro e w15 ⟨rfl, ex⟩
      refine ⟨_, rfl, .inr ex, ?_⟩
      replace HA := HA.ext ex
      replace HB := HB.ext ex
      replace E := E.ext ex
      replace S4 := S4.ext ex
      replace D := D.ext ex
      replace S8 := S8.ext ex
      replace S10 := S10.ext ex
      replace S11 := S11.ext ex
      replace S13 := S13.ext ex
      replace S14 := S14.ext ex
      rw [decide_eq_true rfl]
      refine wm_y 19 rfl (by kernel_rfl) (y_pickt rfl rfl) rfl ?_
      refine wm_y 20 rfl (by kernel_rfl) (y_assign rfl) rfl ?_
      refine wm_done (by kernel_rfl) ?_
      refine wq_nop ?_
      refine wq_then_norm (hK10 ?_)
      refine wc_ret ?_
      refine hret rfl ?_
      exact ⟨rfl, E⟩
end Go.Proofs.Ytbcbihdfpkeacaa
