/- The walk of the law MacKeys: it answers true whatever it is given. Lengths within an int. -/
import Derived.Test.YtijnolhjkdhecaaMacC
namespace Go.Proofs.Ytijnolhjkdhecaa
open Go.RowKit
attribute [local irreducible] Y Ef WL WC WK WQ WM OpM
theorem k64_long (xs : List UInt8) (h : 64 < xs.length) : Mac.k64 (Sha.sum xs) = Mac.k64 xs := by
  unfold Mac.k64
  simp [h, Sha.sum_length]
theorem k64_zeros (xs : List UInt8) (k : Nat) (h : xs.length + k ≤ 64) : Mac.k64 (xs ++ zbs k) = Mac.k64 xs := by
  unfold Mac.k64
  rw [if_neg (by simp [zbs]; omega), if_neg (by omega)]
  simp only [List.append_assoc, List.length_append, zbs_length]
  congr 1
  simp [zbs]
  omega
theorem tag_long (xs ys : List UInt8) (h : 64 < xs.length) : Mac.tag (Sha.sum xs) ys = Mac.tag xs ys := by
  simp only [Mac.tag, Mac.held, k64_long xs h]
theorem tag_zeros (xs ys : List UInt8) (k : Nat) (h : xs.length + k ≤ 64) : Mac.tag (xs ++ zbs k) ys = Mac.tag xs ys := by
  simp only [Mac.tag, Mac.held, k64_zeros xs k h]
theorem copied2 {g k : Nat} {t : TypeId} {w : World} (ks : List UInt8) (hk : ks.length ≤ k) (h : Blk w g t ((List.replicate k (Value.int .u8 0)).toArray.toList.take 0 ++ ks.map bv ++ (List.replicate k (Value.int .u8 0)).toArray.toList.drop (0 + (ks.map bv).length)).toArray) :
    Blk w g t (bys (ks ++ zbs (k - ks.length))) := by
  have e : (List.replicate k (Value.int .u8 0)).toArray.toList.take 0 ++ ks.map bv ++ (List.replicate k (Value.int .u8 0)).toArray.toList.drop (0 + (ks.map bv).length) = (ks ++ zbs (k - ks.length)).map bv := by
    rw [List.toList_toArray, List.take_zero, List.nil_append, List.drop_replicate, List.length_map, Nat.zero_add, List.map_append]
    unfold zbs
    rw [List.map_replicate]
    rfl
  rw [e] at h
  exact h
theorem macKeys_law (A : Option Addr) (n c : Nat) (xs : List UInt8) (B : Option Addr) (m d : Nat) (ys : List UInt8) (z : Int) (w : World)
    (HA : Bs w A n xs) (hn : n ≤ maxLen) (HB : Bs w B m ys) (hm : m ≤ maxLen) (hd : m ≤ d) (hz : (Lit.int .u8 z).wf = true) :
    Calls Try.prog 6 #[.slice A n c, .slice B m d, .int .u8 z] w fun e w' => e = .returned (.bool true) ∧ Below w.heap.size w w' := by
  unfold maxLen at hn hm
  have hz' : 0 ≤ z ∧ z ≤ 255 := bounds_u8 hz
  have E := Ext.refl w
  have hxl := HA.1; have hyl := HB.1
  have f1 : [ys].flatten = ys := by simp
  refine vc_enter1 77 Try.func6 rfl rfl rfl rfl ?_
  intro Q hret
  refine wc_seq ?_; intro K1 hK1
  refine wc_region ?_
  refine wl_y (y_assign rfl) rfl ?_
  refine wl_nil ?_
  refine wq_then_norm (hK1 ?_)
  refine wc_seq ?_; intro K2 hK2
  refine wc_seq ?_; intro K3 hK3
  refine wc_region ?_
  refine wl_call Try.func20 rfl rfl rfl (alive4_any _) rfl ?_
  rintro e w1 ⟨rfl, ex⟩
  refine ⟨_, rfl, ?_⟩
  replace HA := HA.ext ex
  replace HB := HB.ext ex
  replace E := E.ext ex
  refine wl_y (y_not rfl) rfl ?_
  refine wl_nil ?_
  refine wq_then_norm (hK3 ?_)
  refine wc_false rfl rfl ?_
  refine wc_skip ?_
  refine wq_then_norm (hK2 ?_)
  refine wc_seq ?_; intro K4 hK4
  refine wc_seq ?_; intro K5 hK5
  refine wc_region ?_
  refine wl_y (y_move rfl) rfl ?_
  refine wl_y (y_len_slice rfl Try.underlying22) rfl ?_
  refine wl_yask (y_gtr rfl rfl) rfl (fun h1 => ?_) (fun h1 => ?_)
  · skip
    refine wl_y (y_move rfl) rfl ?_
    refine wl_gno 16 rfl rfl rfl rfl ?_
    refine wl_gno 16 rfl rfl rfl rfl ?_
    refine wl_gno 16 rfl rfl rfl rfl ?_
    refine wl_y (y_pickt rfl rfl) rfl ?_
    refine wl_nil ?_
    refine wq_then_norm (hK5 ?_)
    refine wc_true rfl rfl ?_
    refine wc_seq ?_; intro K6 hK6
    refine wc_region ?_
    refine wl_y (y_assign rfl) rfl ?_
    refine wl_nil ?_
    refine wq_then_norm (hK6 ?_)
    refine wc_ret ?_
    refine wq_then_ret ?_
    refine hret rfl ?_
    exact ⟨rfl, E⟩
  · skip
    refine wl_y (y_move rfl) rfl ?_
    refine wl_gy 16 rfl rfl (y_move rfl) rfl ?_
    refine wl_gy 16 rfl rfl (y_len_slice rfl Try.underlying22) rfl ?_
    refine wl_gyask 16 rfl rfl (y_gtr rfl rfl) rfl (fun h2 => ?_) (fun h2 => ?_)
    · skip
      refine wl_y (y_pickf rfl rfl) rfl ?_
      refine wl_nil ?_
      refine wq_then_norm (hK5 ?_)
      refine wc_true rfl rfl ?_
      refine wc_seq ?_; intro K7 hK7
      refine wc_region ?_
      refine wl_y (y_assign rfl) rfl ?_
      refine wl_nil ?_
      refine wq_then_norm (hK7 ?_)
      refine wc_ret ?_
      refine wq_then_ret ?_
      refine hret rfl ?_
      exact ⟨rfl, E⟩
    · skip
      refine wl_y (y_pickf rfl rfl) rfl ?_
      refine wl_nil ?_
      refine wq_then_norm (hK5 ?_)
      refine wc_false rfl rfl ?_
      refine wc_skip ?_
      refine wq_then_norm (hK4 ?_)
      refine wc_seq ?_; intro K8 hK8
      refine wc_region ?_
      refine wl_y (y_move rfl) rfl ?_
      refine wl_y (y_move rfl) rfl ?_
      refine wl_ef (ef_lit (z := .slice none 0 0) Try.underlying36 (by kernel_rfl) rfl rfl rfl rfl rfl) rfl ?_
      rintro _ w2 ⟨g2, rfl, B2, hg2, ex⟩
      replace HA := HA.ext ex
      replace HB := HB.ext ex
      replace E := E.ext ex
      have S2 := bss_one B2 HB
      refine wl_call Try.func22 rfl rfl rfl (tag_any _ _ n c 1 1 xs _ _ HA (by omega) S2 (by omega) (by rw [f1]; omega)) rfl ?_
      rintro e w3 ⟨g3, rfl, hg3, B3, ex⟩
      refine ⟨_, rfl, ?_⟩
      replace HA := HA.ext ex
      replace HB := HB.ext ex
      replace E := E.ext ex
      rw [f1] at B3; have H3 := bs_blk' B3 (Mac.tag_length _ _)
      refine wl_y (y_assign rfl) rfl ?_
      refine wl_nil ?_
      refine wq_then_norm (hK8 ?_)
      refine wc_seq ?_; intro K9 hK9
      refine wc_seq ?_; intro K10 hK10
      refine wc_region ?_
      refine wl_y (y_move rfl) rfl ?_
      refine wl_y (y_len_slice rfl Try.underlying22) rfl ?_
      refine wl_y (y_gtr rfl rfl) rfl ?_
      refine wl_nil ?_
      refine wq_then_norm (hK10 ?_)
      refine wc_dec rfl (fun hc3 => ?_) (fun hc3 => ?_)
      · skip
        refine wc_seq ?_; intro K11 hK11
        refine wc_region ?_
        refine wl_y (y_move rfl) rfl ?_
        refine wl_y (y_move rfl) rfl ?_
        refine wl_ef (ef_lit (z := .slice none 0 0) Try.underlying36 (by kernel_rfl) rfl rfl rfl rfl rfl) rfl ?_
        rintro _ w4 ⟨g4, rfl, B4, hg4, ex⟩
        replace HA := HA.ext ex
        replace HB := HB.ext ex
        replace E := E.ext ex
        replace H3 := H3.ext ex
        have S4 := bss_one B4 HA
        refine wl_call Try.func19 rfl rfl rfl (of_any _ 1 1 _ _ S4 (by omega) (by simp; omega)) rfl ?_
        rintro e w5 ⟨g5, rfl, hg5, B5, ex⟩
        refine ⟨_, rfl, ?_⟩
        replace HA := HA.ext ex
        replace HB := HB.ext ex
        replace E := E.ext ex
        replace H3 := H3.ext ex
        have H5 := bs_blk' B5 (Sha.sum_length _)
        refine wl_y (y_move rfl) rfl ?_
        refine wl_ef (ef_lit (z := .slice none 0 0) Try.underlying36 (by kernel_rfl) rfl rfl rfl rfl rfl) rfl ?_
        rintro _ w6 ⟨g6, rfl, B6, hg6, ex⟩
        replace HA := HA.ext ex
        replace HB := HB.ext ex
        replace E := E.ext ex
        replace H3 := H3.ext ex
        replace H5 := H5.ext ex
        have S6 := bss_one B6 HB
        refine wl_call Try.func22 rfl rfl rfl (tag_any _ _ 32 32 1 1 _ _ _ H5 (by omega) S6 (by omega) (by rw [f1]; omega)) rfl ?_
        rintro e w7 ⟨g7, rfl, hg7, B7, ex⟩
        refine ⟨_, rfl, ?_⟩
        replace HA := HA.ext ex
        replace HB := HB.ext ex
        replace E := E.ext ex
        replace H3 := H3.ext ex
        replace H5 := H5.ext ex
        have H7 := bs_blk' B7 (Mac.tag_length _ _)
        refine wl_call Try.func21 rfl rfl rfl (macSame_any _ _ 32 32 32 32 _ _ _ H3 H7 (by omega) (by omega)) rfl ?_
        rintro e w8 ⟨rfl, ex⟩
        refine ⟨_, rfl, ?_⟩
        replace HA := HA.ext ex
        replace HB := HB.ext ex
        replace E := E.ext ex
        replace H3 := H3.ext ex
        replace H5 := H5.ext ex
        replace H7 := H7.ext ex
        skip
        refine wl_y (y_assign rfl) rfl ?_
        refine wl_nil ?_
        refine wq_then_norm (hK11 ?_)
        refine wc_ret ?_
        refine wq_then_ret ?_
        refine hret rfl ?_
        exact ⟨by rw [decide_eq_true]; rw [f1, List.flatten_cons, List.flatten_nil, List.append_nil, tag_long xs ys (by rw [HA.1]; omega)], E⟩
      · skip
        refine wc_skip ?_
        refine wq_then_norm (hK9 ?_)
        refine wc_seq ?_; intro K12 hK12
        refine wc_region ?_
        refine wl_y (y_move rfl) rfl ?_
        refine wl_y (y_len_slice rfl Try.underlying22) rfl ?_
        refine wl_y (y_move rfl) rfl ?_
        refine wl_y (y_conv rfl Try.underlying5 Try.underlying3 (i64_ok (by omega) (by omega))) rfl ?_
        refine wl_y (y_move rfl) rfl ?_
        refine wl_y (y_len_slice rfl Try.underlying22) rfl ?_
        refine wl_y (y_sub rfl rfl (i64_ok (by omega) (by omega))) rfl ?_
        refine wl_y (y_rem rfl rfl (by omega) (IntWalk.rem_in _ _ (by omega))) rfl ?_
        obtain ⟨k, hk⟩ : ∃ k : Nat, z % (65 - (n : Int)) = k := Int.eq_ofNat_of_zero_le (Int.emod_nonneg _ (by omega))
        have hk2 : z % (65 - (n : Int)) < 65 - (n : Int) := Int.emod_lt_of_pos _ (by omega)
        refine wl_y (y_add rfl rfl (show IntKind.i64.wrap _ = ((n + k : Nat) : Int) by rw [hk]; exact i64_ok (by omega) (by omega))) rfl ?_
        refine wl_y (y_assign rfl) rfl ?_
        refine wl_nil ?_
        refine wq_then_norm (hK12 ?_)
        refine wc_seq ?_; intro K13 hK13
        refine wc_region ?_
        refine wl_y (y_move rfl) rfl ?_
        refine wl_ef (ef_make (n := n + k) (z := .int .u8 0) (bytes := 1) rfl rfl Try.underlying22 (by kernel_rfl) rfl rfl rfl rfl (by omega) (by omega)) rfl ?_
        rintro _ w9 ⟨g9, rfl, B9, hg9, ex⟩
        have x9 := ex
        refine wl_y (y_assign rfl) rfl ?_
        refine wl_nil ?_
        refine wq_then_norm (hK13 ?_)
        refine wc_seq ?_; intro K14 hK14
        refine wc_region ?_
        refine wl_y (y_move rfl) rfl ?_
        refine wl_y (y_move rfl) rfl ?_
        refine wl_ef (ef_copy rfl rfl Try.underlying22 (by kernel_rfl) B9 (HA.ext x9).2 (by rw [List.length_map, HA.1]; exact (Nat.min_eq_left (by omega)).symm) (by rw [List.length_map, HA.1]; simp) (by intro u hu; exact bv_one u hu)) rfl ?_
        rintro _ w10 ⟨rfl, B10, cg⟩
        have B11 := copied2 _ (by rw [HA.1]; omega) B10; rw [HA.1, show n + k - n = k from by omega] at B11; have HL := bs_blk' (n := n + k) B11 (by rw [List.length_append, HA.1, zbs_length]); have ex : Ext w3 w10 := x9.chg cg hg9
        replace HA := HA.ext ex
        replace HB := HB.ext ex
        replace E := E.ext ex
        replace H3 := H3.ext ex
        refine wl_nil ?_
        refine wq_then_norm (hK14 ?_)
        refine wc_seq ?_; intro K15 hK15
        refine wc_region ?_
        refine wl_y (y_move rfl) rfl ?_
        refine wl_y (y_len_slice rfl Try.underlying22) rfl ?_
        refine wl_y (y_quo rfl rfl (by omega) (IntWalk.i64_quo _ _ (by omega))) rfl ?_
        refine wl_y (y_assign rfl) rfl ?_
        refine wl_nil ?_
        refine wq_then_norm (hK15 ?_)
        refine wc_seq ?_; intro K16 hK16
        refine wc_draw (by kernel_rfl) 25 rfl ?_; intro wd12 ex hd12
        replace HA := HA.ext ex
        replace HB := HB.ext ex
        replace E := E.ext ex
        replace H3 := H3.ext ex
        replace HL := HL.ext ex
        refine wm_y 0 rfl (by kernel_rfl) (y_move rfl) rfl ?_
        refine wm_y 1 rfl (by kernel_rfl) (y_move rfl) rfl ?_
        refine wm_y 2 rfl (by kernel_rfl) (y_move rfl) rfl ?_
        refine wm_one 3 (by kernel_rfl) ?_; refine om_ef rfl (ef_lit (z := .slice none 0 0) Try.underlying36 (by kernel_rfl) rfl rfl rfl rfl rfl) rfl ?_
        rintro _ w13 ⟨g13, rfl, B13, hg13, ex⟩
        refine ⟨.inr ex, ?_⟩
        replace HA := HA.ext ex
        replace HB := HB.ext ex
        replace E := E.ext ex
        replace H3 := H3.ext ex
        replace HL := HL.ext ex
        have S13 := bss_one B13 HB
        refine wm_one 4 (by kernel_rfl) ?_; refine om_call rfl Try.func22 rfl rfl rfl (tag_any _ _ (n + k) (n + k) 1 1 _ _ _ HL (by omega) S13 (by omega) (by rw [f1]; omega)) rfl ?_
        rintro e w14 ⟨g14, rfl, hg14, B14, ex⟩
        refine ⟨_, rfl, .inr ex, ?_⟩
        replace HA := HA.ext ex
        replace HB := HB.ext ex
        replace E := E.ext ex
        replace H3 := H3.ext ex
        replace HL := HL.ext ex
        have H14 := bs_blk' B14 (Mac.tag_length _ _)
        refine wm_one 5 (by kernel_rfl) ?_; refine om_call rfl Try.func21 rfl rfl rfl (macSame_any _ _ 32 32 32 32 _ _ _ H3 H14 (by omega) (by omega)) rfl ?_
        rintro e w15 ⟨rfl, ex⟩
        refine ⟨_, rfl, .inr ex, ?_⟩
        replace HA := HA.ext ex
        replace HB := HB.ext ex
        replace E := E.ext ex
        replace H3 := H3.ext ex
        replace HL := HL.ext ex
        replace H14 := H14.ext ex
        rw [decide_eq_true (by rw [f1, tag_zeros xs ys k (by omega)])]
        refine wm_y 6 rfl (by kernel_rfl) (y_move rfl) rfl ?_
        refine wm_gy 7 rfl (by kernel_rfl) 59 rfl rfl (y_move rfl) rfl ?_
        refine wm_gy 8 rfl (by kernel_rfl) 59 rfl rfl (y_move rfl) rfl ?_
        refine wm_gy 9 rfl (by kernel_rfl) 59 rfl rfl (y_move rfl) rfl ?_
        refine wm_gy 10 rfl (by kernel_rfl) 59 rfl rfl (y_move rfl) rfl ?_
        refine wm_gy 11 rfl (by kernel_rfl) 59 rfl rfl (y_cuth (s := 1) rfl rfl Try.underlying22 (by kernel_rfl) (j := m / 2) (by omega) (by omega)) rfl ?_
        refine wm_gy 12 rfl (by kernel_rfl) 59 rfl rfl (y_move rfl) rfl ?_
        refine wm_gy 13 rfl (by kernel_rfl) 59 rfl rfl (y_move rfl) rfl ?_
        refine wm_gy 14 rfl (by kernel_rfl) 59 rfl rfl (y_cutl (s := 1) rfl rfl Try.underlying22 (by kernel_rfl) (j := m / 2) (by omega) (by omega)) rfl ?_
        refine wm_one 15 (by kernel_rfl) ?_; refine om_gef rfl 59 rfl rfl (ef_lit (z := .slice none 0 0) Try.underlying36 (by kernel_rfl) rfl rfl rfl rfl rfl) rfl ?_
        rintro _ w16 ⟨g16, rfl, B16, hg16, ex⟩
        refine ⟨.inr ex, ?_⟩
        replace HA := HA.ext ex
        replace HB := HB.ext ex
        replace E := E.ext ex
        replace H3 := H3.ext ex
        replace HL := HL.ext ex
        replace H14 := H14.ext ex
        have S16 := bss_three B16 (HB.take (k := m / 2) (by omega)) (Bs.nil _ none) (HB.cutA (j := m / 2) (by omega) hd)
        refine wm_one 16 (by kernel_rfl) ?_; refine om_gcall rfl 59 rfl rfl Try.func22 rfl rfl rfl (tag_any _ _ n c 3 3 xs _ _ HA (by omega) S16 (by omega) (by simp; omega)) rfl ?_
        rintro e w17 ⟨g17, rfl, hg17, B17, ex⟩
        refine ⟨_, rfl, .inr ex, ?_⟩
        replace HA := HA.ext ex
        replace HB := HB.ext ex
        replace E := E.ext ex
        replace H3 := H3.ext ex
        replace HL := HL.ext ex
        replace H14 := H14.ext ex
        have H17 := bs_blk' B17 (Mac.tag_length _ _)
        refine wm_one 17 (by kernel_rfl) ?_; refine om_gcall rfl 59 rfl rfl Try.func21 rfl rfl rfl (macSame_any _ _ 32 32 32 32 _ _ _ H3 H17 (by omega) (by omega)) rfl ?_
        rintro e w18 ⟨rfl, ex⟩
        refine ⟨_, rfl, .inr ex, ?_⟩
        replace HA := HA.ext ex
        replace HB := HB.ext ex
        replace E := E.ext ex
        replace H3 := H3.ext ex
        replace HL := HL.ext ex
        replace H14 := H14.ext ex
        replace H17 := H17.ext ex
        rw [decide_eq_true (by simp)]
        refine wm_y 18 rfl (by kernel_rfl) (y_pickt rfl rfl) rfl ?_
        refine wm_y 19 rfl (by kernel_rfl) (y_move rfl) rfl ?_
        refine wm_gy 20 rfl (by kernel_rfl) 72 rfl rfl (y_move rfl) rfl ?_
        refine wm_gy 21 rfl (by kernel_rfl) 72 rfl rfl (y_len_slice rfl Try.underlying22) rfl ?_
        refine wm_gy 22 rfl (by kernel_rfl) 72 rfl rfl (Y.as (y_eql rfl rfl) (congrArg Value.bool (decide_eq_true rfl))) rfl ?_
        refine wm_y 23 rfl (by kernel_rfl) (y_pickt rfl rfl) rfl ?_
        refine wm_y 24 rfl (by kernel_rfl) (y_assign rfl) rfl ?_
        refine wm_done (by kernel_rfl) ?_
        refine wq_nop ?_
        refine wq_then_norm (hK16 ?_)
        refine wc_ret ?_
        refine hret rfl ?_
        exact ⟨rfl, E⟩
end Go.Proofs.Ytijnolhjkdhecaa
