/- kdf's and the reference's Label, Secret, Extract, Ref: what each hands back; the chapter's example. Lengths up to 2^20. -/
import Derived.Test.YtopbahbhldgbbaaKdfB
namespace Go.Proofs.Ytopbahbhldgbbaa
open Go.RowKit
attribute [local irreducible] Y Ef WL WC WK WQ WM OpM
theorem mls_cat (s : ByteArray) : ((⟨#[77, 76, 83, 32, 49, 46, 48, 32]⟩ : ByteArray) ++ s).data.toList = Kdf.mls ++ s.data.toList := by
  simp [Kdf.mls]
theorem mls_size (s : ByteArray) : ((⟨#[77, 76, 83, 32, 49, 46, 48, 32]⟩ : ByteArray) ++ s).size = 8 + s.size := by
  rw [ByteArray.size_append]; rfl
theorem extract_any (A B : Option Addr) (n c m d : Nat) (xs ys : List UInt8) (w : World) (HA : Bs w A n xs) (hn : n ≤ 35184372088832) (HB : Bs w B m ys) (hm : m ≤ 35184372088000) :
    Calls Try.prog 48 #[.slice A n c, .slice B m d] w fun e w' => ∃ A' c', e = .returned (.slice A' 32 c') ∧ Bs w' A' 32 (Mac.tag xs ys) ∧ Ext w w' := by
  have E := Ext.refl w
  refine vc_enter1 9 Try.func48 rfl rfl rfl rfl ?_
  intro Q hret
  refine wc_seq ?_; intro K1 hK1
  refine wc_region ?_
  refine wl_y (y_assign rfl) rfl ?_
  refine wl_nil ?_
  refine wq_then_norm (hK1 ?_)
  refine wc_seq ?_; intro K2 hK2
  refine wc_region ?_
  refine wl_y (y_move rfl) rfl ?_
  refine wl_y (y_move rfl) rfl ?_
  refine wl_ef (ef_lit (z := .slice none 0 0) Try.underlying22 (by kernel_rfl) rfl rfl rfl rfl rfl) rfl ?_
  rintro _ w1 ⟨g1, rfl, B1, hg1, ex⟩
  replace HA := HA.ext ex
  replace HB := HB.ext ex
  replace E := E.ext ex
  have S1 := bss_one B1 HB
  refine wl_call Try.func64 rfl rfl rfl (tag_any A _ n c 1 1 xs _ _ HA hn S1 (by omega) (by simp [HB.1]; omega)) rfl ?_
  rintro e w2 ⟨g2, rfl, hg2, B2, ex⟩
  refine ⟨_, rfl, ?_⟩
  replace HA := HA.ext ex
  replace HB := HB.ext ex
  replace E := E.ext ex
  have H2 := bs_blk' B2 (Mac.tag_length _ _)
  refine wl_y (y_assign rfl) rfl ?_
  refine wl_nil ?_
  refine wq_then_norm (hK2 ?_)
  refine wc_ret ?_
  refine hret rfl ?_
  exact ⟨_, _, rfl, by simpa using H2, E⟩
theorem label_bad (A B : Option Addr) (n c m d : Nat) (s : ByteArray) (z : Int) (w : World) (hz : z < 0 ∨ 8160 < z) :
    Calls Try.prog 40 #[.slice A n c, .string s, .slice B m d, .int .i64 z] w fun e w' => e = .returned (.tuple #[.slice none 0 0, .int .u8 1]) ∧ Ext w w' := by
  refine vc_enter2 43 Try.func40 rfl rfl rfl rfl ?_
  intro Q hret
  refine wc_seq ?_; intro K1 hK1
  refine wc_region ?_
  refine wl_y (y_assign rfl) rfl ?_
  refine wl_y (y_assign rfl) rfl ?_
  refine wl_nil ?_
  refine wq_then_norm (hK1 ?_)
  refine wc_seq ?_; intro K2 hK2
  refine wc_block ?_
  refine wc_seq ?_; intro K3 hK3
  refine wc_region ?_
  refine wl_y (y_move rfl) rfl ?_
  refine wl_yask (y_lss rfl rfl) rfl (fun h1 => ?_) (fun h1 => ?_)
  · skip
    refine wl_y (y_move rfl) rfl ?_
    refine wl_gno 14 rfl rfl rfl rfl ?_
    refine wl_gno 14 rfl rfl rfl rfl ?_
    refine wl_y (y_pickt rfl rfl) rfl ?_
    refine wl_y (y_assign rfl) rfl ?_
    refine wl_nil ?_
    refine wq_then_norm (hK3 ?_)
    refine wc_true rfl rfl ?_
    refine wc_seq ?_; intro K4 hK4
    refine wc_region ?_
    refine wl_y (y_assign rfl) rfl ?_
    refine wl_y (y_assign rfl) rfl ?_
    refine wl_nil ?_
    refine wq_then_norm (hK4 ?_)
    refine wc_ret ?_
    refine wq_blk_ret ?_
    refine wq_then_ret ?_
    refine hret rfl rfl ?_
    exact ⟨rfl, Ext.refl _⟩
  · skip
    refine wl_y (y_move rfl) rfl ?_
    refine wl_gy 14 rfl rfl (y_move rfl) rfl ?_
    refine wl_gyask 14 rfl rfl (y_gtr rfl rfl) rfl (fun h2 => ?_) (fun h2 => ?_)
    · skip
      refine wl_y (y_pickf rfl rfl) rfl ?_
      refine wl_y (y_assign rfl) rfl ?_
      refine wl_nil ?_
      refine wq_then_norm (hK3 ?_)
      refine wc_true rfl rfl ?_
      refine wc_seq ?_; intro K5 hK5
      refine wc_region ?_
      refine wl_y (y_assign rfl) rfl ?_
      refine wl_y (y_assign rfl) rfl ?_
      refine wl_nil ?_
      refine wq_then_norm (hK5 ?_)
      refine wc_ret ?_
      refine wq_blk_ret ?_
      refine wq_then_ret ?_
      refine hret rfl rfl ?_
      exact ⟨rfl, Ext.refl _⟩
    · skip
      exfalso; omega
theorem label_any (A B : Option Addr) (n c m d k : Nat) (s : ByteArray) (ks cs : List UInt8) (w : World) (HA : Bs w A n ks) (hn : n ≤ 35184372088832) (hs : s.size ≤ 1048576) (HB : Bs w B m cs) (hm : m ≤ 1048576) (hk : k ≤ 8160) :
    Calls Try.prog 40 #[.slice A n c, .string s, .slice B m d, .int .i64 (k : Int)] w fun e w' => ∃ A' c', e = .returned (.tuple #[.slice A' k c', .int .u8 0]) ∧ Bs w' A' k (Kdf.label ks s.data.toList cs k) ∧ k ≤ c' ∧ Ext w w' := by
  have E := Ext.refl w
  have hl1 := Wire.lsz_le (8 + s.size); have hl2 := Wire.lsz_le m
  have hcs : (⟨#[77, 76, 83, 32, 49, 46, 48, 32]⟩ : ByteArray).size = 8 := rfl
  refine vc_enter2 43 Try.func40 rfl rfl rfl rfl ?_
  intro Q hret
  refine wc_seq ?_; intro K1 hK1
  refine wc_region ?_
  refine wl_y (y_assign rfl) rfl ?_
  refine wl_y (y_assign rfl) rfl ?_
  refine wl_nil ?_
  refine wq_then_norm (hK1 ?_)
  refine wc_seq ?_; intro K2 hK2
  refine wc_block ?_
  refine wc_seq ?_; intro K3 hK3
  refine wc_region ?_
  refine wl_y (y_move rfl) rfl ?_
  refine wl_y (Y.as (y_lss rfl rfl) (congrArg Value.bool (decide_eq_false (by omega)))) rfl ?_
  refine wl_y (y_move rfl) rfl ?_
  refine wl_gy 14 rfl rfl (y_move rfl) rfl ?_
  refine wl_gy 14 rfl rfl (Y.as (y_gtr rfl rfl) (congrArg Value.bool (decide_eq_false (by omega)))) rfl ?_
  refine wl_y (y_pickf rfl rfl) rfl ?_
  refine wl_y (y_assign rfl) rfl ?_
  refine wl_nil ?_
  refine wq_then_norm (hK3 ?_)
  refine wc_false rfl rfl ?_
  refine wc_seq ?_; intro K4 hK4
  refine wc_region ?_
  refine wl_y (y_move rfl) rfl ?_
  refine wl_y (y_len_str rfl Try.underlying9) rfl ?_
  refine wl_y (Y.as (y_gtr rfl rfl) (congrArg Value.bool (decide_eq_false (by omega)))) rfl ?_
  refine wl_y (y_move rfl) rfl ?_
  refine wl_gy 22 rfl rfl (y_move rfl) rfl ?_
  refine wl_gy 22 rfl rfl (y_len_slice rfl Try.underlying24) rfl ?_
  refine wl_gy 22 rfl rfl (Y.as (y_gtr rfl rfl) (congrArg Value.bool (decide_eq_false (by omega)))) rfl ?_
  refine wl_y (y_pickf rfl rfl) rfl ?_
  refine wl_y (y_assign rfl) rfl ?_
  refine wl_nil ?_
  refine wq_then_norm (hK4 ?_)
  refine wc_false rfl rfl ?_
  refine wc_skip ?_
  refine wq_blk_norm ?_
  refine wq_then_norm (hK2 ?_)
  refine wc_seq ?_; intro K5 hK5
  refine wc_region ?_
  refine wl_y (y_move rfl) rfl ?_
  refine wl_y (y_conv rfl Try.underlying3 Try.underlying37 (IntWalk.u64_in _ ⟨by omega, by omega⟩)) rfl ?_
  refine wl_call Try.func67 rfl rfl rfl (putNum_any none 0 0 2 k [] _ (Bs.nil _ _) (by omega) (by omega) (by omega)) rfl ?_
  rintro e w1 ⟨A1, c1, rfl, R1, ex⟩
  refine ⟨_, rfl, ?_⟩
  replace HA := HA.ext ex
  replace HB := HB.ext ex
  replace E := E.ext ex
  have H1 := R1.bs
  refine wl_y (y_assign rfl) rfl ?_
  refine wl_nil ?_
  refine wq_then_norm (hK5 ?_)
  refine wc_seq ?_; intro K6 hK6
  refine wc_region ?_
  refine wl_y (y_move rfl) rfl ?_
  refine wl_y (y_move rfl) rfl ?_
  refine wl_y (y_strcat rfl rfl (by omega)) rfl ?_
  refine wl_ef (ef_str rfl Try.underlying9 Try.underlying24 Try.underlying5) rfl ?_
  rintro _ w2 ⟨g2, c2, rfl, H2, hg2, ex⟩
  replace HA := HA.ext ex
  replace HB := HB.ext ex
  replace E := E.ext ex
  replace H1 := H1.ext ex
  rw [mls_cat, mls_size] at H2
  refine wl_call Try.func62 rfl rfl rfl (putVec_any A1 _ _ c1 _ c2 _ _ _ H1 (by omega) (by rw [mls_size]; exact H2) (by rw [mls_size]; omega)) rfl ?_
  rintro e w3 ⟨A3, k3, c3, rfl, R3, hk3, ex⟩
  refine ⟨_, rfl, ?_⟩
  replace HA := HA.ext ex
  replace HB := HB.ext ex
  replace E := E.ext ex
  replace H1 := H1.ext ex
  have H3 := R3.bs; rw [mls_size] at hk3
  refine wl_y (y_assign rfl) rfl ?_
  refine wl_nil ?_
  refine wq_then_norm (hK6 ?_)
  refine wc_seq ?_; intro K7 hK7
  refine wc_region ?_
  refine wl_y (y_move rfl) rfl ?_
  refine wl_y (y_move rfl) rfl ?_
  refine wl_y (y_move rfl) rfl ?_
  refine wl_call Try.func62 rfl rfl rfl (putVec_any A3 B k3 c3 m d _ cs _ H3 (by omega) HB (by omega)) rfl ?_
  rintro e w4 ⟨A4, k4, c4, rfl, R4, hk4, ex⟩
  refine ⟨_, rfl, ?_⟩
  replace HA := HA.ext ex
  replace HB := HB.ext ex
  replace E := E.ext ex
  replace H1 := H1.ext ex
  replace H3 := H3.ext ex
  have H4 := R4.bs
  refine wl_y (y_move rfl) rfl ?_
  refine wl_call Try.func68 rfl rfl rfl (expand_any A A4 n c k4 c4 k ks _ _ HA hn H4 (by omega) hk) rfl ?_
  rintro e w5 ⟨A5, c5, rfl, H5, hc5, ex⟩
  refine ⟨_, rfl, ?_⟩
  replace HA := HA.ext ex
  replace HB := HB.ext ex
  replace E := E.ext ex
  replace H1 := H1.ext ex
  replace H3 := H3.ext ex
  replace H4 := H4.ext ex
  skip
  refine wl_y (y_extract rfl rfl) rfl ?_
  refine wl_y (y_extract rfl rfl) rfl ?_
  refine wl_y (y_assign rfl) rfl ?_
  refine wl_y (y_assign rfl) rfl ?_
  refine wl_nil ?_
  refine wq_then_norm (hK7 ?_)
  refine wc_ret ?_
  refine hret rfl rfl ?_
  exact ⟨A5, c5, rfl, H5, hc5, E⟩
theorem secret_any (A : Option Addr) (n c : Nat) (s : ByteArray) (ks : List UInt8) (w : World) (HA : Bs w A n ks) (hn : n ≤ 35184372088832) (hs : s.size ≤ 1048576) :
    Calls Try.prog 41 #[.slice A n c, .string s] w fun e w' => ∃ A' c', e = .returned (.slice A' 32 c') ∧ Bs w' A' 32 (Kdf.label ks s.data.toList [] 32) ∧ Ext w w' := by
  refine vc_enter1 14 Try.func41 rfl rfl rfl rfl ?_
  intro Q hret
  refine wc_seq ?_; intro K1 hK1
  refine wc_region ?_
  refine wl_y (y_assign rfl) rfl ?_
  refine wl_nil ?_
  refine wq_then_norm (hK1 ?_)
  refine wc_seq ?_; intro K2 hK2
  refine wc_region ?_
  refine wl_y (y_move rfl) rfl ?_
  refine wl_y (y_move rfl) rfl ?_
  refine wl_call Try.func40 rfl rfl rfl (label_any A none n c 0 0 32 s ks [] _ HA hn hs (Bs.nil _ _) (by omega) (by omega)) rfl ?_
  rintro e w1 ⟨A1, c1, rfl, H1, hc1, ex⟩
  refine ⟨_, rfl, ?_⟩
  skip
  refine wl_y (y_move rfl) rfl ?_
  refine wl_y (y_extract rfl rfl) rfl ?_
  refine wl_y (y_extract rfl rfl) rfl ?_
  refine wl_y (y_assign rfl) rfl ?_
  refine wl_y (y_assign rfl) rfl ?_
  refine wl_nil ?_
  refine wq_then_norm (hK2 ?_)
  refine wc_seq ?_; intro K3 hK3
  refine wc_region ?_
  refine wl_y (y_move rfl) rfl ?_
  refine wl_y (y_assign rfl) rfl ?_
  refine wl_nil ?_
  refine wq_then_norm (hK3 ?_)
  refine wc_ret ?_
  refine hret rfl ?_
  exact ⟨A1, c1, rfl, H1, ex⟩
theorem refLabel_any (A B : Option Addr) (n c m d k : Nat) (s : ByteArray) (ks cs : List UInt8) (w : World) (HA : Bs w A n ks) (hn : n ≤ 35184372088832) (hs : s.size ≤ 1048576) (HB : Bs w B m cs) (hm : m ≤ 1048576) (hk : k ≤ 8160) :
    Calls Try.prog 37 #[.slice A n c, .string s, .slice B m d, .int .i64 (k : Int)] w fun e w' => ∃ A' c', e = .returned (.slice A' k c') ∧ Bs w' A' k (Kdf.label ks s.data.toList cs k) ∧ Ext w w' := by
  have E := Ext.refl w
  have hl1 := Wire.lsz_le (8 + s.size); have hl2 := Wire.lsz_le m
  have hcs : (⟨#[77, 76, 83, 32, 49, 46, 48, 32]⟩ : ByteArray).size = 8 := rfl
  refine vc_enter1 26 Try.func37 rfl rfl rfl rfl ?_
  intro Q hret
  refine wc_seq ?_; intro K1 hK1
  have HA0 := HA; have HB0 := HB
  refine wc_region ?_
  refine wl_y (y_assign rfl) rfl ?_
  refine wl_nil ?_
  refine wq_then_norm (hK1 ?_)
  refine wc_seq ?_; intro K2 hK2
  refine wc_region ?_
  refine wl_y (y_move rfl) rfl ?_
  refine wl_y (y_conv rfl Try.underlying3 Try.underlying37 (IntWalk.u64_in _ ⟨by omega, by omega⟩)) rfl ?_
  refine wl_call Try.func65 rfl rfl rfl (refNum_any 2 k _ (by omega) (by omega)) rfl ?_
  rintro e w1 ⟨A1, c1, rfl, R1, ex⟩
  refine ⟨_, rfl, ?_⟩
  replace HA := HA.ext ex
  replace HB := HB.ext ex
  replace E := E.ext ex
  skip
  refine wl_y (y_assign rfl) rfl ?_
  refine wl_nil ?_
  refine wq_then_norm (hK2 ?_)
  refine wc_seq ?_; intro K3 hK3
  refine wc_region ?_
  refine wl_y (y_move rfl) rfl ?_
  refine wl_y (y_move rfl) rfl ?_
  refine wl_y (y_strcat rfl rfl (by omega)) rfl ?_
  refine wl_ef (ef_str rfl Try.underlying9 Try.underlying24 Try.underlying5) rfl ?_
  rintro _ w2 ⟨g2, c2, rfl, H2, hg2, ex⟩
  replace HA := HA.ext ex
  replace HB := HB.ext ex
  replace E := E.ext ex
  replace R1 := R1.ext ex
  rw [mls_cat, mls_size] at H2
  refine wl_call Try.func63 rfl rfl rfl (refVec_any _ _ c2 _ _ (by rw [mls_size]; exact H2) (by rw [mls_size]; omega)) rfl ?_
  rintro e w3 ⟨A3, k3, c3, rfl, R3, hk3, ex⟩
  refine ⟨_, rfl, ?_⟩
  replace HA := HA.ext ex
  replace HB := HB.ext ex
  replace E := E.ext ex
  replace R1 := R1.ext ex
  have H3 := R3.bs; have hs3 := E.size; rw [mls_size] at hk3
  refine wl_ef (ef_app rfl rfl eltB R1 H3.2 (by rw [List.length_map, H3.1]) (by intro u hu; exact bv_one u hu) (by omega) (by omega) hs3) rfl ?_
  rintro _ w4 ⟨A4, c4, rfl, R4, be, gr, hl⟩
  have E4 := E.trans be; have R5 := R4.cat
  refine wl_y (y_assign rfl) rfl ?_
  refine wl_nil ?_
  refine wq_then_norm (hK3 ?_)
  refine wc_seq ?_; intro K4 hK4
  refine wc_region ?_
  refine wl_y (y_move rfl) rfl ?_
  refine wl_y (y_move rfl) rfl ?_
  refine wl_y (y_move rfl) rfl ?_
  refine wl_call Try.func63 rfl rfl rfl (refVec_any B m d cs _ (HB0.wk E4) (by omega)) rfl ?_
  rintro e w5 ⟨A5, k5, c5, rfl, R6, hk5, ex⟩
  refine ⟨_, rfl, ?_⟩
  have R7 := R5.ext ex; have H6 := R6.bs; have E5 := E4.ext ex; have hs5 := E5.size
  refine wl_ef (ef_app rfl rfl eltB R7 H6.2 (by rw [List.length_map, H6.1]) (by intro u hu; exact bv_one u hu) (by omega) (by omega) hs5) rfl ?_
  rintro _ w6 ⟨A8, c8, rfl, R8, be, gr, hl⟩
  have E6 := E5.trans be; have H9 := R8.cat.bs
  refine wl_y (y_move rfl) rfl ?_
  refine wl_call Try.func66 rfl rfl rfl (refExpand_any A A8 n c _ c8 k ks _ _ (HA0.wk E6) hn H9 (by omega) hk) rfl ?_
  rintro e w7 ⟨A9, c9, rfl, H10, ex⟩
  refine ⟨_, rfl, ?_⟩
  have E7 := E6.ext ex
  refine wl_y (y_assign rfl) rfl ?_
  refine wl_nil ?_
  refine wq_then_norm (hK4 ?_)
  refine wc_ret ?_
  refine hret rfl ?_
  exact ⟨A9, c9, rfl, H10, E7⟩
end Go.Proofs.Ytopbahbhldgbbaa
