/- kdf's and the reference's Label, Secret, Extract, Ref: what each hands back; the chapter's example. Lengths up to 2^20. -/
import Derived.Test.YtijnolhjkdhecaaKdfB
namespace Go.Proofs.Ytijnolhjkdhecaa
open Go.RowKit
attribute [local irreducible] Y Ef WL WC WK WQ WM OpM
theorem mls_cat (s : ByteArray) : ((⟨#[77, 76, 83, 32, 49, 46, 48, 32]⟩ : ByteArray) ++ s).data.toList = Kdf.mls ++ s.data.toList := by
  simp [Kdf.mls]
theorem mls_size (s : ByteArray) : ((⟨#[77, 76, 83, 32, 49, 46, 48, 32]⟩ : ByteArray) ++ s).size = 8 + s.size := by
  rw [ByteArray.size_append]; rfl
theorem extract_any (A B : Option Addr) (n c m d : Nat) (xs ys : List UInt8) (w : World) (HA : Bs w A n xs) (hn : n ≤ 35184372088832) (HB : Bs w B m ys) (hm : m ≤ 35184372088000) :
    Calls Try.prog 31 #[.slice A n c, .slice B m d] w fun e w' => ∃ A' c', e = .returned (.slice A' 32 c') ∧ Bs w' A' 32 (Mac.tag xs ys) ∧ Ext w w' := by
  have E := Ext.refl w
  refine vc_enter1 9 Try.func31 rfl rfl rfl rfl ?_
  intro Q hret
  refine wc_seq ?_; intro K1 hK1
  refine wc_region ?_
  refine wl_y (y_assign rfl) rfl ?_
  refine wl_nil ?_
  refine wq_then_norm (hK1 ?_)
  refine wc_seq ?_; intro K2 hK2
  refine wc_region ?_
  refine wl_y (y_move rfl) rfl ?_
  refine wl_y (y_move rfl) rfl ?_
  refine wl_ef (ef_lit (z := .slice none 0 0) Try.underlying36 (by kernel_rfl) rfl rfl rfl rfl rfl) rfl ?_
  rintro _ w1 ⟨g1, rfl, B1, hg1, ex⟩
  replace HA := HA.ext ex
  replace HB := HB.ext ex
  replace E := E.ext ex
  have S1 := bss_one B1 HB
  refine wl_call Try.func22 rfl rfl rfl (tag_any A _ n c 1 1 xs _ _ HA hn S1 (by omega) (by simp [HB.1]; omega)) rfl ?_
  rintro e w2 ⟨g2, rfl, hg2, B2, ex⟩
  refine ⟨_, rfl, ?_⟩
  replace HA := HA.ext ex
  replace HB := HB.ext ex
  replace E := E.ext ex
  have H2 := bs_blk' B2 (Mac.tag_length _ _)
  refine wl_y (y_assign rfl) rfl ?_
  refine wl_nil ?_
  refine wq_then_norm (hK2 ?_)
  refine wc_ret ?_
  refine hret rfl ?_
  exact ⟨_, _, rfl, by simpa using H2, E⟩
theorem label_bad (A B : Option Addr) (n c m d : Nat) (s : ByteArray) (z : Int) (w : World) (hz : z < 0 ∨ 8160 < z) :
    Calls Try.prog 33 #[.slice A n c, .string s, .slice B m d, .int .i64 z] w fun e w' => e = .returned (.tuple #[.slice none 0 0, .int .u8 1]) ∧ Ext w w' := by
  refine vc_enter2 43 Try.func33 rfl rfl rfl rfl ?_
  intro Q hret
  refine wc_seq ?_; intro K1 hK1
  refine wc_region ?_
  refine wl_y (y_assign rfl) rfl ?_
  refine wl_y (y_assign rfl) rfl ?_
  refine wl_nil ?_
  refine wq_then_norm (hK1 ?_)
  refine wc_seq ?_; intro K2 hK2
  refine wc_block ?_
  refine wc_seq ?_; intro K3 hK3
  refine wc_region ?_
  refine wl_y (y_move rfl) rfl ?_
  refine wl_yask (y_lss rfl rfl) rfl (fun h1 => ?_) (fun h1 => ?_)
  · skip
    refine wl_y (y_move rfl) rfl ?_
    refine wl_gno 14 rfl rfl rfl rfl ?_
    refine wl_gno 14 rfl rfl rfl rfl ?_
    refine wl_y (y_pickt rfl rfl) rfl ?_
    refine wl_y (y_assign rfl) rfl ?_
    refine wl_nil ?_
    refine wq_then_norm (hK3 ?_)
    refine wc_true rfl rfl ?_
    refine wc_seq ?_; intro K4 hK4
    refine wc_region ?_
    refine wl_y (y_assign rfl) rfl ?_
    refine wl_y (y_assign rfl) rfl ?_
    refine wl_nil ?_
    refine wq_then_norm (hK4 ?_)
    refine wc_ret ?_
    refine wq_blk_ret ?_
    refine wq_then_ret ?_
    refine hret rfl rfl ?_
    exact ⟨rfl, Ext.refl _⟩
  · skip
    refine wl_y (y_move rfl) rfl ?_
    refine wl_gy 14 rfl rfl (y_move rfl) rfl ?_
    refine wl_gyask 14 rfl rfl (y_gtr rfl rfl) rfl (fun h2 => ?_) (fun h2 => ?_)
    · skip
      refine wl_y (y_pickf rfl rfl) rfl ?_
      refine wl_y (y_assign rfl) rfl ?_
      refine wl_nil ?_
      refine wq_then_norm (hK3 ?_)
      refine wc_true rfl rfl ?_
      refine wc_seq ?_; intro K5 hK5
      refine wc_region ?_
      refine wl_y (y_assign rfl) rfl ?_
      refine wl_y (y_assign rfl) rfl ?_
      refine wl_nil ?_
      refine wq_then_norm (hK5 ?_)
      refine wc_ret ?_
      refine wq_blk_ret ?_
      refine wq_then_ret ?_
      refine hret rfl rfl ?_
      exact ⟨rfl, Ext.refl _⟩
    · skip
      exfalso; omega
theorem label_any (A B : Option Addr) (n c m d k : Nat) (s : ByteArray) (ks cs : List UInt8) (w : World) (HA : Bs w A n ks) (hn : n ≤ 35184372088832) (hs : s.size ≤ 1048576) (HB : Bs w B m cs) (hm : m ≤ 1048576) (hk : k ≤ 8160) :
    Calls Try.prog 33 #[.slice A n c, .string s, .slice B m d, .int .i64 (k : Int)] w fun e w' => ∃ A' c', e = .returned (.tuple #[.slice A' k c', .int .u8 0]) ∧ Bs w' A' k (Kdf.label ks s.data.toList cs k) ∧ k ≤ c' ∧ Ext w w' := by
  have E := Ext.refl w
  have hl1 := Wire.lsz_le (8 + s.size); have hl2 := Wire.lsz_le m
  have hcs : (⟨#[77, 76, 83, 32, 49, 46, 48, 32]⟩ : ByteArray).size = 8 := rfl
  refine vc_enter2 43 Try.func33 rfl rfl rfl rfl ?_
  intro Q hret
  refine wc_seq ?_; intro K1 hK1
  refine wc_region ?_
  refine wl_y (y_assign rfl) rfl ?_
  refine wl_y (y_assign rfl) rfl ?_
  refine wl_nil ?_
  refine wq_then_norm (hK1 ?_)
  refine wc_seq ?_; intro K2 hK2
  refine wc_block ?_
  refine wc_seq ?_; intro K3 hK3
  refine wc_region ?_
  refine wl_y (y_move rfl) rfl ?_
  refine wl_y (Y.as (y_lss rfl rfl) (congrArg Value.bool (decide_eq_false (by omega)))) rfl ?_
  refine wl_y (y_move rfl) rfl ?_
  refine wl_gy 14 rfl rfl (y_move rfl) rfl ?_
  refine wl_gy 14 rfl rfl (Y.as (y_gtr rfl rfl) (congrArg Value.bool (decide_eq_false (by omega)))) rfl ?_
  refine wl_y (y_pickf rfl rfl) rfl ?_
  refine wl_y (y_assign rfl) rfl ?_
  refine wl_nil ?_
  refine wq_then_norm (hK3 ?_)
  refine wc_false rfl rfl ?_
  refine wc_seq ?_; intro K4 hK4
  refine wc_region ?_
  refine wl_y (y_move rfl) rfl ?_
  refine wl_y (y_len_str rfl Try.underlying9) rfl ?_
  refine wl_y (Y.as (y_gtr rfl rfl) (congrArg Value.bool (decide_eq_false (by omega)))) rfl ?_
  refine wl_y (y_move rfl) rfl ?_
  refine wl_gy 22 rfl rfl (y_move rfl) rfl ?_
  refine wl_gy 22 rfl rfl (y_len_slice rfl Try.underlying22) rfl ?_
  refine wl_gy 22 rfl rfl (Y.as (y_gtr rfl rfl) (congrArg Value.bool (decide_eq_false (by omega)))) rfl ?_
  refine wl_y (y_pickf rfl rfl) rfl ?_
  refine wl_y (y_assign rfl) rfl ?_
  refine wl_nil ?_
  refine wq_then_norm (hK4 ?_)
  refine wc_false rfl rfl ?_
  refine wc_skip ?_
  refine wq_blk_norm ?_
  refine wq_then_norm (hK2 ?_)
  refine wc_seq ?_; intro K5 hK5
  refine wc_region ?_
  refine wl_y (y_move rfl) rfl ?_
  refine wl_y (y_conv rfl Try.underlying3 Try.underlying76 (IntWalk.u64_in _ ⟨by omega, by omega⟩)) rfl ?_
  refine wl_call Try.func52 rfl rfl rfl (putNum_any none 0 0 2 k [] _ (Bs.nil _ _) (by omega) (by omega) (by omega)) rfl ?_
  rintro e w1 ⟨A1, c1, rfl, R1, ex⟩
  refine ⟨_, rfl, ?_⟩
  replace HA := HA.ext ex
  replace HB := HB.ext ex
  replace E := E.ext ex
  have H1 := R1.bs
  refine wl_y (y_assign rfl) rfl ?_
  refine wl_nil ?_
  refine wq_then_norm (hK5 ?_)
  refine wc_seq ?_; intro K6 hK6
  refine wc_region ?_
  refine wl_y (y_move rfl) rfl ?_
  refine wl_y (y_move rfl) rfl ?_
  refine wl_y (y_strcat rfl rfl (by omega)) rfl ?_
  refine wl_ef (ef_str rfl Try.underlying9 Try.underlying22 Try.underlying5) rfl ?_
  rintro _ w2 ⟨g2, c2, rfl, H2, hg2, ex⟩
  replace HA := HA.ext ex
  replace HB := HB.ext ex
  replace E := E.ext ex
  replace H1 := H1.ext ex
  rw [mls_cat, mls_size] at H2
  refine wl_call Try.func53 rfl rfl rfl (putVec_any A1 _ _ c1 _ c2 _ _ _ H1 (by omega) (by rw [mls_size]; exact H2) (by rw [mls_size]; omega)) rfl ?_
  rintro e w3 ⟨A3, k3, c3, rfl, R3, hk3, ex⟩
  refine ⟨_, rfl, ?_⟩
  replace HA := HA.ext ex
  replace HB := HB.ext ex
  replace E := E.ext ex
  replace H1 := H1.ext ex
  have H3 := R3.bs; rw [mls_size] at hk3
  refine wl_y (y_assign rfl) rfl ?_
  refine wl_nil ?_
  refine wq_then_norm (hK6 ?_)
  refine wc_seq ?_; intro K7 hK7
  refine wc_region ?_
  refine wl_y (y_move rfl) rfl ?_
  refine wl_y (y_move rfl) rfl ?_
  refine wl_y (y_move rfl) rfl ?_
  refine wl_call Try.func53 rfl rfl rfl (putVec_any A3 B k3 c3 m d _ cs _ H3 (by omega) HB (by omega)) rfl ?_
  rintro e w4 ⟨A4, k4, c4, rfl, R4, hk4, ex⟩
  refine ⟨_, rfl, ?_⟩
  replace HA := HA.ext ex
  replace HB := HB.ext ex
  replace E := E.ext ex
  replace H1 := H1.ext ex
  replace H3 := H3.ext ex
  have H4 := R4.bs
  refine wl_y (y_move rfl) rfl ?_
  refine wl_call Try.func30 rfl rfl rfl (expand_any A A4 n c k4 c4 k ks _ _ HA hn H4 (by omega) hk) rfl ?_
  rintro e w5 ⟨A5, c5, rfl, H5, hc5, ex⟩
  refine ⟨_, rfl, ?_⟩
  replace HA := HA.ext ex
  replace HB := HB.ext ex
  replace E := E.ext ex
  replace H1 := H1.ext ex
  replace H3 := H3.ext ex
  replace H4 := H4.ext ex
  skip
  refine wl_y (y_extract rfl rfl) rfl ?_
  refine wl_y (y_extract rfl rfl) rfl ?_
  refine wl_y (y_assign rfl) rfl ?_
  refine wl_y (y_assign rfl) rfl ?_
  refine wl_nil ?_
  refine wq_then_norm (hK7 ?_)
  refine wc_ret ?_
  refine hret rfl rfl ?_
  exact ⟨A5, c5, rfl, H5, hc5, E⟩
theorem secret_any (A : Option Addr) (n c : Nat) (s : ByteArray) (ks : List UInt8) (w : World) (HA : Bs w A n ks) (hn : n ≤ 35184372088832) (hs : s.size ≤ 1048576) :
    Calls Try.prog 35 #[.slice A n c, .string s] w fun e w' => ∃ A' c', e = .returned (.slice A' 32 c') ∧ Bs w' A' 32 (Kdf.label ks s.data.toList [] 32) ∧ Ext w w' := by
  refine vc_enter1 14 Try.func35 rfl rfl rfl rfl ?_
  intro Q hret
  refine wc_seq ?_; intro K1 hK1
  refine wc_region ?_
  refine wl_y (y_assign rfl) rfl ?_
  refine wl_nil ?_
  refine wq_then_norm (hK1 ?_)
  refine wc_seq ?_; intro K2 hK2
  refine wc_region ?_
  refine wl_y (y_move rfl) rfl ?_
  refine wl_y (y_move rfl) rfl ?_
  refine wl_call Try.func33 rfl rfl rfl (label_any A none n c 0 0 32 s ks [] _ HA hn hs (Bs.nil _ _) (by omega) (by omega)) rfl ?_
  rintro e w1 ⟨A1, c1, rfl, H1, hc1, ex⟩
  refine ⟨_, rfl, ?_⟩
  skip
  refine wl_y (y_move rfl) rfl ?_
  refine wl_y (y_extract rfl rfl) rfl ?_
  refine wl_y (y_extract rfl rfl) rfl ?_
  refine wl_y (y_assign rfl) rfl ?_
  refine wl_y (y_assign rfl) rfl ?_
  refine wl_nil ?_
  refine wq_then_norm (hK2 ?_)
  refine wc_seq ?_; intro K3 hK3
  refine wc_region ?_
  refine wl_y (y_move rfl) rfl ?_
  refine wl_y (y_assign rfl) rfl ?_
  refine wl_nil ?_
  refine wq_then_norm (hK3 ?_)
  refine wc_ret ?_
  refine hret rfl ?_
  exact ⟨A1, c1, rfl, H1, ex⟩
theorem ref_any (B : Option Addr) (m d : Nat) (s : ByteArray) (cs : List UInt8) (w : World) (HB : Bs w B m cs) (hs : s.size ≤ 1048576) (hm : m ≤ 1048576) :
    Calls Try.prog 36 #[.string s, .slice B m d] w fun e w' => ∃ A' c', e = .returned (.slice A' 32 c') ∧ Bs w' A' 32 (Sha.sum (Wire.vec s.data.toList ++ Wire.vec cs)) ∧ Ext w w' := by
  have E := Ext.refl w
  have hl1 := Wire.lsz_le s.size; have hl2 := Wire.lsz_le m
  refine vc_enter1 12 Try.func36 rfl rfl rfl rfl ?_
  intro Q hret
  refine wc_seq ?_; intro K1 hK1
  refine wc_region ?_
  refine wl_y (y_assign rfl) rfl ?_
  refine wl_nil ?_
  refine wq_then_norm (hK1 ?_)
  refine wc_seq ?_; intro K2 hK2
  refine wc_region ?_
  refine wl_y (y_move rfl) rfl ?_
  refine wl_ef (ef_str rfl Try.underlying9 Try.underlying22 Try.underlying5) rfl ?_
  rintro _ w2 ⟨g2, c2, rfl, H2, hg2, ex⟩
  replace HB := HB.ext ex
  replace E := E.ext ex
  have hs2 := E.size
  refine wl_call Try.func53 rfl rfl rfl (putVec_any none _ 0 0 _ c2 [] _ _ (Bs.nil _ _) (by omega) H2 (by omega)) rfl ?_
  rintro e w3 ⟨A3, k3, c3, rfl, R3, hk3, ex⟩
  refine ⟨_, rfl, ?_⟩
  replace HB := HB.ext ex
  replace E := E.ext ex
  have H3 := R3.bs
  refine wl_y (y_move rfl) rfl ?_
  refine wl_call Try.func53 rfl rfl rfl (putVec_any A3 B k3 c3 m d _ cs _ H3 (by omega) HB (by omega)) rfl ?_
  rintro e w4 ⟨A4, k4, c4, rfl, R4, hk4, ex⟩
  refine ⟨_, rfl, ?_⟩
  replace HB := HB.ext ex
  replace E := E.ext ex
  replace H3 := H3.ext ex
  have H4 := R4.bs
  refine wl_ef (ef_lit (z := .slice none 0 0) Try.underlying36 (by kernel_rfl) rfl rfl rfl rfl rfl) rfl ?_
  rintro _ w5 ⟨g5, rfl, B5, hg5, ex⟩
  replace HB := HB.ext ex
  replace E := E.ext ex
  replace H3 := H3.ext ex
  replace H4 := H4.ext ex
  have S5 := bss_one B5 H4
  refine wl_call Try.func19 rfl rfl rfl (of_any _ 1 1 _ _ S5 (by omega) (by simp only [List.flatten_cons, List.flatten_nil, List.append_nil]; rw [H4.1]; omega)) rfl ?_
  rintro e w6 ⟨g6, rfl, hg6, B6, ex⟩
  refine ⟨_, rfl, ?_⟩
  replace HB := HB.ext ex
  replace E := E.ext ex
  replace H3 := H3.ext ex
  replace H4 := H4.ext ex
  have H6 := bs_blk' B6 (Sha.sum_length _)
  refine wl_y (y_assign rfl) rfl ?_
  refine wl_nil ?_
  refine wq_then_norm (hK2 ?_)
  refine wc_ret ?_
  refine hret rfl ?_
  exact ⟨_, _, rfl, by simpa using H6, E⟩
theorem refLabel_any (A B : Option Addr) (n c m d k : Nat) (s : ByteArray) (ks cs : List UInt8) (w : World) (HA : Bs w A n ks) (hn : n ≤ 35184372088832) (hs : s.size ≤ 1048576) (HB : Bs w B m cs) (hm : m ≤ 1048576) (hk : k ≤ 8160) :
    Calls Try.prog 34 #[.slice A n c, .string s, .slice B m d, .int .i64 (k : Int)] w fun e w' => ∃ A' c', e = .returned (.slice A' k c') ∧ Bs w' A' k (Kdf.label ks s.data.toList cs k) ∧ Ext w w' := by
  have E := Ext.refl w
  have hl1 := Wire.lsz_le (8 + s.size); have hl2 := Wire.lsz_le m
  have hcs : (⟨#[77, 76, 83, 32, 49, 46, 48, 32]⟩ : ByteArray).size = 8 := rfl
  refine vc_enter1 26 Try.func34 rfl rfl rfl rfl ?_
  intro Q hret
  refine wc_seq ?_; intro K1 hK1
  have HA0 := HA; have HB0 := HB
  refine wc_region ?_
  refine wl_y (y_assign rfl) rfl ?_
  refine wl_nil ?_
  refine wq_then_norm (hK1 ?_)
  refine wc_seq ?_; intro K2 hK2
  refine wc_region ?_
  refine wl_y (y_move rfl) rfl ?_
  refine wl_y (y_conv rfl Try.underlying3 Try.underlying76 (IntWalk.u64_in _ ⟨by omega, by omega⟩)) rfl ?_
  refine wl_call Try.func54 rfl rfl rfl (refNum_any 2 k _ (by omega) (by omega)) rfl ?_
  rintro e w1 ⟨A1, c1, rfl, R1, ex⟩
  refine ⟨_, rfl, ?_⟩
  replace HA := HA.ext ex
  replace HB := HB.ext ex
  replace E := E.ext ex
  skip
  refine wl_y (y_assign rfl) rfl ?_
  refine wl_nil ?_
  refine wq_then_norm (hK2 ?_)
  refine wc_seq ?_; intro K3 hK3
  refine wc_region ?_
  refine wl_y (y_move rfl) rfl ?_
  refine wl_y (y_move rfl) rfl ?_
  refine wl_y (y_strcat rfl rfl (by omega)) rfl ?_
  refine wl_ef (ef_str rfl Try.underlying9 Try.underlying22 Try.underlying5) rfl ?_
  rintro _ w2 ⟨g2, c2, rfl, H2, hg2, ex⟩
  replace HA := HA.ext ex
  replace HB := HB.ext ex
  replace E := E.ext ex
  replace R1 := R1.ext ex
  rw [mls_cat, mls_size] at H2
  refine wl_call Try.func55 rfl rfl rfl (refVec_any _ _ c2 _ _ (by rw [mls_size]; exact H2) (by rw [mls_size]; omega)) rfl ?_
  rintro e w3 ⟨A3, k3, c3, rfl, R3, hk3, ex⟩
  refine ⟨_, rfl, ?_⟩
  replace HA := HA.ext ex
  replace HB := HB.ext ex
  replace E := E.ext ex
  replace R1 := R1.ext ex
  have H3 := R3.bs; have hs3 := E.size; rw [mls_size] at hk3
  refine wl_ef (ef_app rfl rfl eltB R1 H3.2 (by rw [List.length_map, H3.1]) (by intro u hu; exact bv_one u hu) (by omega) (by omega) hs3) rfl ?_
  rintro _ w4 ⟨A4, c4, rfl, R4, be, gr, hl⟩
  have E4 := E.trans be; have R5 := R4.cat
  refine wl_y (y_assign rfl) rfl ?_
  refine wl_nil ?_
  refine wq_then_norm (hK3 ?_)
  refine wc_seq ?_; intro K4 hK4
  refine wc_region ?_
  refine wl_y (y_move rfl) rfl ?_
  refine wl_y (y_move rfl) rfl ?_
  refine wl_y (y_move rfl) rfl ?_
  refine wl_call Try.func55 rfl rfl rfl (refVec_any B m d cs _ (HB0.wk E4) (by omega)) rfl ?_
  rintro e w5 ⟨A5, k5, c5, rfl, R6, hk5, ex⟩
  refine ⟨_, rfl, ?_⟩
  have R7 := R5.ext ex; have H6 := R6.bs; have E5 := E4.ext ex; have hs5 := E5.size
  refine wl_ef (ef_app rfl rfl eltB R7 H6.2 (by rw [List.length_map, H6.1]) (by intro u hu; exact bv_one u hu) (by omega) (by omega) hs5) rfl ?_
  rintro _ w6 ⟨A8, c8, rfl, R8, be, gr, hl⟩
  have E6 := E5.trans be; have H9 := R8.cat.bs
  refine wl_y (y_move rfl) rfl ?_
  refine wl_call Try.func32 rfl rfl rfl (refExpand_any A A8 n c _ c8 k ks _ _ (HA0.wk E6) hn H9 (by omega) hk) rfl ?_
  rintro e w7 ⟨A9, c9, rfl, H10, ex⟩
  refine ⟨_, rfl, ?_⟩
  have E7 := E6.ext ex
  refine wl_y (y_assign rfl) rfl ?_
  refine wl_nil ?_
  refine wq_then_norm (hK4 ?_)
  refine wc_ret ?_
  refine hret rfl ?_
  exact ⟨A9, c9, rfl, H10, E7⟩
theorem refRef_any (B : Option Addr) (m d : Nat) (s : ByteArray) (cs : List UInt8) (w : World) (HB : Bs w B m cs) (hs : s.size ≤ 1048576) (hm : m ≤ 1048576) :
    Calls Try.prog 37 #[.string s, .slice B m d] w fun e w' => ∃ A' c', e = .returned (.slice A' 32 c') ∧ Bs w' A' 32 (Sha.sum (Wire.vec s.data.toList ++ Wire.vec cs)) ∧ Ext w w' := by
  have E := Ext.refl w
  have hl1 := Wire.lsz_le s.size; have hl2 := Wire.lsz_le m
  refine vc_enter1 12 Try.func37 rfl rfl rfl rfl ?_
  intro Q hret
  refine wc_seq ?_; intro K1 hK1
  refine wc_region ?_
  refine wl_y (y_assign rfl) rfl ?_
  refine wl_nil ?_
  refine wq_then_norm (hK1 ?_)
  refine wc_seq ?_; intro K2 hK2
  refine wc_region ?_
  refine wl_y (y_move rfl) rfl ?_
  refine wl_ef (ef_str rfl Try.underlying9 Try.underlying22 Try.underlying5) rfl ?_
  rintro _ w2 ⟨g2, c2, rfl, H2, hg2, ex⟩
  replace HB := HB.ext ex
  replace E := E.ext ex
  have hs2 := E.size
  refine wl_call Try.func55 rfl rfl rfl (refVec_any _ _ c2 _ _ H2 (by omega)) rfl ?_
  rintro e w3 ⟨A3, k3, c3, rfl, R3, hk3, ex⟩
  refine ⟨_, rfl, ?_⟩
  replace HB := HB.ext ex
  replace E := E.ext ex
  replace R3 := R3.lower hs2
  refine wl_y (y_move rfl) rfl ?_
  refine wl_call Try.func55 rfl rfl rfl (refVec_any B m d cs _ HB (by omega)) rfl ?_
  rintro e w4 ⟨A4, k4, c4, rfl, R4, hk4, ex⟩
  refine ⟨_, rfl, ?_⟩
  replace HB := HB.ext ex
  replace E := E.ext ex
  replace R3 := R3.ext ex
  have H4 := R4.bs; have hs4 := E.size
  refine wl_ef (ef_app rfl rfl eltB R3 H4.2 (by rw [List.length_map, H4.1]) (by intro u hu; exact bv_one u hu) (by omega) (by omega) hs4) rfl ?_
  rintro _ w5 ⟨A5, c5, rfl, R5, be, gr, hl⟩
  have E5 := E.trans be; have H5 := R5.cat.bs
  refine wl_call Try.func18 rfl rfl rfl (digest_any A5 _ c5 _ _ H5 (by omega)) rfl ?_
  rintro e w6 ⟨A6, c6, rfl, O6, ex⟩
  refine ⟨_, rfl, ?_⟩
  have E6 := E5.ext ex; have H6 := O6.bs
  refine wl_y (y_assign rfl) rfl ?_
  refine wl_nil ?_
  refine wq_then_norm (hK2 ?_)
  refine wc_ret ?_
  refine hret rfl ?_
  exact ⟨_, _, rfl, H6, E6⟩
theorem alive5_any (w : World) : Calls Try.prog 29 #[] w fun e w' => e = .returned (.bool true) ∧ Ext w w' := by
  have E := Ext.refl w
  refine vc_enter1 35 Try.func29 rfl rfl rfl rfl ?_
  intro Q hret
  refine wc_seq ?_; intro K1 hK1
  refine wc_region ?_
  refine wl_y (y_assign rfl) rfl ?_
  refine wl_nil ?_
  refine wq_then_norm (hK1 ?_)
  refine wc_seq ?_; intro K2 hK2
  refine wc_region ?_
  refine wl_ef (ef_litX (z := .int .u8 0) Try.underlying22 (by kernel_rfl) rfl rfl rfl rfl rfl) rfl ?_
  rintro _ _ ⟨rfl, rfl⟩
  skip
  refine wl_ef (ef_mark rfl Try.underlying22 Try.underlying5) rfl ?_
  rintro _ w1 ⟨rfl, hw1⟩
  have ex := show Ext w w1 from by rw [hw1]; exact Ext.alloc _ _
  replace E := E.ext ex
  have S1 : Bs w1 (some ⟨w.heap.size, 0, none⟩) 1 [115] := by rw [hw1]; exact bs_marked (cs := [.int .u8 115]) rfl
  clear hw1
  refine wl_call Try.func30 rfl rfl rfl (expand_any _ none 1 1 0 0 0 [115] [] _ S1 (by omega) (Bs.nil _ _) (by omega) (by omega)) rfl ?_
  rintro e w2 ⟨A2, c2, rfl, H2, hc2, ex⟩
  refine ⟨_, rfl, ?_⟩
  replace E := E.ext ex
  skip
  refine wl_y (y_move rfl) rfl ?_
  refine wl_y (y_extract rfl rfl) rfl ?_
  refine wl_y (y_extract rfl rfl) rfl ?_
  refine wl_y (y_assign rfl) rfl ?_
  refine wl_y (y_assign rfl) rfl ?_
  refine wl_nil ?_
  refine wq_then_norm (hK2 ?_)
  refine wc_seq ?_; intro K3 hK3
  refine wc_region ?_
  refine wl_call Try.func30 rfl rfl rfl (expand_bad none none 0 0 0 0 (-1) _ (by omega)) rfl ?_
  rintro e w3 ⟨rfl, ex⟩
  refine ⟨_, rfl, ?_⟩
  replace E := E.ext ex
  skip
  refine wl_y (y_move rfl) rfl ?_
  refine wl_y (y_extract rfl rfl) rfl ?_
  refine wl_y (y_extract rfl rfl) rfl ?_
  refine wl_y (y_assign rfl) rfl ?_
  refine wl_y (y_assign rfl) rfl ?_
  refine wl_nil ?_
  refine wq_then_norm (hK3 ?_)
  refine wc_seq ?_; intro K4 hK4
  refine wc_region ?_
  refine wl_y (y_move rfl) rfl ?_
  refine wl_y (y_len_slice rfl Try.underlying22) rfl ?_
  refine wl_y (Y.as (y_eql rfl rfl) (congrArg Value.bool (decide_eq_true rfl))) rfl ?_
  refine wl_y (y_move rfl) rfl ?_
  refine wl_gy 18 rfl rfl (y_move rfl) rfl ?_
  refine wl_gy 18 rfl rfl (y_conv rfl Try.underlying45 Try.underlying3 (i64_ok (by omega) (by omega))) rfl ?_
  refine wl_gy 18 rfl rfl (Y.as (y_eql rfl rfl) (congrArg Value.bool (decide_eq_true rfl))) rfl ?_
  refine wl_y (y_pickt rfl rfl) rfl ?_
  refine wl_y (y_move rfl) rfl ?_
  refine wl_gy 23 rfl rfl (y_move rfl) rfl ?_
  refine wl_gy 23 rfl rfl (y_conv rfl Try.underlying45 Try.underlying3 (i64_ok (by omega) (by omega))) rfl ?_
  refine wl_gy 23 rfl rfl (Y.as (y_eql rfl rfl) (congrArg Value.bool (decide_eq_true rfl))) rfl ?_
  refine wl_y (y_pickt rfl rfl) rfl ?_
  refine wl_y (y_move rfl) rfl ?_
  refine wl_gef 28 rfl rfl (ef_litX (z := .int .u8 0) Try.underlying22 (by kernel_rfl) rfl rfl rfl rfl rfl) rfl ?_
  rintro _ _ ⟨rfl, rfl⟩
  skip
  refine wl_gef 28 rfl rfl (ef_mark rfl Try.underlying22 Try.underlying5) rfl ?_
  rintro _ w4 ⟨rfl, hw4⟩
  have ex := show Ext w3 w4 from by rw [hw4]; exact Ext.alloc _ _
  replace E := E.ext ex
  have S4 : Bs w4 (some ⟨w3.heap.size, 0, none⟩) 1 [115] := by rw [hw4]; exact bs_marked (cs := [.int .u8 115]) rfl
  clear hw4
  refine wl_gcall 28 rfl rfl Try.func35 rfl rfl rfl (secret_any _ 1 1 _ [115] _ S4 (by omega) (by decide)) rfl ?_
  rintro e w5 ⟨A5, c5, rfl, H5, ex⟩
  refine ⟨_, rfl, ?_⟩
  replace E := E.ext ex
  skip
  refine wl_gy 28 rfl rfl (y_len_slice rfl Try.underlying22) rfl ?_
  refine wl_gy 28 rfl rfl (Y.as (y_eql rfl rfl) (congrArg Value.bool (decide_eq_true rfl))) rfl ?_
  refine wl_y (y_pickt rfl rfl) rfl ?_
  refine wl_y (y_assign rfl) rfl ?_
  refine wl_nil ?_
  refine wq_then_norm (hK4 ?_)
  refine wc_ret ?_
  refine hret rfl ?_
  exact ⟨rfl, E⟩
theorem kdfCuts_law (A : Option Addr) (n c : Nat) (ks : List UInt8) (B : Option Addr) (m d : Nat) (is : List UInt8) (x y : Int) (w : World)
    (HA : Bs w A n ks) (hn : n ≤ maxLen) (HB : Bs w B m is) (hm : m ≤ maxLen) (hx : 0 ≤ x ∧ x ≤ 65535) (hy : 0 ≤ y ∧ y ≤ 65535) :
    Calls Try.prog 10 #[.slice A n c, .slice B m d, .int .u16 x, .int .u16 y] w fun e w' => e = .returned (.bool true) ∧ Below w.heap.size w w' := by
  unfold maxLen at hn hm
  have E := Ext.refl w
  refine vc_enter1 83 Try.func10 rfl rfl rfl rfl ?_
  intro Q hret
  refine wc_seq ?_; intro K1 hK1
  refine wc_region ?_
  refine wl_y (y_assign rfl) rfl ?_
  refine wl_nil ?_
  refine wq_then_norm (hK1 ?_)
  refine wc_seq ?_; intro K2 hK2
  refine wc_seq ?_; intro K3 hK3
  refine wc_region ?_
  refine wl_call Try.func29 rfl rfl rfl (alive5_any _) rfl ?_
  rintro e w1 ⟨rfl, ex⟩
  refine ⟨_, rfl, ?_⟩
  replace HA := HA.ext ex
  replace HB := HB.ext ex
  replace E := E.ext ex
  refine wl_y (y_not rfl) rfl ?_
  refine wl_nil ?_
  refine wq_then_norm (hK3 ?_)
  refine wc_false rfl rfl ?_
  refine wc_skip ?_
  refine wq_then_norm (hK2 ?_)
  refine wc_seq ?_; intro K4 hK4
  refine wc_seq ?_; intro K5 hK5
  refine wc_region ?_
  refine wl_y (y_move rfl) rfl ?_
  refine wl_y (y_len_slice rfl Try.underlying22) rfl ?_
  refine wl_yask (y_gtr rfl rfl) rfl (fun h1 => ?_) (fun h1 => ?_)
  · skip
    refine wl_y (y_move rfl) rfl ?_
    refine wl_gno 22 rfl rfl rfl rfl ?_
    refine wl_gno 22 rfl rfl rfl rfl ?_
    refine wl_gno 22 rfl rfl rfl rfl ?_
    refine wl_y (y_pickt rfl rfl) rfl ?_
    refine wl_nil ?_
    refine wq_then_norm (hK5 ?_)
    refine wc_true rfl rfl ?_
    refine wc_seq ?_; intro K6 hK6
    refine wc_region ?_
    refine wl_y (y_assign rfl) rfl ?_
    refine wl_nil ?_
    refine wq_then_norm (hK6 ?_)
    refine wc_ret ?_
    refine wq_then_ret ?_
    refine hret rfl ?_
    exact ⟨rfl, E⟩
  · skip
    refine wl_y (y_move rfl) rfl ?_
    refine wl_gy 22 rfl rfl (y_move rfl) rfl ?_
    refine wl_gy 22 rfl rfl (y_len_slice rfl Try.underlying22) rfl ?_
    refine wl_gyask 22 rfl rfl (y_gtr rfl rfl) rfl (fun h2 => ?_) (fun h2 => ?_)
    · skip
      refine wl_y (y_pickf rfl rfl) rfl ?_
      refine wl_nil ?_
      refine wq_then_norm (hK5 ?_)
      refine wc_true rfl rfl ?_
      refine wc_seq ?_; intro K7 hK7
      refine wc_region ?_
      refine wl_y (y_assign rfl) rfl ?_
      refine wl_nil ?_
      refine wq_then_norm (hK7 ?_)
      refine wc_ret ?_
      refine wq_then_ret ?_
      refine hret rfl ?_
      exact ⟨rfl, E⟩
    · skip
      refine wl_y (y_pickf rfl rfl) rfl ?_
      refine wl_nil ?_
      refine wq_then_norm (hK5 ?_)
      refine wc_false rfl rfl ?_
      refine wc_skip ?_
      refine wq_then_norm (hK4 ?_)
      refine wc_seq ?_; intro K8 hK8
      refine wc_region ?_
      refine wl_y (y_move rfl) rfl ?_
      refine wl_y (y_conv rfl Try.underlying43 Try.underlying3 (i64_ok (by omega) (by omega))) rfl ?_
      obtain ⟨a, ha⟩ : ∃ a : Nat, x % 8161 = a := Int.eq_ofNat_of_zero_le (by omega)
      obtain ⟨b, hb⟩ : ∃ b : Nat, y % 400 = b := Int.eq_ofNat_of_zero_le (by omega)
      refine wl_y (y_rem rfl rfl (by omega) (show x.tmod 8161 = (a : Int) by rw [← ha]; exact IntWalk.rem_in _ _ (by omega))) rfl ?_
      refine wl_y (y_move rfl) rfl ?_
      refine wl_y (y_conv rfl Try.underlying43 Try.underlying3 (i64_ok (by omega) (by omega))) rfl ?_
      refine wl_y (y_rem rfl rfl (by omega) (show y.tmod 400 = (b : Int) by rw [← hb]; exact IntWalk.rem_in _ _ (by omega))) rfl ?_
      refine wl_y (y_assign rfl) rfl ?_
      refine wl_y (y_assign rfl) rfl ?_
      refine wl_nil ?_
      refine wq_then_norm (hK8 ?_)
      refine wc_seq ?_; intro K9 hK9
      refine wc_seq ?_; intro K10 hK10
      refine wc_region ?_
      refine wl_y (y_move rfl) rfl ?_
      refine wl_y (y_move rfl) rfl ?_
      refine wl_y (y_gtr rfl rfl) rfl ?_
      refine wl_nil ?_
      refine wq_then_norm (hK10 ?_)
      refine wc_dec rfl (fun hc3 => ?_) (fun hc3 => ?_)
      · skip
        refine wc_region ?_
        refine wl_y (y_move rfl) rfl ?_
        refine wl_y (y_assign rfl) rfl ?_
        refine wl_nil ?_
        refine wq_then_norm (hK9 ?_)
        refine wc_seq ?_; intro K11 hK11
        refine wc_region ?_
        refine wl_y (y_move rfl) rfl ?_
        refine wl_y (y_move rfl) rfl ?_
        refine wl_y (y_move rfl) rfl ?_
        refine wl_call Try.func30 rfl rfl rfl (expand_any A B n c m d a ks is _ HA (by omega) HB (by omega) (by omega)) rfl ?_
        rintro e w2 ⟨A2, c2, rfl, H2, hc2, ex⟩
        refine ⟨_, rfl, ?_⟩
        replace HA := HA.ext ex
        replace HB := HB.ext ex
        replace E := E.ext ex
        skip
        refine wl_y (y_move rfl) rfl ?_
        refine wl_y (y_extract rfl rfl) rfl ?_
        refine wl_y (y_extract rfl rfl) rfl ?_
        refine wl_y (y_assign rfl) rfl ?_
        refine wl_y (y_assign rfl) rfl ?_
        refine wl_nil ?_
        refine wq_then_norm (hK11 ?_)
        refine wc_seq ?_; intro K12 hK12
        refine wc_region ?_
        refine wl_y (y_move rfl) rfl ?_
        refine wl_y (y_move rfl) rfl ?_
        refine wl_y (y_move rfl) rfl ?_
        refine wl_call Try.func30 rfl rfl rfl (expand_any A B n c m d a ks is _ HA (by omega) HB (by omega) (by omega)) rfl ?_
        rintro e w3 ⟨A3, c3, rfl, H3, hc3', ex⟩
        refine ⟨_, rfl, ?_⟩
        replace HA := HA.ext ex
        replace HB := HB.ext ex
        replace E := E.ext ex
        replace H2 := H2.ext ex
        skip
        refine wl_y (y_move rfl) rfl ?_
        refine wl_y (y_extract rfl rfl) rfl ?_
        refine wl_y (y_extract rfl rfl) rfl ?_
        refine wl_y (y_assign rfl) rfl ?_
        refine wl_y (y_assign rfl) rfl ?_
        refine wl_nil ?_
        refine wq_then_norm (hK12 ?_)
        refine wc_seq ?_; intro K13 hK13
        refine wc_region ?_
        refine wl_y (y_move rfl) rfl ?_
        refine wl_y (y_move rfl) rfl ?_
        refine wl_call Try.func30 rfl rfl rfl (expand_any A B n c m d 8160 ks is _ HA (by omega) HB (by omega) (by omega)) rfl ?_
        rintro e w4 ⟨A4, c4, rfl, H4, hc4, ex⟩
        refine ⟨_, rfl, ?_⟩
        replace HA := HA.ext ex
        replace HB := HB.ext ex
        replace E := E.ext ex
        replace H2 := H2.ext ex
        replace H3 := H3.ext ex
        skip
        refine wl_y (y_move rfl) rfl ?_
        refine wl_y (y_extract rfl rfl) rfl ?_
        refine wl_y (y_extract rfl rfl) rfl ?_
        refine wl_y (y_assign rfl) rfl ?_
        refine wl_y (y_assign rfl) rfl ?_
        refine wl_nil ?_
        refine wq_then_norm (hK13 ?_)
        refine wc_seq ?_; intro K14 hK14
        refine wc_region ?_
        refine wl_y (y_move rfl) rfl ?_
        refine wl_y (y_conv rfl Try.underlying45 Try.underlying3 (i64_ok (by omega) (by omega))) rfl ?_
        refine wl_y (Y.as (y_eql rfl rfl) (congrArg Value.bool (decide_eq_true rfl))) rfl ?_
        refine wl_y (y_move rfl) rfl ?_
        refine wl_gy 60 rfl rfl (y_move rfl) rfl ?_
        refine wl_gy 60 rfl rfl (y_conv rfl Try.underlying45 Try.underlying3 (i64_ok (by omega) (by omega))) rfl ?_
        refine wl_gy 60 rfl rfl (Y.as (y_eql rfl rfl) (congrArg Value.bool (decide_eq_true rfl))) rfl ?_
        refine wl_y (y_pickt rfl rfl) rfl ?_
        refine wl_y (y_move rfl) rfl ?_
        refine wl_gy 65 rfl rfl (y_move rfl) rfl ?_
        refine wl_gy 65 rfl rfl (y_conv rfl Try.underlying45 Try.underlying3 (i64_ok (by omega) (by omega))) rfl ?_
        refine wl_gy 65 rfl rfl (Y.as (y_eql rfl rfl) (congrArg Value.bool (decide_eq_true rfl))) rfl ?_
        refine wl_y (y_pickt rfl rfl) rfl ?_
        refine wl_y (y_move rfl) rfl ?_
        refine wl_gy 70 rfl rfl (y_move rfl) rfl ?_
        refine wl_gy 70 rfl rfl (y_len_slice rfl Try.underlying22) rfl ?_
        refine wl_gy 70 rfl rfl (y_move rfl) rfl ?_
        refine wl_gy 70 rfl rfl (Y.as (y_eql rfl rfl) (congrArg Value.bool (decide_eq_true rfl))) rfl ?_
        refine wl_y (y_pickt rfl rfl) rfl ?_
        refine wl_y (y_move rfl) rfl ?_
        refine wl_gy 76 rfl rfl (y_move rfl) rfl ?_
        refine wl_gy 76 rfl rfl (y_move rfl) rfl ?_
        refine wl_gy 76 rfl rfl (y_cuth (s := 1) rfl rfl Try.underlying22 (by kernel_rfl) (j := a) rfl (by omega)) rfl ?_
        refine wl_gy 76 rfl rfl (y_move rfl) rfl ?_
        refine wl_gcall 76 rfl rfl Try.func16 rfl rfl rfl (same_any A2 A3 a a c2 c3 _ _ _ (H2.take (k := a) (by omega)) H3 (by omega) (by omega)) rfl ?_
        rintro e w5 ⟨rfl, k5, rfl⟩
        have ex := Ext.drewN w4 k5
        refine ⟨_, rfl, ?_⟩
        replace HA := HA.ext ex
        replace HB := HB.ext ex
        replace E := E.ext ex
        replace H2 := H2.ext ex
        replace H3 := H3.ext ex
        rw [decide_eq_true (by rw [Kdf.expand_take _ _ _ _ (by omega)])]
        refine wl_y (y_pickt rfl rfl) rfl ?_
        refine wl_y (y_assign rfl) rfl ?_
        refine wl_nil ?_
        refine wq_then_norm (hK14 ?_)
        refine wc_ret ?_
        refine hret rfl ?_
        exact ⟨rfl, E⟩
      · skip
        refine wc_skip ?_
        refine wq_then_norm (hK9 ?_)
        refine wc_seq ?_; intro K15 hK15
        refine wc_region ?_
        refine wl_y (y_move rfl) rfl ?_
        refine wl_y (y_move rfl) rfl ?_
        refine wl_y (y_move rfl) rfl ?_
        refine wl_call Try.func30 rfl rfl rfl (expand_any A B n c m d a ks is _ HA (by omega) HB (by omega) (by omega)) rfl ?_
        rintro e w2 ⟨A2, c2, rfl, H2, hc2, ex⟩
        refine ⟨_, rfl, ?_⟩
        replace HA := HA.ext ex
        replace HB := HB.ext ex
        replace E := E.ext ex
        skip
        refine wl_y (y_move rfl) rfl ?_
        refine wl_y (y_extract rfl rfl) rfl ?_
        refine wl_y (y_extract rfl rfl) rfl ?_
        refine wl_y (y_assign rfl) rfl ?_
        refine wl_y (y_assign rfl) rfl ?_
        refine wl_nil ?_
        refine wq_then_norm (hK15 ?_)
        refine wc_seq ?_; intro K16 hK16
        refine wc_region ?_
        refine wl_y (y_move rfl) rfl ?_
        refine wl_y (y_move rfl) rfl ?_
        refine wl_y (y_move rfl) rfl ?_
        refine wl_call Try.func30 rfl rfl rfl (expand_any A B n c m d b ks is _ HA (by omega) HB (by omega) (by omega)) rfl ?_
        rintro e w3 ⟨A3, c3, rfl, H3, hc3', ex⟩
        refine ⟨_, rfl, ?_⟩
        replace HA := HA.ext ex
        replace HB := HB.ext ex
        replace E := E.ext ex
        replace H2 := H2.ext ex
        skip
        refine wl_y (y_move rfl) rfl ?_
        refine wl_y (y_extract rfl rfl) rfl ?_
        refine wl_y (y_extract rfl rfl) rfl ?_
        refine wl_y (y_assign rfl) rfl ?_
        refine wl_y (y_assign rfl) rfl ?_
        refine wl_nil ?_
        refine wq_then_norm (hK16 ?_)
        refine wc_seq ?_; intro K17 hK17
        refine wc_region ?_
        refine wl_y (y_move rfl) rfl ?_
        refine wl_y (y_move rfl) rfl ?_
        refine wl_call Try.func30 rfl rfl rfl (expand_any A B n c m d 8160 ks is _ HA (by omega) HB (by omega) (by omega)) rfl ?_
        rintro e w4 ⟨A4, c4, rfl, H4, hc4, ex⟩
        refine ⟨_, rfl, ?_⟩
        replace HA := HA.ext ex
        replace HB := HB.ext ex
        replace E := E.ext ex
        replace H2 := H2.ext ex
        replace H3 := H3.ext ex
        skip
        refine wl_y (y_move rfl) rfl ?_
        refine wl_y (y_extract rfl rfl) rfl ?_
        refine wl_y (y_extract rfl rfl) rfl ?_
        refine wl_y (y_assign rfl) rfl ?_
        refine wl_y (y_assign rfl) rfl ?_
        refine wl_nil ?_
        refine wq_then_norm (hK17 ?_)
        refine wc_seq ?_; intro K18 hK18
        refine wc_region ?_
        refine wl_y (y_move rfl) rfl ?_
        refine wl_y (y_conv rfl Try.underlying45 Try.underlying3 (i64_ok (by omega) (by omega))) rfl ?_
        refine wl_y (Y.as (y_eql rfl rfl) (congrArg Value.bool (decide_eq_true rfl))) rfl ?_
        refine wl_y (y_move rfl) rfl ?_
        refine wl_gy 60 rfl rfl (y_move rfl) rfl ?_
        refine wl_gy 60 rfl rfl (y_conv rfl Try.underlying45 Try.underlying3 (i64_ok (by omega) (by omega))) rfl ?_
        refine wl_gy 60 rfl rfl (Y.as (y_eql rfl rfl) (congrArg Value.bool (decide_eq_true rfl))) rfl ?_
        refine wl_y (y_pickt rfl rfl) rfl ?_
        refine wl_y (y_move rfl) rfl ?_
        refine wl_gy 65 rfl rfl (y_move rfl) rfl ?_
        refine wl_gy 65 rfl rfl (y_conv rfl Try.underlying45 Try.underlying3 (i64_ok (by omega) (by omega))) rfl ?_
        refine wl_gy 65 rfl rfl (Y.as (y_eql rfl rfl) (congrArg Value.bool (decide_eq_true rfl))) rfl ?_
        refine wl_y (y_pickt rfl rfl) rfl ?_
        refine wl_y (y_move rfl) rfl ?_
        refine wl_gy 70 rfl rfl (y_move rfl) rfl ?_
        refine wl_gy 70 rfl rfl (y_len_slice rfl Try.underlying22) rfl ?_
        refine wl_gy 70 rfl rfl (y_move rfl) rfl ?_
        refine wl_gy 70 rfl rfl (Y.as (y_eql rfl rfl) (congrArg Value.bool (decide_eq_true rfl))) rfl ?_
        refine wl_y (y_pickt rfl rfl) rfl ?_
        refine wl_y (y_move rfl) rfl ?_
        refine wl_gy 76 rfl rfl (y_move rfl) rfl ?_
        refine wl_gy 76 rfl rfl (y_move rfl) rfl ?_
        refine wl_gy 76 rfl rfl (y_cuth (s := 1) rfl rfl Try.underlying22 (by kernel_rfl) (j := b) rfl (by omega)) rfl ?_
        refine wl_gy 76 rfl rfl (y_move rfl) rfl ?_
        refine wl_gcall 76 rfl rfl Try.func16 rfl rfl rfl (same_any A2 A3 b b c2 c3 _ _ _ (H2.take (k := b) (by omega)) H3 (by omega) (by omega)) rfl ?_
        rintro e w5 ⟨rfl, k5, rfl⟩
        have ex := Ext.drewN w4 k5
        refine ⟨_, rfl, ?_⟩
        replace HA := HA.ext ex
        replace HB := HB.ext ex
        replace E := E.ext ex
        replace H2 := H2.ext ex
        replace H3 := H3.ext ex
        rw [decide_eq_true (by rw [Kdf.expand_take _ _ _ _ (by omega)])]
        refine wl_y (y_pickt rfl rfl) rfl ?_
        refine wl_y (y_assign rfl) rfl ?_
        refine wl_nil ?_
        refine wq_then_norm (hK18 ?_)
        refine wc_ret ?_
        refine hret rfl ?_
        exact ⟨rfl, E⟩
theorem kdfExpands_law (Z : Option Addr) (q r : Nat) (zs : List UInt8) (A : Option Addr) (n c : Nat) (ks : List UInt8) (B : Option Addr) (m d : Nat) (is : List UInt8) (x : Int) (w : World)
    (HZ : Bs w Z q zs) (hq : q ≤ maxLen) (HA : Bs w A n ks) (hn : n ≤ maxLen) (HB : Bs w B m is) (hm : m ≤ maxLen) :
    Calls Try.prog 11 #[.slice Z q r, .slice A n c, .slice B m d, .int .i64 x] w fun e w' => e = .returned (.bool true) ∧ Below w.heap.size w w' := by
  unfold maxLen at hn hm hq
  have E := Ext.refl w
  refine vc_enter1 72 Try.func11 rfl rfl rfl rfl ?_
  intro Q hret
  refine wc_seq ?_; intro K1 hK1
  refine wc_region ?_
  refine wl_y (y_assign rfl) rfl ?_
  refine wl_nil ?_
  refine wq_then_norm (hK1 ?_)
  refine wc_seq ?_; intro K2 hK2
  refine wc_seq ?_; intro K3 hK3
  refine wc_region ?_
  refine wl_call Try.func29 rfl rfl rfl (alive5_any _) rfl ?_
  rintro e w1 ⟨rfl, ex⟩
  refine ⟨_, rfl, ?_⟩
  replace HZ := HZ.ext ex
  replace HA := HA.ext ex
  replace HB := HB.ext ex
  replace E := E.ext ex
  refine wl_y (y_not rfl) rfl ?_
  refine wl_nil ?_
  refine wq_then_norm (hK3 ?_)
  refine wc_false rfl rfl ?_
  refine wc_skip ?_
  refine wq_then_norm (hK2 ?_)
  refine wc_seq ?_; intro K4 hK4
  refine wc_seq ?_; intro K5 hK5
  refine wc_region ?_
  refine wl_y (y_move rfl) rfl ?_
  refine wl_y (y_len_slice rfl Try.underlying22) rfl ?_
  refine wl_yask (y_gtr rfl rfl) rfl (fun h1 => ?_) (fun h1 => ?_)
  · skip
    refine wl_y (y_move rfl) rfl ?_
    refine wl_gno 16 rfl rfl rfl rfl ?_
    refine wl_gno 16 rfl rfl rfl rfl ?_
    refine wl_gno 16 rfl rfl rfl rfl ?_
    refine wl_y (y_pickt rfl rfl) rfl ?_
    refine wl_y (y_move rfl) rfl ?_
    refine wl_gno 21 rfl rfl rfl rfl ?_
    refine wl_gno 21 rfl rfl rfl rfl ?_
    refine wl_gno 21 rfl rfl rfl rfl ?_
    refine wl_y (y_pickt rfl rfl) rfl ?_
    refine wl_nil ?_
    refine wq_then_norm (hK5 ?_)
    refine wc_true rfl rfl ?_
    refine wc_seq ?_; intro K6 hK6
    refine wc_region ?_
    refine wl_y (y_assign rfl) rfl ?_
    refine wl_nil ?_
    refine wq_then_norm (hK6 ?_)
    refine wc_ret ?_
    refine wq_then_ret ?_
    refine hret rfl ?_
    exact ⟨rfl, E⟩
  · skip
    refine wl_y (y_move rfl) rfl ?_
    refine wl_gy 16 rfl rfl (y_move rfl) rfl ?_
    refine wl_gy 16 rfl rfl (y_len_slice rfl Try.underlying22) rfl ?_
    refine wl_gyask 16 rfl rfl (y_gtr rfl rfl) rfl (fun h2 => ?_) (fun h2 => ?_)
    · skip
      refine wl_y (y_pickf rfl rfl) rfl ?_
      refine wl_y (y_move rfl) rfl ?_
      refine wl_gno 21 rfl rfl rfl rfl ?_
      refine wl_gno 21 rfl rfl rfl rfl ?_
      refine wl_gno 21 rfl rfl rfl rfl ?_
      refine wl_y (y_pickt rfl rfl) rfl ?_
      refine wl_nil ?_
      refine wq_then_norm (hK5 ?_)
      refine wc_true rfl rfl ?_
      refine wc_seq ?_; intro K7 hK7
      refine wc_region ?_
      refine wl_y (y_assign rfl) rfl ?_
      refine wl_nil ?_
      refine wq_then_norm (hK7 ?_)
      refine wc_ret ?_
      refine wq_then_ret ?_
      refine hret rfl ?_
      exact ⟨rfl, E⟩
    · skip
      refine wl_y (y_pickf rfl rfl) rfl ?_
      refine wl_y (y_move rfl) rfl ?_
      refine wl_gy 21 rfl rfl (y_move rfl) rfl ?_
      refine wl_gy 21 rfl rfl (y_len_slice rfl Try.underlying22) rfl ?_
      refine wl_gyask 21 rfl rfl (y_gtr rfl rfl) rfl (fun h3 => ?_) (fun h3 => ?_)
      · skip
        refine wl_y (y_pickf rfl rfl) rfl ?_
        refine wl_nil ?_
        refine wq_then_norm (hK5 ?_)
        refine wc_true rfl rfl ?_
        refine wc_seq ?_; intro K8 hK8
        refine wc_region ?_
        refine wl_y (y_assign rfl) rfl ?_
        refine wl_nil ?_
        refine wq_then_norm (hK8 ?_)
        refine wc_ret ?_
        refine wq_then_ret ?_
        refine hret rfl ?_
        exact ⟨rfl, E⟩
      · skip
        refine wl_y (y_pickf rfl rfl) rfl ?_
        refine wl_nil ?_
        refine wq_then_norm (hK5 ?_)
        refine wc_false rfl rfl ?_
        refine wc_skip ?_
        refine wq_then_norm (hK4 ?_)
        refine wc_seq ?_; intro K9 hK9
        refine wc_seq ?_; intro K10 hK10
        refine wc_region ?_
        refine wl_y (y_move rfl) rfl ?_
        refine wl_y (y_move rfl) rfl ?_
        refine wl_call Try.func31 rfl rfl rfl (extract_any Z A q r n c zs ks _ HZ (by omega) HA (by omega)) rfl ?_
        rintro e w2 ⟨A2, c2, rfl, H2, ex⟩
        refine ⟨_, rfl, ?_⟩
        replace HZ := HZ.ext ex
        replace HA := HA.ext ex
        replace HB := HB.ext ex
        replace E := E.ext ex
        skip
        refine wl_y (y_move rfl) rfl ?_
        refine wl_y (y_move rfl) rfl ?_
        refine wl_call Try.func23 rfl rfl rfl (ref04_any Z A q r n c zs ks _ HZ (by omega) HA (by omega)) rfl ?_
        rintro e w3 ⟨A3, c3, rfl, R3, ex⟩
        refine ⟨_, rfl, ?_⟩
        replace HZ := HZ.ext ex
        replace HA := HA.ext ex
        replace HB := HB.ext ex
        replace E := E.ext ex
        replace H2 := H2.ext ex
        have H3 := R3.bs
        refine wl_call Try.func16 rfl rfl rfl (same_any A2 A3 32 32 c2 c3 _ _ _ H2 H3 (by omega) (by omega)) rfl ?_
        rintro e w4 ⟨rfl, k4, rfl⟩
        have ex := Ext.drewN w3 k4
        refine ⟨_, rfl, ?_⟩
        replace HZ := HZ.ext ex
        replace HA := HA.ext ex
        replace HB := HB.ext ex
        replace E := E.ext ex
        replace H2 := H2.ext ex
        replace H3 := H3.ext ex
        rw [decide_eq_true rfl]
        refine wl_y (y_not rfl) rfl ?_
        refine wl_nil ?_
        refine wq_then_norm (hK10 ?_)
        refine wc_false rfl rfl ?_
        refine wc_skip ?_
        refine wq_then_norm (hK9 ?_)
        refine wc_seq ?_; intro K11 hK11
        refine wc_seq ?_; intro K12 hK12
        refine wc_region ?_
        refine wl_y (y_move rfl) rfl ?_
        refine wl_yask (y_gtr rfl rfl) rfl (fun h4 => ?_) (fun h4 => ?_)
        · skip
          refine wl_y (y_move rfl) rfl ?_
          refine wl_gy 36 rfl rfl (y_move rfl) rfl ?_
          refine wl_gyask 36 rfl rfl (y_leq rfl rfl) rfl (fun h5 => ?_) (fun h5 => ?_)
          · skip
            refine wl_y (y_pickt rfl rfl) rfl ?_
            refine wl_nil ?_
            refine wq_then_norm (hK12 ?_)
            refine wc_true rfl rfl ?_
            refine wc_seq ?_; intro K13 hK13
            refine wc_region ?_
            refine wl_y (y_assign rfl) rfl ?_
            refine wl_nil ?_
            refine wq_then_norm (hK13 ?_)
            refine wc_ret ?_
            refine wq_then_ret ?_
            refine hret rfl ?_
            exact ⟨rfl, E⟩
          · skip
            refine wl_y (y_pickt rfl rfl) rfl ?_
            refine wl_nil ?_
            refine wq_then_norm (hK12 ?_)
            refine wc_false rfl rfl ?_
            refine wc_skip ?_
            refine wq_then_norm (hK11 ?_)
            refine wc_seq ?_; intro K14 hK14
            refine wc_region ?_
            refine wl_y (y_move rfl) rfl ?_
            refine wl_y (y_move rfl) rfl ?_
            refine wl_y (y_move rfl) rfl ?_
            refine wl_call Try.func30 rfl rfl rfl (expand_bad A B n c m d x _ (by omega)) rfl ?_
            rintro e w5 ⟨rfl, ex⟩
            refine ⟨_, rfl, ?_⟩
            replace HZ := HZ.ext ex
            replace HA := HA.ext ex
            replace HB := HB.ext ex
            replace E := E.ext ex
            replace H2 := H2.ext ex
            replace H3 := H3.ext ex
            skip
            refine wl_y (y_move rfl) rfl ?_
            refine wl_y (y_extract rfl rfl) rfl ?_
            refine wl_y (y_extract rfl rfl) rfl ?_
            refine wl_y (y_assign rfl) rfl ?_
            refine wl_y (y_assign rfl) rfl ?_
            refine wl_nil ?_
            refine wq_then_norm (hK14 ?_)
            refine wc_seq ?_; intro K15 hK15
            refine wc_seq ?_; intro K16 hK16
            refine wc_region ?_
            refine wl_y (y_move rfl) rfl ?_
            refine wl_y (Y.as (y_lss rfl rfl) (congrArg Value.bool (decide_eq_false (by omega)))) rfl ?_
            refine wl_y (y_move rfl) rfl ?_
            refine wl_gy 49 rfl rfl (y_move rfl) rfl ?_
            refine wl_gy 49 rfl rfl (Y.as (y_gtr rfl rfl) (congrArg Value.bool (decide_eq_true (by omega)))) rfl ?_
            refine wl_y (y_pickf rfl rfl) rfl ?_
            refine wl_nil ?_
            refine wq_then_norm (hK16 ?_)
            refine wc_true rfl rfl ?_
            refine wc_seq ?_; intro K17 hK17
            refine wc_region ?_
            refine wl_y (y_move rfl) rfl ?_
            refine wl_y (y_conv rfl Try.underlying45 Try.underlying3 (i64_ok (by omega) (by omega))) rfl ?_
            refine wl_y (Y.as (y_eql rfl rfl) (congrArg Value.bool (decide_eq_true rfl))) rfl ?_
            refine wl_y (y_move rfl) rfl ?_
            refine wl_gy 56 rfl rfl (y_move rfl) rfl ?_
            refine wl_gy 56 rfl rfl (y_len_slice rfl Try.underlying22) rfl ?_
            refine wl_gy 56 rfl rfl (Y.as (y_eql rfl rfl) (congrArg Value.bool (decide_eq_true rfl))) rfl ?_
            refine wl_y (y_pickt rfl rfl) rfl ?_
            refine wl_y (y_assign rfl) rfl ?_
            refine wl_nil ?_
            refine wq_then_norm (hK17 ?_)
            refine wc_ret ?_
            refine wq_then_ret ?_
            refine hret rfl ?_
            exact ⟨rfl, E⟩
        · skip
          refine wl_y (y_move rfl) rfl ?_
          refine wl_gno 36 rfl rfl rfl rfl ?_
          refine wl_gno 36 rfl rfl rfl rfl ?_
          refine wl_y (y_pickf rfl rfl) rfl ?_
          refine wl_nil ?_
          refine wq_then_norm (hK12 ?_)
          refine wc_false rfl rfl ?_
          refine wc_skip ?_
          refine wq_then_norm (hK11 ?_)
          refine wc_seq ?_; intro K18 hK18
          by_cases hx0 : x < 0
          · skip
            refine wc_region ?_
            refine wl_y (y_move rfl) rfl ?_
            refine wl_y (y_move rfl) rfl ?_
            refine wl_y (y_move rfl) rfl ?_
            refine wl_call Try.func30 rfl rfl rfl (expand_bad A B n c m d x _ (by omega)) rfl ?_
            rintro e w5 ⟨rfl, ex⟩
            refine ⟨_, rfl, ?_⟩
            replace HZ := HZ.ext ex
            replace HA := HA.ext ex
            replace HB := HB.ext ex
            replace E := E.ext ex
            replace H2 := H2.ext ex
            replace H3 := H3.ext ex
            skip
            refine wl_y (y_move rfl) rfl ?_
            refine wl_y (y_extract rfl rfl) rfl ?_
            refine wl_y (y_extract rfl rfl) rfl ?_
            refine wl_y (y_assign rfl) rfl ?_
            refine wl_y (y_assign rfl) rfl ?_
            refine wl_nil ?_
            refine wq_then_norm (hK18 ?_)
            refine wc_seq ?_; intro K19 hK19
            refine wc_seq ?_; intro K20 hK20
            refine wc_region ?_
            refine wl_y (y_move rfl) rfl ?_
            refine wl_y (Y.as (y_lss rfl rfl) (congrArg Value.bool (decide_eq_true hx0))) rfl ?_
            refine wl_y (y_move rfl) rfl ?_
            refine wl_gno 49 rfl rfl rfl rfl ?_
            refine wl_gno 49 rfl rfl rfl rfl ?_
            refine wl_y (y_pickt rfl rfl) rfl ?_
            refine wl_nil ?_
            refine wq_then_norm (hK20 ?_)
            refine wc_true rfl rfl ?_
            refine wc_seq ?_; intro K21 hK21
            refine wc_region ?_
            refine wl_y (y_move rfl) rfl ?_
            refine wl_y (y_conv rfl Try.underlying45 Try.underlying3 (i64_ok (by omega) (by omega))) rfl ?_
            refine wl_y (Y.as (y_eql rfl rfl) (congrArg Value.bool (decide_eq_true rfl))) rfl ?_
            refine wl_y (y_move rfl) rfl ?_
            refine wl_gy 56 rfl rfl (y_move rfl) rfl ?_
            refine wl_gy 56 rfl rfl (y_len_slice rfl Try.underlying22) rfl ?_
            refine wl_gy 56 rfl rfl (Y.as (y_eql rfl rfl) (congrArg Value.bool (decide_eq_true rfl))) rfl ?_
            refine wl_y (y_pickt rfl rfl) rfl ?_
            refine wl_y (y_assign rfl) rfl ?_
            refine wl_nil ?_
            refine wq_then_norm (hK21 ?_)
            refine wc_ret ?_
            refine wq_then_ret ?_
            refine hret rfl ?_
            exact ⟨rfl, E⟩
          · skip
            refine wc_region ?_
            obtain ⟨k, rfl⟩ : ∃ k : Nat, x = k := Int.eq_ofNat_of_zero_le (by omega)
            refine wl_y (y_move rfl) rfl ?_
            refine wl_y (y_move rfl) rfl ?_
            refine wl_y (y_move rfl) rfl ?_
            refine wl_call Try.func30 rfl rfl rfl (expand_any A B n c m d k ks is _ HA (by omega) HB (by omega) (by omega)) rfl ?_
            rintro e w5 ⟨A5, c5, rfl, H5, hc5, ex⟩
            refine ⟨_, rfl, ?_⟩
            replace HZ := HZ.ext ex
            replace HA := HA.ext ex
            replace HB := HB.ext ex
            replace E := E.ext ex
            replace H2 := H2.ext ex
            replace H3 := H3.ext ex
            skip
            refine wl_y (y_move rfl) rfl ?_
            refine wl_y (y_extract rfl rfl) rfl ?_
            refine wl_y (y_extract rfl rfl) rfl ?_
            refine wl_y (y_assign rfl) rfl ?_
            refine wl_y (y_assign rfl) rfl ?_
            refine wl_nil ?_
            refine wq_then_norm (hK18 ?_)
            refine wc_seq ?_; intro K22 hK22
            refine wc_seq ?_; intro K23 hK23
            refine wc_region ?_
            refine wl_y (y_move rfl) rfl ?_
            refine wl_y (Y.as (y_lss rfl rfl) (congrArg Value.bool (decide_eq_false (by omega)))) rfl ?_
            refine wl_y (y_move rfl) rfl ?_
            refine wl_gy 49 rfl rfl (y_move rfl) rfl ?_
            refine wl_gy 49 rfl rfl (Y.as (y_gtr rfl rfl) (congrArg Value.bool (decide_eq_false (by omega)))) rfl ?_
            refine wl_y (y_pickf rfl rfl) rfl ?_
            refine wl_nil ?_
            refine wq_then_norm (hK23 ?_)
            refine wc_false rfl rfl ?_
            refine wc_skip ?_
            refine wq_then_norm (hK22 ?_)
            refine wc_seq ?_; intro K24 hK24
            refine wc_region ?_
            refine wl_y (y_move rfl) rfl ?_
            refine wl_y (y_conv rfl Try.underlying45 Try.underlying3 (i64_ok (by omega) (by omega))) rfl ?_
            refine wl_y (Y.as (y_eql rfl rfl) (congrArg Value.bool (decide_eq_true rfl))) rfl ?_
            refine wl_y (y_move rfl) rfl ?_
            refine wl_gy 64 rfl rfl (y_move rfl) rfl ?_
            refine wl_gy 64 rfl rfl (y_move rfl) rfl ?_
            refine wl_gy 64 rfl rfl (y_move rfl) rfl ?_
            refine wl_gy 64 rfl rfl (y_move rfl) rfl ?_
            refine wl_gcall 64 rfl rfl Try.func32 rfl rfl rfl (refExpand_any A B n c m d k ks is _ HA (by omega) HB (by omega) (by omega)) rfl ?_
            rintro e w6 ⟨A6, c6, rfl, H6, ex⟩
            refine ⟨_, rfl, ?_⟩
            replace HZ := HZ.ext ex
            replace HA := HA.ext ex
            replace HB := HB.ext ex
            replace E := E.ext ex
            replace H2 := H2.ext ex
            replace H3 := H3.ext ex
            replace H5 := H5.ext ex
            skip
            refine wl_gcall 64 rfl rfl Try.func16 rfl rfl rfl (same_any A5 A6 k k c5 c6 _ _ _ H5 H6 (by omega) (by omega)) rfl ?_
            rintro e w7 ⟨rfl, k7, rfl⟩
            have ex := Ext.drewN w6 k7
            refine ⟨_, rfl, ?_⟩
            replace HZ := HZ.ext ex
            replace HA := HA.ext ex
            replace HB := HB.ext ex
            replace E := E.ext ex
            replace H2 := H2.ext ex
            replace H3 := H3.ext ex
            replace H5 := H5.ext ex
            replace H6 := H6.ext ex
            rw [decide_eq_true rfl]
            refine wl_y (y_pickt rfl rfl) rfl ?_
            refine wl_y (y_assign rfl) rfl ?_
            refine wl_nil ?_
            refine wq_then_norm (hK24 ?_)
            refine wc_ret ?_
            refine hret rfl ?_
            exact ⟨rfl, E⟩
end Go.Proofs.Ytijnolhjkdhecaa
