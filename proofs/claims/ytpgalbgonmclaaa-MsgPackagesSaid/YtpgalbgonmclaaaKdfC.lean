/- kdf's and the reference's Label, Secret, Extract, Ref: what each hands back; the chapter's example. Lengths up to 2^20. -/
import Derived.Test.YtpgalbgonmclaaaKdfB
namespace Go.Proofs.Ytpgalbgonmclaaa
open Go.RowKit
attribute [local irreducible] Y Ef WL WC WK WQ WM OpM
theorem ref_any (B : Option Addr) (m d : Nat) (s : ByteArray) (cs : List UInt8) (w : World) (HB : Bs w B m cs) (hs : s.size ≤ 1048576) (hm : m ≤ 1048576) :
    Calls Try.prog 105 #[.string s, .slice B m d] w fun e w' => ∃ A' c', e = .returned (.slice A' 32 c') ∧ Bs w' A' 32 (Sha.sum (Wire.vec s.data.toList ++ Wire.vec cs)) ∧ Ext w w' := by
  have E := Ext.refl w
  have hl1 := Wire.lsz_le s.size; have hl2 := Wire.lsz_le m
  refine vc_enter1 12 Try.func105 rfl rfl rfl rfl ?_
  intro Q hret
  refine wc_seq ?_; intro K1 hK1
  refine wc_region ?_
  refine wl_y (y_assign rfl) rfl ?_
  refine wl_nil ?_
  refine wq_then_norm (hK1 ?_)
  refine wc_seq ?_; intro K2 hK2
  refine wc_region ?_
  refine wl_y (y_move rfl) rfl ?_
  refine wl_ef (ef_str rfl Try.underlying9 Try.underlying22 Try.underlying5) rfl ?_
  rintro _ w2 ⟨g2, c2, rfl, H2, hg2, ex⟩
  replace HB := HB.ext ex
  replace E := E.ext ex
  have hs2 := E.size
  refine wl_call Try.func154 rfl rfl rfl (putVec_any none _ 0 0 _ c2 [] _ _ (Bs.nil _ _) (by omega) H2 (by omega)) rfl ?_
  rintro e w3 ⟨A3, k3, c3, rfl, R3, hk3, ex⟩
  refine ⟨_, rfl, ?_⟩
  replace HB := HB.ext ex
  replace E := E.ext ex
  have H3 := R3.bs
  refine wl_y (y_move rfl) rfl ?_
  refine wl_call Try.func154 rfl rfl rfl (putVec_any A3 B k3 c3 m d _ cs _ H3 (by omega) HB (by omega)) rfl ?_
  rintro e w4 ⟨A4, k4, c4, rfl, R4, hk4, ex⟩
  refine ⟨_, rfl, ?_⟩
  replace HB := HB.ext ex
  replace E := E.ext ex
  replace H3 := H3.ext ex
  have H4 := R4.bs
  refine wl_ef (ef_lit (z := .slice none 0 0) Try.underlying159 (by kernel_rfl) rfl rfl rfl rfl rfl) rfl ?_
  rintro _ w5 ⟨g5, rfl, B5, hg5, ex⟩
  replace HB := HB.ext ex
  replace E := E.ext ex
  replace H3 := H3.ext ex
  replace H4 := H4.ext ex
  have S5 := bss_one B5 H4
  refine wl_call Try.func157 rfl rfl rfl (of_any _ 1 1 _ _ S5 (by omega) (by simp only [List.flatten_cons, List.flatten_nil, List.append_nil]; rw [H4.1]; omega)) rfl ?_
  rintro e w6 ⟨g6, rfl, hg6, B6, ex⟩
  refine ⟨_, rfl, ?_⟩
  replace HB := HB.ext ex
  replace E := E.ext ex
  replace H3 := H3.ext ex
  replace H4 := H4.ext ex
  have H6 := bs_blk' B6 (Sha.sum_length _)
  refine wl_y (y_assign rfl) rfl ?_
  refine wl_nil ?_
  refine wq_then_norm (hK2 ?_)
  refine wc_ret ?_
  refine hret rfl ?_
  exact ⟨_, _, rfl, by simpa using H6, E⟩
theorem refRef_any (B : Option Addr) (m d : Nat) (s : ByteArray) (cs : List UInt8) (w : World) (HB : Bs w B m cs) (hs : s.size ≤ 1048576) (hm : m ≤ 1048576) :
    Calls Try.prog 106 #[.string s, .slice B m d] w fun e w' => ∃ A' c', e = .returned (.slice A' 32 c') ∧ Bs w' A' 32 (Sha.sum (Wire.vec s.data.toList ++ Wire.vec cs)) ∧ Ext w w' := by
  have E := Ext.refl w
  have hl1 := Wire.lsz_le s.size; have hl2 := Wire.lsz_le m
  refine vc_enter1 12 Try.func106 rfl rfl rfl rfl ?_
  intro Q hret
  refine wc_seq ?_; intro K1 hK1
  refine wc_region ?_
  refine wl_y (y_assign rfl) rfl ?_
  refine wl_nil ?_
  refine wq_then_norm (hK1 ?_)
  refine wc_seq ?_; intro K2 hK2
  refine wc_region ?_
  refine wl_y (y_move rfl) rfl ?_
  refine wl_ef (ef_str rfl Try.underlying9 Try.underlying22 Try.underlying5) rfl ?_
  rintro _ w2 ⟨g2, c2, rfl, H2, hg2, ex⟩
  replace HB := HB.ext ex
  replace E := E.ext ex
  have hs2 := E.size
  refine wl_call Try.func51 rfl rfl rfl (refVec_any _ _ c2 _ _ H2 (by omega)) rfl ?_
  rintro e w3 ⟨A3, k3, c3, rfl, R3, hk3, ex⟩
  refine ⟨_, rfl, ?_⟩
  replace HB := HB.ext ex
  replace E := E.ext ex
  replace R3 := R3.lower hs2
  refine wl_y (y_move rfl) rfl ?_
  refine wl_call Try.func51 rfl rfl rfl (refVec_any B m d cs _ HB (by omega)) rfl ?_
  rintro e w4 ⟨A4, k4, c4, rfl, R4, hk4, ex⟩
  refine ⟨_, rfl, ?_⟩
  replace HB := HB.ext ex
  replace E := E.ext ex
  replace R3 := R3.ext ex
  have H4 := R4.bs; have hs4 := E.size
  refine wl_ef (ef_app rfl rfl eltB R3 H4.2 (by rw [List.length_map, H4.1]) (by intro u hu; exact bv_one u hu) (by omega) (by omega) hs4) rfl ?_
  rintro _ w5 ⟨A5, c5, rfl, R5, be, gr, hl⟩
  have E5 := E.trans be; have H5 := R5.cat.bs
  refine wl_call Try.func158 rfl rfl rfl (digest_any A5 _ c5 _ _ H5 (by omega)) rfl ?_
  rintro e w6 ⟨A6, c6, rfl, O6, ex⟩
  refine ⟨_, rfl, ?_⟩
  have E6 := E5.ext ex; have H6 := O6.bs
  refine wl_y (y_assign rfl) rfl ?_
  refine wl_nil ?_
  refine wq_then_norm (hK2 ?_)
  refine wc_ret ?_
  refine hret rfl ?_
  exact ⟨_, _, rfl, H6, E6⟩
end Go.Proofs.Ytpgalbgonmclaaa
