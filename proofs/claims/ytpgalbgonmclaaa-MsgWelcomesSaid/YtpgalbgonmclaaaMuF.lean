/- The reference's welcomes and secrets of bytes; a guest's secrets: what msg and the reference hand back. No conditions: contracts of functions. -/
import Derived.Test.YtpgalbgonmclaaaMuD
namespace Go.Proofs.Ytpgalbgonmclaaa
open Go.RowKit
attribute [local irreducible] Y Ef WL WC WK WQ WM OpM WN WF OpN WJ OpJ WG OpG
open Wire Nd M20
theorem rightSecrets_any {A B : Option Addr} {n c m d : Nat} {j y : List UInt8} (w : World) (HA : Bs w A n j) (HB : Bs w B m y) :
    Calls Try.prog 125 #[.slice A n c, .slice B m d] w fun e w' => e = .returned (.bool (decide (okSec j y))) ∧ Ext w w' := by
  have n1 := HA.1; have n2 := HB.1
  have E := Ext.refl w
  refine vc_enter1 18 Try.func125 rfl rfl rfl rfl ?_
  intro Q hret
  refine wc_seq ?_; intro K1 hK1
  refine wc_region ?_
  refine wl_y (y_assign rfl) rfl ?_
  refine wl_nil ?_
  refine wq_then_norm (hK1 ?_)
  refine wc_seq ?_; intro K2 hK2
  refine wc_region ?_
  refine wl_y (y_move rfl) rfl ?_
  refine wl_y (y_len_slice rfl Try.underlying22) rfl ?_
  refine wl_yask (y_eql rfl rfl) rfl (fun q1 => ?_) (fun q1 => ?_)
  · skip
    refine wl_y (y_move rfl) rfl ?_
    refine wl_gy 8 rfl rfl (y_move rfl) rfl ?_
    refine wl_gy 8 rfl rfl (y_len_slice rfl Try.underlying22) rfl ?_
    refine wl_gyask 8 rfl rfl (y_eql rfl rfl) rfl (fun q2 => ?_) (fun q2 => ?_)
    · skip
      refine wl_gy 8 rfl rfl (y_move rfl) rfl ?_
      refine wl_gno 12 rfl rfl rfl rfl ?_
      refine wl_gno 12 rfl rfl rfl rfl ?_
      refine wl_gno 12 rfl rfl rfl rfl ?_
      refine wl_gy 8 rfl rfl (y_pickt rfl rfl) rfl ?_
      refine wl_y (y_pickt rfl rfl) rfl ?_
      refine wl_y (y_assign rfl) rfl ?_
      refine wl_nil ?_
      refine wq_then_norm (hK2 ?_)
      refine wc_ret ?_
      refine hret rfl ?_
      exact ⟨ret_yes ⟨by omega, .inl (by omega)⟩, E⟩
    · skip
      refine wl_gy 8 rfl rfl (y_move rfl) rfl ?_
      refine wl_gy 12 rfl rfl (y_move rfl) rfl ?_
      refine wl_gy 12 rfl rfl (y_len_slice rfl Try.underlying22) rfl ?_
      refine wl_gy 12 rfl rfl (y_eql rfl rfl) rfl ?_
      refine wl_gy 8 rfl rfl (y_pickf rfl rfl) rfl ?_
      refine wl_y (y_pickt rfl rfl) rfl ?_
      refine wl_y (y_assign rfl) rfl ?_
      refine wl_nil ?_
      refine wq_then_norm (hK2 ?_)
      refine wc_ret ?_
      refine hret rfl ?_
      exact ⟨ret_bool ⟨fun h => ⟨by omega, .inr (by omega)⟩, fun h => by have := h.2; omega⟩, E⟩
  · skip
    refine wl_y (y_move rfl) rfl ?_
    refine wl_gno 8 rfl rfl rfl rfl ?_
    refine wl_gno 8 rfl rfl rfl rfl ?_
    refine wl_gno 8 rfl rfl rfl rfl ?_
    refine wl_gno 8 rfl rfl rfl rfl ?_
    refine wl_gun 12 rfl rfl rfl ?_
    refine wl_gun 12 rfl rfl rfl ?_
    refine wl_gun 12 rfl rfl rfl ?_
    refine wl_gno 8 rfl rfl rfl rfl ?_
    refine wl_y (y_pickf rfl rfl) rfl ?_
    refine wl_y (y_assign rfl) rfl ?_
    refine wl_nil ?_
    refine wq_then_norm (hK2 ?_)
    refine wc_ret ?_
    refine hret rfl ?_
    exact ⟨ret_no fun h => by have := h.1; omega, E⟩
theorem secBytesF {ga gb : Nat} {ta tb : TypeId} {A B : Option Addr} {n c m d : Nat} {j y : List UInt8} (w : World) (Ka : Blk w ga ta #[.slice A n c]) (Kb : Blk w gb tb #[.slice B m d]) (HA : Bs w A n j) (HB : Bs w B m y) (ok : okSec j y) :
    Calls Try.prog 126 #[.pointer (some ⟨gb, 0, none⟩), .pointer (some ⟨ga, 0, none⟩)] w fun e w' => ∃ A k c, e = .returned (.slice A k c) ∧ (Bs w' A k (secB j y) ∧ k ≤ c) ∧ Ext w w' := by
  have n1 := HA.1; have n2 := HB.1
  have k1 := ok.1; have k2 := ok.2
  have E := Ext.refl w
  have hl := lsz_le n
  refine vc_enter1 16 Try.func126 rfl rfl rfl rfl ?_
  intro Q hret
  refine wc_seq ?_; intro K1 hK1
  refine wc_region ?_
  refine wl_y (y_assign rfl) rfl ?_
  refine wl_nil ?_
  refine wq_then_norm (hK1 ?_)
  refine wc_seq ?_; intro K2 hK2
  refine wc_seq ?_; intro K3 hK3
  refine wc_region ?_
  refine wl_y (y_load1 rfl Try.underlying22 rfl (Kb.get (i := 0) rfl)) rfl ?_
  refine wl_y (y_len_slice rfl Try.underlying22) rfl ?_
  refine wl_y (y_eql rfl rfl) rfl ?_
  refine wl_nil ?_
  refine wq_then_norm (hK3 ?_)
  refine wc_dec rfl (fun hc1 => ?_) (fun hc1 => ?_)
  · skip
    refine wc_seq ?_; intro K4 hK4
    refine wc_region ?_
    refine wl_y (y_load1 rfl Try.underlying22 rfl (Ka.get (i := 0) rfl)) rfl ?_
    refine wl_call Try.func87 rfl rfl rfl (mvec_any none A 0 0 n c [] j _ (Bs.nil _ _) (by omega) (Bs.ext HA E) (by omega)) rfl ?_
    rintro e w2 ⟨A2, k2', c2, rfl, R2, hk2, ex⟩
    refine ⟨_, rfl, ?_⟩
    replace E := E.ext ex
    replace Ka := Ka.ext ex
    replace Kb := Kb.ext ex
    skip
    refine wl_ef (ef_lit (z := .int .u8 0) Try.underlying22 (by kernel_rfl) rfl rfl rfl rfl rfl) rfl ?_
    rintro _ w3 ⟨g3, rfl, B3, hg3, ex⟩
    replace E := E.ext ex
    replace Ka := Ka.ext ex
    replace Kb := Kb.ext ex
    replace R2 := R2.ext ex
    skip
    refine wl_ef (ef_app rfl rfl eltB R2 (At.blk (vs := [bv 0]) (B3.congr (by rfl))) rfl (by intro u hu; simp only [List.mem_singleton] at hu; subst hu; rfl) (by omega) (by omega) E.size) rfl ?_
    rintro _ w4 ⟨A4, c4, rfl, R4, be, gr4, hgl⟩
    replace E := E.trans be
    refine wl_y (y_assign rfl) rfl ?_
    refine wl_nil ?_
    refine wq_then_norm (hK4 ?_)
    refine wc_ret ?_
    refine wq_then_ret ?_
    refine hret rfl ?_
    exact ⟨A4, _, c4, rfl, ⟨by have h := R4.congr (ys := (secB j y).map bv) rfl (by unfold secB; rw [if_pos (by omega)]; simp); exact h.bs, R4.cap⟩, E⟩
  · skip
    refine wc_skip ?_
    refine wq_then_norm (hK2 ?_)
    refine wc_seq ?_; intro K5 hK5
    have Ko := Kb; have Kp' := Ka; have Eo := E
    refine wc_drawG [ga, gb] (by kernel_rfl) 7 rfl ?_; intro wd3 ex hd3
    replace E := E.ext ex
    replace Ka := Ka.ext ex
    replace Kb := Kb.ext ex
    refine wg_y 0 rfl (by kernel_rfl) (fun wr (kr : Kept [ga, gb] _ wr) => y_load1 rfl Try.underlying22 rfl ((Ka.kep kr).get (i := 0) rfl)) rfl ?_
    refine wg_y 4 rfl (by kernel_rfl) (fun wr (kr : Kept [ga, gb] _ wr) => y_load1 rfl Try.underlying22 rfl ((Kb.kep kr).get (i := 0) rfl)) rfl ?_
    refine wg_two 1 2 (by kernel_rfl) ?_ ?_
    · skip
      have hzz := E.size
      refine og_call rfl Try.func87 rfl rfl rfl (mvec_any none A 0 0 n c [] j _ (Bs.nil _ _) (by omega) (Bs.ext HA E) (by omega)) rfl ?_
      rintro e w2 ⟨A2, k2', c2, rfl, R2, hk2, ex⟩
      refine ⟨_, rfl, Kept.ext ex (kin Ka.lt (kin Kb.lt kno)), ?_⟩
      replace E := E.ext ex
      replace Ka := Ka.ext ex
      replace Kb := Kb.ext ex
      replace R2 := R2.lower hzz
      refine wg_one 2 (by kernel_rfl) ?_; refine og_ef rfl (ef_lit (z := .int .u8 0) Try.underlying22 (by kernel_rfl) rfl rfl rfl rfl rfl) rfl ?_
      rintro _ w3 ⟨g3, rfl, B3, hg3, ex⟩
      refine ⟨Kept.ext ex (kin Ka.lt (kin Kb.lt kno)), ?_⟩
      replace E := E.ext ex
      replace Ka := Ka.ext ex
      replace Kb := Kb.ext ex
      replace R2 := R2.ext ex
      refine wg_one 3 (by kernel_rfl) ?_; refine og_ef rfl (ef_app rfl rfl eltB R2 (At.blk (vs := [bv 1]) (B3.congr (by rfl))) rfl (by intro u hu; simp only [List.mem_singleton] at hu; subst hu; rfl) (by omega) (by omega) E.size) rfl ?_
      rintro _ w4 ⟨A4, c4, rfl, R4, be, gr4, hgl⟩
      have kp := Kept.own gr4 (kin Ka.lt (kin Kb.lt kno)) (kin (R2.sepLo Kp'.lt) (kin (R2.sepLo Ko.lt) kno))
      refine ⟨kp, ?_⟩
      replace Ka := Ka.kep kp
      replace Kb := Kb.kep kp
      replace E := E.trans be
      replace R4 : Row _ _ _ _ _ _ ((vec j ++ [1]).map bv) := R4.congr rfl (by simp)
      refine wg_one 5 (by kernel_rfl) ?_; refine og_call rfl Try.func87 rfl rfl rfl (mvec_any A4 B _ c4 m d _ _ _ R4.bs (by omega) (Bs.ext HB E) (by omega)) rfl ?_
      rintro e w5 ⟨A5, k5, c5, rfl, R5, hk5, ex⟩
      refine ⟨_, rfl, Kept.ext ex (kin Ka.lt (kin Kb.lt kno)), ?_⟩
      replace E := E.ext ex
      replace Ka := Ka.ext ex
      replace Kb := Kb.ext ex
      replace R4 := R4.ext ex
      refine wg_y 6 rfl (by kernel_rfl) (fun wr (kr : Kept [ga, gb] _ wr) => y_assign rfl) rfl ?_
      refine wg_done (by kernel_rfl) ?_
      refine wq_nop ?_
      refine wq_then_norm (hK5 ?_)
      refine wc_ret ?_
      refine hret rfl ?_
      exact ⟨A5, k5, c5, rfl, ⟨by have h := R5.congr (ys := (secB j y).map bv) rfl (by unfold secB; rw [if_neg (by omega)]); exact h.bs, R5.cap⟩, E⟩
    · skip
      refine og_ef rfl (ef_lit (z := .int .u8 0) Try.underlying22 (by kernel_rfl) rfl rfl rfl rfl rfl) rfl ?_
      rintro _ w3 ⟨g3, rfl, B3, hg3, ex⟩
      refine ⟨Kept.ext ex (kin Ka.lt (kin Kb.lt kno)), ?_⟩
      replace E := E.ext ex
      replace Ka := Ka.ext ex
      replace Kb := Kb.ext ex
      have hzz := E.size
      refine wg_one 1 (by kernel_rfl) ?_; refine og_call rfl Try.func87 rfl rfl rfl (mvec_any none A 0 0 n c [] j _ (Bs.nil _ _) (by omega) (Bs.ext HA E) (by omega)) rfl ?_
      rintro e w2 ⟨A2, k2', c2, rfl, R2, hk2, ex⟩
      refine ⟨_, rfl, Kept.ext ex (kin Ka.lt (kin Kb.lt kno)), ?_⟩
      replace E := E.ext ex
      replace Ka := Ka.ext ex
      replace Kb := Kb.ext ex
      replace B3 := B3.ext ex
      replace R2 := R2.lower hzz
      refine wg_one 3 (by kernel_rfl) ?_; refine og_ef rfl (ef_app rfl rfl eltB R2 (At.blk (vs := [bv 1]) (B3.congr (by rfl))) rfl (by intro u hu; simp only [List.mem_singleton] at hu; subst hu; rfl) (by omega) (by omega) E.size) rfl ?_
      rintro _ w4 ⟨A4, c4, rfl, R4, be, gr4, hgl⟩
      have kp := Kept.own gr4 (kin Ka.lt (kin Kb.lt kno)) (kin (R2.sepLo Kp'.lt) (kin (R2.sepLo Ko.lt) kno))
      refine ⟨kp, ?_⟩
      replace Ka := Ka.kep kp
      replace Kb := Kb.kep kp
      replace E := E.trans be
      replace R4 : Row _ _ _ _ _ _ ((vec j ++ [1]).map bv) := R4.congr rfl (by simp)
      refine wg_one 5 (by kernel_rfl) ?_; refine og_call rfl Try.func87 rfl rfl rfl (mvec_any A4 B _ c4 m d _ _ _ R4.bs (by omega) (Bs.ext HB E) (by omega)) rfl ?_
      rintro e w5 ⟨A5, k5, c5, rfl, R5, hk5, ex⟩
      refine ⟨_, rfl, Kept.ext ex (kin Ka.lt (kin Kb.lt kno)), ?_⟩
      replace E := E.ext ex
      replace Ka := Ka.ext ex
      replace Kb := Kb.ext ex
      replace R4 := R4.ext ex
      refine wg_y 6 rfl (by kernel_rfl) (fun wr (kr : Kept [ga, gb] _ wr) => y_assign rfl) rfl ?_
      refine wg_done (by kernel_rfl) ?_
      refine wq_nop ?_
      refine wq_then_norm (hK5 ?_)
      refine wc_ret ?_
      refine hret rfl ?_
      exact ⟨A5, k5, c5, rfl, ⟨by have h := R5.congr (ys := (secB j y).map bv) rfl (by unfold secB; rw [if_neg (by omega)]); exact h.bs, R5.cap⟩, E⟩
theorem SecretsBytes_any {A B : Option Addr} {n c m d : Nat} {j y : List UInt8} (w : World) (HA : Bs w A n j) (HB : Bs w B m y) :
    Calls Try.prog 54 #[.slice A n c, .slice B m d] w fun e w' => ∃ A k c z, e = .returned (.tuple #[.slice A k c, .int .u8 ((z : Nat) : Int)]) ∧ Told w' (okSec j y) (secB j y) A k z ∧ k ≤ c ∧ Ext w w' := by
  have E := Ext.refl w
  refine vc_enter2 13 Try.func54 rfl rfl rfl rfl ?_
  intro Q hret
  refine wc_seq ?_; intro K1 hK1
  refine wc_region ?_
  refine wl_ef (ef_box rfl rfl) rfl ?_
  rintro _ wB2 ⟨gB2, rfl, B2, hgB2, ex⟩
  have lB2 := B2.lt; have zB2 := ex.size
  replace E := E.ext ex
  refine wl_ef (ef_box rfl rfl) rfl ?_
  rintro _ wB3 ⟨gB3, rfl, B3, hgB3, ex⟩
  have lB3 := B3.lt; have zB3 := ex.size
  replace E := E.ext ex
  replace B2 := B2.ext ex
  refine wl_y (y_assign rfl) rfl ?_
  refine wl_y (y_assign rfl) rfl ?_
  refine wl_nil ?_
  refine wq_then_norm (hK1 ?_)
  refine wc_seq ?_; intro K2 hK2
  refine wc_region ?_
  refine wl_y (y_load1 rfl Try.underlying22 rfl (B2.get (i := 0) rfl)) rfl ?_
  refine wl_y (y_load1 rfl Try.underlying22 rfl (B3.get (i := 0) rfl)) rfl ?_
  refine wl_call Try.func125 rfl rfl rfl (rightSecrets_any _ (Bs.ext HA E) (Bs.ext HB E)) rfl ?_
  rintro e w2 ⟨rfl, ex⟩
  refine ⟨_, rfl, ?_⟩
  replace E := E.ext ex
  replace B2 := B2.ext ex
  replace B3 := B3.ext ex
  skip
  refine wl_y (y_func (xs := [.tmp 3, .tmp 2]) (vs := [.pointer (some ⟨gB3, 0, none⟩), .pointer (some ⟨gB2, 0, none⟩)]) rfl) rfl ?_
  refine wl_call Try.func66 rfl rfl rfl (told_any (us := [.pointer (some ⟨gB3, 0, none⟩), .pointer (some ⟨gB2, 0, none⟩)]) (Ψ := fun w A k c => Bs w A k (secB j y) ∧ k ≤ c) _ Try.func126 rfl rfl (fun hok w1 e1 => secBytesF w1 (B2.ext e1) (B3.ext e1) (Bs.ext HA (E.ext e1)) (Bs.ext HB (E.ext e1)) (of_decide_eq_true hok))) rfl ?_
  rintro e w3 ⟨A3, k3, c3, z3, rfl, T3, N3, ex⟩
  refine ⟨_, rfl, ?_⟩
  replace E := E.ext ex
  replace B2 := B2.ext ex
  replace B3 := B3.ext ex
  skip
  refine wl_y (y_extract rfl rfl) rfl ?_
  refine wl_y (y_extract rfl rfl) rfl ?_
  refine wl_y (y_assign rfl) rfl ?_
  refine wl_y (y_assign rfl) rfl ?_
  refine wl_nil ?_
  refine wq_then_norm (hK2 ?_)
  refine wc_ret ?_
  refine hret rfl rfl ?_
  exact ⟨A3, k3, c3, z3, rfl, ⟨fun o => ⟨(T3 (decide_eq_true o)).1, (T3 (decide_eq_true o)).2.1⟩, fun o => ⟨(N3 (decide_eq_false o)).1, (N3 (decide_eq_false o)).2.2.1⟩⟩, (by by_cases o : okSec j y; exact (T3 (decide_eq_true o)).2.2; have h := N3 (decide_eq_false o); omega), E⟩
theorem rSecretsBytes_any {A B : Option Addr} {n c m d : Nat} {j y : List UInt8} (w : World) (HA : Bs w A n j) (HB : Bs w B m y) (h1 : n ≤ 1000) (h2 : m ≤ 1000) :
    Calls Try.prog 57 #[.slice A n c, .slice B m d] w fun e w' => ∃ A' k c', e = .returned (.slice A' k c') ∧ Row w' w.heap.size 5 A' k c' ((secB j y).map bv) ∧ k ≤ 3000 ∧ Ext w w' := by
  have n1 := HA.1; have n2 := HB.1
  have E := Ext.refl w
  have hl := lsz_le n; have hl2 := lsz_le m
  refine vc_enter1 18 Try.func57 rfl rfl rfl rfl ?_
  intro Q hret
  refine wc_seq ?_; intro K1 hK1
  refine wc_region ?_
  refine wl_y (y_assign rfl) rfl ?_
  refine wl_nil ?_
  refine wq_then_norm (hK1 ?_)
  refine wc_seq ?_; intro K2 hK2
  refine wc_seq ?_; intro K3 hK3
  refine wc_region ?_
  refine wl_y (y_move rfl) rfl ?_
  refine wl_y (y_len_slice rfl Try.underlying22) rfl ?_
  refine wl_y (y_eql rfl rfl) rfl ?_
  refine wl_nil ?_
  refine wq_then_norm (hK3 ?_)
  refine wc_dec rfl (fun hc1 => ?_) (fun hc1 => ?_)
  · skip
    refine wc_seq ?_; intro K4 hK4
    refine wc_region ?_
    refine wl_y (y_move rfl) rfl ?_
    refine wl_call Try.func82 rfl rfl rfl (vec20_any A n c _ _ (Bs.ext HA E) (by omega)) rfl ?_
    rintro e w2 ⟨A2, k2, c2, rfl, R2, hk2, ex⟩
    refine ⟨_, rfl, ?_⟩
    replace E := E.ext ex
    have H2 := R2.bs
    refine wl_ef (ef_lit (z := .int .u8 0) Try.underlying22 (by kernel_rfl) rfl rfl rfl rfl rfl) rfl ?_
    rintro _ w3 ⟨g3, rfl, B3, hg3, ex⟩
    replace E := E.ext ex
    replace H2 := H2.ext ex
    have H3 := bs_blk' (xs := [(0 : UInt8)]) (B3.congr (by rfl)) rfl
    have hz8 := E.size
    refine wl_call Try.func76 rfl rfl rfl (join20_any A2 _ _ c2 1 1 _ _ _ H2 (by omega) H3 (by omega)) rfl ?_
    rintro e w4 ⟨A4, c4, rfl, R4, ex⟩
    refine ⟨_, rfl, ?_⟩
    replace E := E.ext ex
    replace H2 := H2.ext ex
    replace H3 := H3.ext ex
    skip
    refine wl_y (y_assign rfl) rfl ?_
    refine wl_nil ?_
    refine wq_then_norm (hK4 ?_)
    refine wc_ret ?_
    refine wq_then_ret ?_
    refine hret rfl ?_
    exact ⟨A4, _, c4, rfl, (R4.lower hz8).congr rfl (by unfold secB; rw [if_pos (by omega)]), by omega, E⟩
  · skip
    refine wc_skip ?_
    refine wq_then_norm (hK2 ?_)
    refine wc_seq ?_; intro K5 hK5
    refine wc_region ?_
    refine wl_y (y_move rfl) rfl ?_
    refine wl_call Try.func82 rfl rfl rfl (vec20_any A n c _ _ (Bs.ext HA E) (by omega)) rfl ?_
    rintro e w2 ⟨A2, k2, c2, rfl, R2, hk2, ex⟩
    refine ⟨_, rfl, ?_⟩
    replace E := E.ext ex
    have H2 := R2.bs
    refine wl_ef (ef_lit (z := .int .u8 0) Try.underlying22 (by kernel_rfl) rfl rfl rfl rfl rfl) rfl ?_
    rintro _ w3 ⟨g3, rfl, B3, hg3, ex⟩
    replace E := E.ext ex
    replace H2 := H2.ext ex
    have H3 := bs_blk' (xs := [(1 : UInt8)]) (B3.congr (by rfl)) rfl
    refine wl_y (y_move rfl) rfl ?_
    refine wl_call Try.func82 rfl rfl rfl (vec20_any B m d _ _ (Bs.ext HB E) (by omega)) rfl ?_
    rintro e w4 ⟨A4, k4, c4, rfl, R4, hk4, ex⟩
    refine ⟨_, rfl, ?_⟩
    replace E := E.ext ex
    replace H2 := H2.ext ex
    replace H3 := H3.ext ex
    have H4 := R4.bs
    have hz8 := E.size
    refine wl_call Try.func81 rfl rfl rfl (three20_any A2 _ A4 _ c2 1 1 _ c4 _ _ _ _ H2 (by omega) H3 (by omega) H4 (by omega)) rfl ?_
    rintro e w5 ⟨A5, c5, rfl, R5, ex⟩
    refine ⟨_, rfl, ?_⟩
    replace E := E.ext ex
    replace H2 := H2.ext ex
    replace H3 := H3.ext ex
    replace H4 := H4.ext ex
    skip
    refine wl_y (y_assign rfl) rfl ?_
    refine wl_nil ?_
    refine wq_then_norm (hK5 ?_)
    refine wc_ret ?_
    refine hret rfl ?_
    exact ⟨A5, _, c5, rfl, (R5.lower hz8).congr rfl (by unfold secB; rw [if_neg (by omega)]), by omega, E⟩
theorem rSecretsOf_any {A : Option Addr} {n c : Nat} {b : List UInt8} (w : World) (HA : Bs w A n b) (hc : n ≤ c) (hn : n ≤ 10000) :
    Calls Try.prog 61 #[.slice A n c] w fun e w' => ∃ h h' : Hd, e = .returned (.tuple #[.slice h.A h.n h.c, .slice h'.A h'.n h'.c, .int .i64 (((secOf b).2 : Nat) : Int)]) ∧ Sub A n b h.A h.n (secOf b).1.1 ∧ Sub A n b h'.A h'.n (secOf b).1.2.2 ∧ Ext w w' := by
  have F := Chs.refl [] w
  have KA : Kp w.heap.size [] (fun w => Bs w A n b) w := Kp.bs HA (by simp)
  have hbl := HA.1
  have P := PlS.whole (A0 := A) (b0 := b) hc (by omega) hbl
  obtain ⟨g, hg⟩ : ∃ g, g = vecX (.ok b) := ⟨_, rfl⟩
  obtain ⟨f, hf⟩ : ∃ f, f = flagX g.2 := ⟨_, rfl⟩
  obtain ⟨y, hy⟩ : ∃ y, y = if f.1 then vecX f.2 else ([], f.2) := ⟨_, rfl⟩
  have hX : secX (.ok b) = ((g.1, f.1, y.1), y.2) := by rw [hy, hf, hg]; rfl
  have hO : secOf b = wholeX ([], false, []) (secX (.ok b)) (decide (okSecX (secX (.ok b)).1)) := rfl
  rw [hX] at hO
  refine vc_enter3 48 Try.func61 rfl rfl rfl rfl ?_
  intro Q hret
  refine wc_seq ?_; intro K1 hK1
  refine wc_region ?_
  refine wl_y (y_assign rfl) rfl ?_
  refine wl_y (y_assign rfl) rfl ?_
  refine wl_y (y_assign rfl) rfl ?_
  refine wl_nil ?_
  refine wq_then_norm (hK1 ?_)
  refine wc_seq ?_; intro K2 hK2
  refine wc_seq ?_; intro K3 hK3
  refine wc_region ?_
  refine wl_y (y_move rfl) rfl ?_
  refine wl_y (y_len_slice rfl Try.underlying22) rfl ?_
  refine wl_y (y_gtr rfl rfl) rfl ?_
  refine wl_nil ?_
  refine wq_then_norm (hK3 ?_)
  refine wc_no rfl (by omega) ?_
  refine wc_skip ?_
  refine wq_then_norm (hK2 ?_)
  refine wc_seq ?_; intro K4 hK4
  refine wc_region ?_
  refine wl_y (y_move rfl) rfl ?_
  refine wl_y (y_build rfl (cells := placeV A n c 0 0) (by kernel_rfl)) rfl ?_
  refine wl_call Try.func119 rfl rfl rfl (plvec_any _ KA.out P) rfl ?_
  rintro e w3 ⟨h3, cs3, rfl, S3, l3, m3, u3, P, ex⟩
  refine ⟨_, rfl, ?_⟩
  replace F := F.ext ex
  replace KA := KA.ext ex
  rw [← hg] at S3 l3 P; obtain ⟨A3, n3, c3, t3, e3, rfl, P⟩ := P.get
  refine wl_y (y_move rfl) rfl ?_
  refine wl_y (y_extract rfl rfl) rfl ?_
  refine wl_y (y_extract rfl rfl) rfl ?_
  have q6 := F.size
  refine wl_ef (ef_alloc (Z := #[.slice none 0 0, .int .i64 0, .int .i64 0]) (by kernel_rfl)) rfl ?_
  rintro _ wB6 ⟨gB6, rfl, B6, hgB6, ex⟩
  have lB6 := B6.lt; have zB6 := ex.size
  replace F := F.grow ex hgB6
  replace KA := KA.grow ex hgB6
  refine wl_y (y_assign rfl) rfl ?_
  refine wl_ef (ef_storeP (o := 0) rfl rfl (by kernel_rfl) B6 (Nat.le_of_ble_eq_true rfl) (all_ones rfl)) rfl ?_
  rintro _ wS3_8 ⟨rfl, D, cg⟩
  have ex := Chs.one cg
  clear cg
  replace F := F.chs ex
  replace KA := KA.chs ex
  replace B6 := D; clear D
  replace B6 := B6.congr (cs' := placeV A3 n3 c3 t3 e3) rfl
  refine wl_nil ?_
  refine wq_then_norm (hK4 ?_)
  refine wc_seq ?_; intro K5 hK5
  refine wc_region ?_
  refine wl_y (y_loadw rfl Try.underlying134 rfl (by kernel_rfl) B6) rfl ?_
  refine wl_call Try.func135 rfl rfl rfl (plflag_any _ KA.out P) rfl ?_
  rintro e w4 ⟨cs4, rfl, P, ex⟩
  refine ⟨_, rfl, ?_⟩
  replace F := F.ext ex
  replace KA := KA.ext ex
  replace B6 := B6.ext ex
  rw [← hf] at P ⊢; obtain ⟨A4, n4, c4, t4, e4, rfl, P⟩ := P.get
  refine wl_y (y_move rfl) rfl ?_
  refine wl_y (y_extract rfl rfl) rfl ?_
  refine wl_y (y_extract rfl rfl) rfl ?_
  refine wl_y (y_assign rfl) rfl ?_
  refine wl_ef (ef_storeP (o := 0) rfl rfl (by kernel_rfl) B6 (Nat.le_of_ble_eq_true rfl) (all_ones rfl)) rfl ?_
  rintro _ wS4_6 ⟨rfl, D, cg⟩
  have ex := Chs.one cg
  clear cg
  replace F := F.chs ex
  replace KA := KA.chs ex
  replace B6 := D; clear D
  replace B6 := B6.congr (cs' := placeV A4 n4 c4 t4 e4) rfl
  refine wl_nil ?_
  refine wq_then_norm (hK5 ?_)
  refine wc_seq ?_; intro K6 hK6
  refine wc_region ?_
  refine wl_y (y_assign rfl) rfl ?_
  refine wl_nil ?_
  refine wq_then_norm (hK6 ?_)
  refine wc_seq ?_; intro K7 hK7
  refine wc_seq ?_; intro K8 hK8
  refine wc_region ?_
  refine wl_y (y_move rfl) rfl ?_
  refine wl_nil ?_
  refine wq_then_norm (hK8 ?_)
  refine wc_cond rfl (fun hc2 => ?_) (fun hc2 => ?_)
  · skip
    refine wc_region ?_
    refine wl_y (y_loadw rfl Try.underlying134 rfl (by kernel_rfl) B6) rfl ?_
    have hy2 : y = vecX f.2 := by rw [hy, if_pos hc2]
    refine wl_call Try.func119 rfl rfl rfl (plvec_any _ KA.out P) rfl ?_
    rintro e w7 ⟨h7, cs7, rfl, S7, l7, m7, u7, P, ex⟩
    refine ⟨_, rfl, ?_⟩
    replace F := F.ext ex
    replace KA := KA.ext ex
    replace B6 := B6.ext ex
    rw [← hy2] at S7 l7 P; obtain ⟨A7, n7, c7, t7, e7, rfl, P⟩ := P.get
    refine wl_y (y_move rfl) rfl ?_
    refine wl_y (y_extract rfl rfl) rfl ?_
    refine wl_y (y_extract rfl rfl) rfl ?_
    refine wl_y (y_assign rfl) rfl ?_
    refine wl_ef (ef_storeP (o := 0) rfl rfl (by kernel_rfl) B6 (Nat.le_of_ble_eq_true rfl) (all_ones rfl)) rfl ?_
    rintro _ wS7_6 ⟨rfl, D, cg⟩
    have ex := Chs.one cg
    clear cg
    replace F := F.chs ex
    replace KA := KA.chs ex
    replace B6 := D; clear D
    replace B6 := B6.congr (cs' := placeV A7 n7 c7 t7 e7) rfl
    refine wl_nil ?_
    refine wq_then_norm (hK7 ?_)
    refine wc_seq ?_; intro K9 hK9
    refine wc_seq ?_; intro K10 hK10
    refine wc_region ?_
    refine wl_y (y_loadw rfl Try.underlying134 rfl (by kernel_rfl) B6) rfl ?_
    refine wl_call Try.func121 rfl rfl rfl (plend_any _ P) rfl ?_
    rintro e w8 ⟨rfl, ex⟩
    refine ⟨_, rfl, ?_⟩
    replace F := F.ext ex
    replace KA := KA.ext ex
    replace B6 := B6.ext ex
    skip
    refine wl_y (y_assign rfl) rfl ?_
    refine wl_nil ?_
    refine wq_then_norm (hK10 ?_)
    refine wc_seq ?_; intro K11 hK11
    refine wc_region ?_
    refine wl_y (y_move rfl) rfl ?_
    refine wl_y (y_neq rfl rfl) rfl ?_
    refine wl_nil ?_
    refine wq_then_norm (hK11 ?_)
    refine wc_dec rfl (fun hc3 => ?_) (fun hc3 => ?_)
    · skip
      refine wc_seq ?_; intro K12 hK12
      refine wc_region ?_
      refine wl_y (y_move rfl) rfl ?_
      refine wl_y (y_assign rfl) rfl ?_
      refine wl_y (y_assign rfl) rfl ?_
      refine wl_y (y_assign rfl) rfl ?_
      refine wl_nil ?_
      refine wq_then_norm (hK12 ?_)
      refine wc_ret ?_
      refine wq_then_ret ?_
      refine hret rfl rfl rfl ?_
      rw [hO]; unfold wholeX; rw [if_pos (show endX y.2 ≠ 0 by omega)]
      exact ⟨nilH, nilH, rfl, Sub.nil _ _ _, Sub.nil _ _ _, F.drop (by omega) |>.toExt (by simp)⟩
    · skip
      refine wc_skip ?_
      refine wq_then_norm (hK9 ?_)
      refine wc_seq ?_; intro K13 hK13
      refine wc_seq ?_; intro K14 hK14
      rw [show f.1 = _ from hc2]
      refine wc_region ?_
      refine wl_y (y_move rfl) rfl ?_
      refine wl_y (y_len_slice rfl Try.underlying22) rfl ?_
      refine wl_yask (y_neq rfl rfl) rfl (fun k0 => ?_) (fun k0 => ?_)
      · skip
        refine wl_y (y_move rfl) rfl ?_
        refine wl_gno 38 rfl rfl rfl rfl ?_
        refine wl_gno 38 rfl rfl rfl rfl ?_
        refine wl_gun 40 rfl rfl rfl ?_
        refine wl_gun 40 rfl rfl rfl ?_
        refine wl_gun 40 rfl rfl rfl ?_
        refine wl_gno 38 rfl rfl rfl rfl ?_
        refine wl_y (y_pickt rfl rfl) rfl ?_
        refine wl_nil ?_
        refine wq_then_norm (hK14 ?_)
        refine wc_true rfl rfl ?_
        refine wc_seq ?_; intro K15 hK15
        have hno : ¬ okSecX (g.1, f.1, y.1) := fun h => by have h1 : g.1.length = 32 := h.1.1; omega
        refine wc_region ?_
        refine wl_y (y_assign rfl) rfl ?_
        refine wl_y (y_assign rfl) rfl ?_
        refine wl_y (y_assign rfl) rfl ?_
        refine wl_nil ?_
        refine wq_then_norm (hK15 ?_)
        refine wc_ret ?_
        refine wq_then_ret ?_
        refine hret rfl rfl rfl ?_
        rw [hO]; unfold wholeX; rw [if_neg (show ¬ endX y.2 ≠ 0 by omega), if_neg (by rw [decide_eq_false hno]; decide)]
        exact ⟨nilH, nilH, rfl, Sub.nil _ _ _, Sub.nil _ _ _, F.drop (by omega) |>.toExt (by simp)⟩
      · skip
        refine wl_y (y_move rfl) rfl ?_
        refine wl_gy 38 rfl rfl (y_move rfl) rfl ?_
        refine wl_gy 38 rfl rfl (y_move rfl) rfl ?_
        refine wl_gy 40 rfl rfl (y_move rfl) rfl ?_
        refine wl_gy 40 rfl rfl (y_len_slice rfl Try.underlying22) rfl ?_
        refine wl_gyask 40 rfl rfl (y_neq rfl rfl) rfl (fun k1 => ?_) (fun k1 => ?_)
        · skip
          refine wl_gy 38 rfl rfl (y_pickt rfl rfl) rfl ?_
          refine wl_y (y_pickf rfl rfl) rfl ?_
          refine wl_nil ?_
          refine wq_then_norm (hK14 ?_)
          refine wc_true rfl rfl ?_
          refine wc_seq ?_; intro K16 hK16
          have hno : ¬ okSecX (g.1, f.1, y.1) := fun h => by
            have h2 : y.1.length = 0 ∨ y.1.length = 32 := h.1.2
            have h3 : 0 < y.1.length := h.2.1 hc2
            omega
          refine wc_region ?_
          refine wl_y (y_assign rfl) rfl ?_
          refine wl_y (y_assign rfl) rfl ?_
          refine wl_y (y_assign rfl) rfl ?_
          refine wl_nil ?_
          refine wq_then_norm (hK16 ?_)
          refine wc_ret ?_
          refine wq_then_ret ?_
          refine hret rfl rfl rfl ?_
          rw [hO]; unfold wholeX; rw [if_neg (show ¬ endX y.2 ≠ 0 by omega), if_neg (by rw [decide_eq_false hno]; decide)]
          exact ⟨nilH, nilH, rfl, Sub.nil _ _ _, Sub.nil _ _ _, F.drop (by omega) |>.toExt (by simp)⟩
        · skip
          refine wl_gy 38 rfl rfl (y_pickt rfl rfl) rfl ?_
          refine wl_y (y_pickf rfl rfl) rfl ?_
          refine wl_nil ?_
          refine wq_then_norm (hK14 ?_)
          refine wc_false rfl rfl ?_
          refine wc_skip ?_
          refine wq_then_norm (hK13 ?_)
          refine wc_seq ?_; intro K17 hK17
          refine wc_region ?_
          refine wl_y (y_move rfl) rfl ?_
          refine wl_y (y_move rfl) rfl ?_
          refine wl_y (y_assign rfl) rfl ?_
          refine wl_y (y_assign rfl) rfl ?_
          refine wl_y (y_assign rfl) rfl ?_
          refine wl_nil ?_
          refine wq_then_norm (hK17 ?_)
          refine wc_ret ?_
          refine hret rfl rfl rfl ?_
          have hyes : okSecX (g.1, f.1, y.1) := ⟨⟨by show g.1.length = 32; omega, .inr (by show y.1.length = 32; omega)⟩, ⟨fun _ => by show 0 < y.1.length; omega, fun _ => hc2⟩⟩
          rw [hO]; unfold wholeX; rw [if_neg (show ¬ endX y.2 ≠ 0 by omega), if_pos (decide_eq_true hyes)]
          exact ⟨h3, h7, rfl, S3, S7, F.drop (by omega) |>.toExt (by simp)⟩
  · skip
    refine wc_skip ?_
    refine wq_then_norm (hK7 ?_)
    refine wc_seq ?_; intro K18 hK18
    refine wc_seq ?_; intro K19 hK19
    have hy2 : y = ([], f.2) := by rw [hy, if_neg (by rw [hc2]; decide)]
    replace P : PlS A n b (placeV A4 n4 c4 t4 e4) y.2 := by rw [hy2]; exact P
    refine wc_region ?_
    refine wl_y (y_loadw rfl Try.underlying134 rfl (by kernel_rfl) B6) rfl ?_
    refine wl_call Try.func121 rfl rfl rfl (plend_any _ P) rfl ?_
    rintro e w8 ⟨rfl, ex⟩
    refine ⟨_, rfl, ?_⟩
    replace F := F.ext ex
    replace KA := KA.ext ex
    replace B6 := B6.ext ex
    skip
    refine wl_y (y_assign rfl) rfl ?_
    refine wl_nil ?_
    refine wq_then_norm (hK19 ?_)
    refine wc_seq ?_; intro K20 hK20
    refine wc_region ?_
    refine wl_y (y_move rfl) rfl ?_
    refine wl_y (y_neq rfl rfl) rfl ?_
    refine wl_nil ?_
    refine wq_then_norm (hK20 ?_)
    refine wc_dec rfl (fun hc3 => ?_) (fun hc3 => ?_)
    · skip
      refine wc_seq ?_; intro K21 hK21
      refine wc_region ?_
      refine wl_y (y_move rfl) rfl ?_
      refine wl_y (y_assign rfl) rfl ?_
      refine wl_y (y_assign rfl) rfl ?_
      refine wl_y (y_assign rfl) rfl ?_
      refine wl_nil ?_
      refine wq_then_norm (hK21 ?_)
      refine wc_ret ?_
      refine wq_then_ret ?_
      refine hret rfl rfl rfl ?_
      rw [hO]; unfold wholeX; rw [if_pos (show endX y.2 ≠ 0 by omega)]
      exact ⟨nilH, nilH, rfl, Sub.nil _ _ _, Sub.nil _ _ _, F.drop (by omega) |>.toExt (by simp)⟩
    · skip
      refine wc_skip ?_
      refine wq_then_norm (hK18 ?_)
      refine wc_seq ?_; intro K22 hK22
      refine wc_seq ?_; intro K23 hK23
      rw [show f.1 = _ from hc2]
      refine wc_region ?_
      refine wl_y (y_move rfl) rfl ?_
      refine wl_y (y_len_slice rfl Try.underlying22) rfl ?_
      refine wl_yask (y_neq rfl rfl) rfl (fun k0 => ?_) (fun k0 => ?_)
      · skip
        refine wl_y (y_move rfl) rfl ?_
        refine wl_gno 38 rfl rfl rfl rfl ?_
        refine wl_gno 38 rfl rfl rfl rfl ?_
        refine wl_gun 40 rfl rfl rfl ?_
        refine wl_gun 40 rfl rfl rfl ?_
        refine wl_gun 40 rfl rfl rfl ?_
        refine wl_gno 38 rfl rfl rfl rfl ?_
        refine wl_y (y_pickt rfl rfl) rfl ?_
        refine wl_nil ?_
        refine wq_then_norm (hK23 ?_)
        refine wc_true rfl rfl ?_
        refine wc_seq ?_; intro K24 hK24
        have hno : ¬ okSecX (g.1, f.1, y.1) := fun h => by have h1 : g.1.length = 32 := h.1.1; omega
        refine wc_region ?_
        refine wl_y (y_assign rfl) rfl ?_
        refine wl_y (y_assign rfl) rfl ?_
        refine wl_y (y_assign rfl) rfl ?_
        refine wl_nil ?_
        refine wq_then_norm (hK24 ?_)
        refine wc_ret ?_
        refine wq_then_ret ?_
        refine hret rfl rfl rfl ?_
        rw [hO]; unfold wholeX; rw [if_neg (show ¬ endX y.2 ≠ 0 by omega), if_neg (by rw [decide_eq_false hno]; decide)]
        exact ⟨nilH, nilH, rfl, Sub.nil _ _ _, Sub.nil _ _ _, F.drop (by omega) |>.toExt (by simp)⟩
      · skip
        refine wl_y (y_move rfl) rfl ?_
        refine wl_gy 38 rfl rfl (y_move rfl) rfl ?_
        refine wl_gy 38 rfl rfl (y_move rfl) rfl ?_
        refine wl_gno 40 rfl rfl rfl rfl ?_
        refine wl_gno 40 rfl rfl rfl rfl ?_
        refine wl_gno 40 rfl rfl rfl rfl ?_
        refine wl_gy 38 rfl rfl (y_pickf rfl rfl) rfl ?_
        refine wl_y (y_pickf rfl rfl) rfl ?_
        refine wl_nil ?_
        refine wq_then_norm (hK23 ?_)
        refine wc_false rfl rfl ?_
        refine wc_skip ?_
        refine wq_then_norm (hK22 ?_)
        refine wc_seq ?_; intro K25 hK25
        refine wc_region ?_
        refine wl_y (y_move rfl) rfl ?_
        refine wl_y (y_move rfl) rfl ?_
        refine wl_y (y_assign rfl) rfl ?_
        refine wl_y (y_assign rfl) rfl ?_
        refine wl_y (y_assign rfl) rfl ?_
        refine wl_nil ?_
        refine wq_then_norm (hK25 ?_)
        refine wc_ret ?_
        refine hret rfl rfl rfl ?_
        have hyes : okSecX (g.1, f.1, y.1) := by rw [hy2, hc2]; exact ⟨⟨by show g.1.length = 32; omega, .inl rfl⟩, ⟨fun h => (by cases h), fun h => absurd h (Nat.lt_irrefl 0)⟩⟩
        rw [hO]; unfold wholeX; rw [if_neg (show ¬ endX y.2 ≠ 0 by omega), if_pos (decide_eq_true hyes)]
        exact ⟨h3, nilH, rfl, S3, by rw [hy2]; exact Sub.nil _ _ _, F.drop (by omega) |>.toExt (by simp)⟩
end Go.Proofs.Ytpgalbgonmclaaa
