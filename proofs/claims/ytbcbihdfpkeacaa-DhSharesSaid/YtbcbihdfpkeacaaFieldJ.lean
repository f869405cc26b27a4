/- The field's reference First; the law's 'is' and 'alive'. -/
import Derived.Test.YtbcbihdfpkeacaaFieldI
namespace Go.Proofs.Ytbcbihdfpkeacaa
open Go.RowKit
attribute [local irreducible] Y Ef WL WC WK WQ WM OpM
theorem rfirst_any (A : Option Addr) (n c : Nat) (b : List UInt8) (w : World) (HA : Bs w A n b) (hn : n ≤ 60) :
    Calls Try.prog 20 #[.slice A n c] w fun e w' => ∃ A' n' c', e = .returned (.slice A' n' c') ∧ Bg w' A' n' (Fp.ofB b) ∧ n' ≤ c' ∧ Ext w w' := by
  have hlb := HA.1
  refine vc_enter1 24 Try.func20 rfl rfl rfl rfl ?_
  intro Q hret
  refine wc_seq ?_; intro K1 hK1
  refine wc_region ?_
  refine wl_y (y_assign rfl) rfl ?_
  refine wl_nil ?_
  refine wq_then_norm (hK1 ?_)
  refine wc_seq ?_; intro K2 hK2
  refine wc_region ?_
  refine wl_ef (ef_lit (z := .int .u8 0) Try.underlying22 (by kernel_rfl) rfl rfl rfl rfl rfl) rfl ?_
  rintro _ w1 ⟨g1, rfl, B1, hg1, ex⟩
  have E1 := ex; have R1 : Row w1 w.heap.size 5 (some ⟨g1, 0, none⟩) 0 0 [] := Row.new B1 hg1 rfl (by unfold maxLen; omega)
  refine wl_y (y_move rfl) rfl ?_
  refine wl_ef (ef_app0 rfl rfl eltB R1 (HA.ext E1).2 (by rw [List.length_map, HA.1]) (by intro u hu; exact bv_one u hu) (by omega) (by omega) E1.size) rfl ?_
  rintro _ w2 ⟨A2, c2, rfl, R2, be, gr, hl⟩
  have E2 := E1.trans be; have hcap := R2.cap
  refine wl_y (y_assign rfl) rfl ?_
  refine wl_nil ?_
  refine wq_then_norm (hK2 ?_)
  refine wc_seq ?_; intro K3 hK3
  refine wc_seq ?_; intro K4 hK4
  refine wc_region ?_
  refine wl_y (y_move rfl) rfl ?_
  refine wl_y (y_len_slice rfl Try.underlying22) rfl ?_
  refine wl_y (y_gtr rfl rfl) rfl ?_
  refine wl_nil ?_
  refine wq_then_norm (hK4 ?_)
  refine wc_dec rfl (fun hc1 => ?_) (fun hc1 => ?_)
  · skip
    have R3 : Row w2 w.heap.size 5 A2 32 c2 ((b.take 32).map bv) := by rw [List.map_take]; exact R2.cut (by omega) (by omega)
    have hL : (b.take 32).length = 32 := by simp; omega
    refine wc_region ?_
    refine wl_y (y_move rfl) rfl ?_
    refine wl_y (y_cuth (s := 1) rfl rfl Try.underlying22 (by kernel_rfl) (j := 32) rfl (by omega)) rfl ?_
    refine wl_y (y_assign rfl) rfl ?_
    refine wl_nil ?_
    refine wq_then_norm (hK3 ?_)
    refine wc_seq ?_; intro K5 hK5
    refine wc_seq ?_; intro K6 hK6
    refine wc_region ?_
    refine wl_y (y_move rfl) rfl ?_
    refine wl_y (y_len_slice rfl Try.underlying22) rfl ?_
    refine wl_y (y_eql rfl rfl) rfl ?_
    refine wl_nil ?_
    refine wq_then_norm (hK6 ?_)
    refine wc_dec rfl (fun hc2 => ?_) (fun hc2 => ?_)
    · skip
      have hM : 32 = 32 := by omega
      obtain ⟨g5, rfl, hcx, hg5, _⟩ := R3.byte (i := 31) (by omega)
      obtain ⟨x, hx⟩ : ∃ x, x = (b.take 32).getD 31 0 := ⟨_, rfl⟩
      rw [← hx] at hcx
      have hxl := x.toNat_lt
      refine wc_region ?_
      refine wl_y (y_move rfl) rfl ?_
      refine wl_y (y_move rfl) rfl ?_
      refine wl_y (y_ixs1 rfl rfl Try.underlying22 (by kernel_rfl) (j := 31) rfl (by omega)) rfl ?_
      refine wl_y (y_load1 rfl Try.underlying5 rfl hcx) rfl ?_
      refine wl_y (y_rem rfl rfl (by omega) (show (((x.toNat : Nat) : Int).tmod 128 = (((UInt8.ofNat (x.toNat % 128)).toNat : Nat) : Int)) by rw [UInt8.toNat_ofNat', show x.toNat % 128 % 2 ^ 8 = x.toNat % 128 by omega]; rfl)) rfl ?_
      refine wl_y (y_ixs1 rfl rfl Try.underlying22 (by kernel_rfl) (j := 31) rfl (by omega)) rfl ?_
      refine wl_ef (ef_storeR rfl rfl rfl (by kernel_rfl) R3 (by omega)) rfl ?_
      rintro _ w5 ⟨rfl, R5, cg⟩
      have E5 := E2.chg cg hg5; have H5 : Bs w5 (some ⟨g5, 0, none⟩) 32 ((b.take 32).set 31 (UInt8.ofNat (x.toNat % 128))) := Row.bs (R5.congr rfl (by rw [List.map_set]; rfl))
      refine wl_nil ?_
      refine wq_then_norm (hK5 ?_)
      refine wc_seq ?_; intro K7 hK7
      have hval : Fp.num ((b.take 32).set 31 (UInt8.ofNat (x.toNat % 128))) % Fp.p = Fp.ofB b := by
        have ht := Fp.num_top (b.take 32)
        have hlo := Fp.num_low (b.take 32)
        unfold Fp.ofB
        first
          | (rw [hx, ht (by omega)])
          | (rw [hlo (by omega)])
      refine wc_region ?_
      refine wl_y (y_move rfl) rfl ?_
      refine wl_call Try.func67 rfl rfl rfl (rof_any _ 32 c2 _ _ H5 (by omega)) rfl ?_
      rintro e w6 ⟨A6, n6, c6, rfl, H6, k6, l6, ex⟩
      refine ⟨_, rfl, ?_⟩
      have E6 := E5.ext ex
      refine wl_call Try.func99 rfl rfl rfl (mod_any A6 n6 c6 _ _ H6 k6 (by omega)) rfl ?_
      rintro e w7 ⟨A7, n7, c7, rfl, H7, k7, ex⟩
      refine ⟨_, rfl, ?_⟩
      have E7 := E6.ext ex
      refine wl_y (y_assign rfl) rfl ?_
      refine wl_nil ?_
      refine wq_then_norm (hK7 ?_)
      refine wc_ret ?_
      refine hret rfl ?_
      exact ⟨A7, n7, c7, rfl, H7.congr hval, k7, E7⟩
    · skip
      have H5 := R3.bs
      have E5 := E2
      refine wc_skip ?_
      refine wq_then_norm (hK5 ?_)
      refine wc_seq ?_; intro K8 hK8
      have hval : Fp.num (b.take 32) % Fp.p = Fp.ofB b := by
        have ht := Fp.num_top (b.take 32)
        have hlo := Fp.num_low (b.take 32)
        unfold Fp.ofB
        first
          | (rw [hx, ht (by omega)])
          | (rw [hlo (by omega)])
      refine wc_region ?_
      refine wl_y (y_move rfl) rfl ?_
      refine wl_call Try.func67 rfl rfl rfl (rof_any _ 32 c2 _ _ H5 (by omega)) rfl ?_
      rintro e w6 ⟨A6, n6, c6, rfl, H6, k6, l6, ex⟩
      refine ⟨_, rfl, ?_⟩
      have E6 := E5.ext ex
      refine wl_call Try.func99 rfl rfl rfl (mod_any A6 n6 c6 _ _ H6 k6 (by omega)) rfl ?_
      rintro e w7 ⟨A7, n7, c7, rfl, H7, k7, ex⟩
      refine ⟨_, rfl, ?_⟩
      have E7 := E6.ext ex
      refine wl_y (y_assign rfl) rfl ?_
      refine wl_nil ?_
      refine wq_then_norm (hK8 ?_)
      refine wc_ret ?_
      refine hret rfl ?_
      exact ⟨A7, n7, c7, rfl, H7.congr hval, k7, E7⟩
  · skip
    have R3 : Row w2 w.heap.size 5 A2 n c2 ((b.take 32).map bv) := by rw [List.take_of_length_le (by omega)]; exact R2
    have hL : (b.take 32).length = n := by simp; omega
    refine wc_skip ?_
    refine wq_then_norm (hK3 ?_)
    refine wc_seq ?_; intro K9 hK9
    refine wc_seq ?_; intro K10 hK10
    refine wc_region ?_
    refine wl_y (y_move rfl) rfl ?_
    refine wl_y (y_len_slice rfl Try.underlying22) rfl ?_
    refine wl_y (y_eql rfl rfl) rfl ?_
    refine wl_nil ?_
    refine wq_then_norm (hK10 ?_)
    refine wc_dec rfl (fun hc2 => ?_) (fun hc2 => ?_)
    · skip
      have hM : n = 32 := by omega
      obtain ⟨g5, rfl, hcx, hg5, _⟩ := R3.byte (i := 31) (by omega)
      obtain ⟨x, hx⟩ : ∃ x, x = (b.take 32).getD 31 0 := ⟨_, rfl⟩
      rw [← hx] at hcx
      have hxl := x.toNat_lt
      refine wc_region ?_
      refine wl_y (y_move rfl) rfl ?_
      refine wl_y (y_move rfl) rfl ?_
      refine wl_y (y_ixs1 rfl rfl Try.underlying22 (by kernel_rfl) (j := 31) rfl (by omega)) rfl ?_
      refine wl_y (y_load1 rfl Try.underlying5 rfl hcx) rfl ?_
      refine wl_y (y_rem rfl rfl (by omega) (show (((x.toNat : Nat) : Int).tmod 128 = (((UInt8.ofNat (x.toNat % 128)).toNat : Nat) : Int)) by rw [UInt8.toNat_ofNat', show x.toNat % 128 % 2 ^ 8 = x.toNat % 128 by omega]; rfl)) rfl ?_
      refine wl_y (y_ixs1 rfl rfl Try.underlying22 (by kernel_rfl) (j := 31) rfl (by omega)) rfl ?_
      refine wl_ef (ef_storeR rfl rfl rfl (by kernel_rfl) R3 (by omega)) rfl ?_
      rintro _ w5 ⟨rfl, R5, cg⟩
      have E5 := E2.chg cg hg5; have H5 : Bs w5 (some ⟨g5, 0, none⟩) n ((b.take 32).set 31 (UInt8.ofNat (x.toNat % 128))) := Row.bs (R5.congr rfl (by rw [List.map_set]; rfl))
      refine wl_nil ?_
      refine wq_then_norm (hK9 ?_)
      refine wc_seq ?_; intro K11 hK11
      have hval : Fp.num ((b.take 32).set 31 (UInt8.ofNat (x.toNat % 128))) % Fp.p = Fp.ofB b := by
        have ht := Fp.num_top (b.take 32)
        have hlo := Fp.num_low (b.take 32)
        unfold Fp.ofB
        first
          | (rw [hx, ht (by omega)])
          | (rw [hlo (by omega)])
      refine wc_region ?_
      refine wl_y (y_move rfl) rfl ?_
      refine wl_call Try.func67 rfl rfl rfl (rof_any _ n c2 _ _ H5 (by omega)) rfl ?_
      rintro e w6 ⟨A6, n6, c6, rfl, H6, k6, l6, ex⟩
      refine ⟨_, rfl, ?_⟩
      have E6 := E5.ext ex
      refine wl_call Try.func99 rfl rfl rfl (mod_any A6 n6 c6 _ _ H6 k6 (by omega)) rfl ?_
      rintro e w7 ⟨A7, n7, c7, rfl, H7, k7, ex⟩
      refine ⟨_, rfl, ?_⟩
      have E7 := E6.ext ex
      refine wl_y (y_assign rfl) rfl ?_
      refine wl_nil ?_
      refine wq_then_norm (hK11 ?_)
      refine wc_ret ?_
      refine hret rfl ?_
      exact ⟨A7, n7, c7, rfl, H7.congr hval, k7, E7⟩
    · skip
      have H5 := R3.bs
      have E5 := E2
      refine wc_skip ?_
      refine wq_then_norm (hK9 ?_)
      refine wc_seq ?_; intro K12 hK12
      have hval : Fp.num (b.take 32) % Fp.p = Fp.ofB b := by
        have ht := Fp.num_top (b.take 32)
        have hlo := Fp.num_low (b.take 32)
        unfold Fp.ofB
        first
          | (rw [hx, ht (by omega)])
          | (rw [hlo (by omega)])
      refine wc_region ?_
      refine wl_y (y_move rfl) rfl ?_
      refine wl_call Try.func67 rfl rfl rfl (rof_any _ n c2 _ _ H5 (by omega)) rfl ?_
      rintro e w6 ⟨A6, n6, c6, rfl, H6, k6, l6, ex⟩
      refine ⟨_, rfl, ?_⟩
      have E6 := E5.ext ex
      refine wl_call Try.func99 rfl rfl rfl (mod_any A6 n6 c6 _ _ H6 k6 (by omega)) rfl ?_
      rintro e w7 ⟨A7, n7, c7, rfl, H7, k7, ex⟩
      refine ⟨_, rfl, ?_⟩
      have E7 := E6.ext ex
      refine wl_y (y_assign rfl) rfl ?_
      refine wl_nil ?_
      refine wq_then_norm (hK12 ?_)
      refine wc_ret ?_
      refine hret rfl ?_
      exact ⟨A7, n7, c7, rfl, H7.congr hval, k7, E7⟩
theorem is_any {cs : Array Value} {a : Nat} (ha : Fe cs a) (B : Option Addr) (m d b : Nat) (w : World) (HB : Bg w B m b) (hm : m ≤ 1000) :
    Calls Try.prog 22 #[.agg cs, .slice B m d] w fun e w' => e = .returned (.bool (decide (Fp.le 32 a = Fp.le 32 b))) ∧ Ext w w' := by
  have hsz := ha.size
  refine vc_enter1 10 Try.func22 rfl rfl rfl rfl ?_
  intro Q hret
  refine wc_seq ?_; intro K1 hK1
  refine wc_region ?_
  refine wl_ef (ef_box (cs := cs) rfl rfl) rfl ?_
  rintro _ w1 ⟨g1, rfl, B1, hg1, ex⟩
  have E1 := ex; have HB1 := HB.ext ex
  refine wl_y (y_assign rfl) rfl ?_
  refine wl_nil ?_
  refine wq_then_norm (hK1 ?_)
  refine wc_seq ?_; intro K2 hK2
  refine wc_region ?_
  refine wl_y ((y_loadw rfl Try.underlying27 rfl (by rw [hsz]; kernel_rfl) B1)) rfl ?_
  refine wl_call Try.func51 rfl rfl rfl (fbytes_any ha _) rfl ?_
  rintro e w2 ⟨g2, rfl, hg2, B2, ex⟩
  refine ⟨_, rfl, ?_⟩
  have E2 := E1.ext ex; have HB2 := HB1.ext ex; have H2 := bs_blk' B2 (Fp.le_length 32 a)
  refine wl_y (y_move rfl) rfl ?_
  refine wl_call Try.func50 rfl rfl rfl (rbytes_any B m d 32 b _ HB2 hm (by omega)) rfl ?_
  rintro e w3 ⟨A3, c3, rfl, H3, ex⟩
  refine ⟨_, rfl, ?_⟩
  have E3 := E2.ext ex; have H2' := H2.ext ex
  refine wl_call Try.func53 rfl rfl rfl (same_any _ _ 32 32 _ _ _ _ _ H2' H3 (by omega) (by omega)) rfl ?_
  rintro e w4 ⟨rfl, k4, rfl⟩
  have ex := Ext.drewN w3 k4
  refine ⟨_, rfl, ?_⟩
  have E4 := E3.ext ex
  refine wl_y (y_assign rfl) rfl ?_
  refine wl_nil ?_
  refine wq_then_norm (hK2 ?_)
  refine wc_ret ?_
  refine hret rfl ?_
  exact ⟨rfl, E4⟩
end Go.Proofs.Ytbcbihdfpkeacaa
