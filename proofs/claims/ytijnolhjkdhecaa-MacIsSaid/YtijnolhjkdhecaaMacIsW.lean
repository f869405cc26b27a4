/- The walk of the law MacIs: it answers true whatever bytes it is given. Lengths within an int. -/
import Derived.Test.YtijnolhjkdhecaaMacC
namespace Go.Proofs.Ytijnolhjkdhecaa
open Go.RowKit
attribute [local irreducible] Y Ef WL WC WK WQ WM OpM
theorem macIs_law (A : Option Addr) (n c : Nat) (xs : List UInt8) (B : Option Addr) (m d : Nat) (ys : List UInt8) (C : Option Addr) (q r : Nat) (zs : List UInt8) (D : Option Addr) (p s : Nat) (ts : List UInt8) (w : World)
    (HA : Bs w A n xs) (hn : n ≤ maxLen) (HB : Bs w B m ys) (hm : m ≤ maxLen) (HC : Bs w C q zs) (hq : q ≤ maxLen) (HD : Bs w D p ts) (hp : p ≤ maxLen) :
    Calls Try.prog 7 #[.slice A n c, .slice B m d, .slice C q r, .slice D p s] w fun e w' => e = .returned (.bool true) ∧ Below w.heap.size w w' := by
  unfold maxLen at hn hm hq hp
  have E := Ext.refl w
  have hyz : (ys ++ zs).length = m + q := by rw [List.length_append, HB.1, HC.1]
  have hfl : [ys, zs].flatten = ys ++ zs := by simp
  refine vc_enter1 64 Try.func7 rfl rfl rfl rfl ?_
  intro Q hret
  refine wc_seq ?_; intro K1 hK1
  refine wc_region ?_
  refine wl_y (y_assign rfl) rfl ?_
  refine wl_nil ?_
  refine wq_then_norm (hK1 ?_)
  refine wc_seq ?_; intro K2 hK2
  refine wc_seq ?_; intro K3 hK3
  refine wc_region ?_
  refine wl_call Try.func20 rfl rfl rfl (alive4_any _) rfl ?_
  rintro e w1 ⟨rfl, ex⟩
  refine ⟨_, rfl, ?_⟩
  replace HA := HA.ext ex
  replace HB := HB.ext ex
  replace HC := HC.ext ex
  replace HD := HD.ext ex
  replace E := E.ext ex
  refine wl_y (y_not rfl) rfl ?_
  refine wl_nil ?_
  refine wq_then_norm (hK3 ?_)
  refine wc_false rfl rfl ?_
  refine wc_skip ?_
  refine wq_then_norm (hK2 ?_)
  refine wc_seq ?_; intro K4 hK4
  refine wc_seq ?_; intro K5 hK5
  refine wc_region ?_
  refine wl_y (y_move rfl) rfl ?_
  refine wl_y (y_len_slice rfl Try.underlying22) rfl ?_
  refine wl_yask (y_gtr rfl rfl) rfl (fun h1 => ?_) (fun h1 => ?_)
  · skip
    refine wl_y (y_move rfl) rfl ?_
    refine wl_gno 15 rfl rfl rfl rfl ?_
    refine wl_gno 15 rfl rfl rfl rfl ?_
    refine wl_gno 15 rfl rfl rfl rfl ?_
    refine wl_y (y_pickt rfl rfl) rfl ?_
    refine wl_y (y_move rfl) rfl ?_
    refine wl_gno 20 rfl rfl rfl rfl ?_
    refine wl_gno 20 rfl rfl rfl rfl ?_
    refine wl_gno 20 rfl rfl rfl rfl ?_
    refine wl_y (y_pickt rfl rfl) rfl ?_
    refine wl_y (y_move rfl) rfl ?_
    refine wl_gno 25 rfl rfl rfl rfl ?_
    refine wl_gno 25 rfl rfl rfl rfl ?_
    refine wl_gno 25 rfl rfl rfl rfl ?_
    refine wl_y (y_pickt rfl rfl) rfl ?_
    refine wl_nil ?_
    refine wq_then_norm (hK5 ?_)
    refine wc_true rfl rfl ?_
    refine wc_seq ?_; intro K6 hK6
    refine wc_region ?_
    refine wl_y (y_assign rfl) rfl ?_
    refine wl_nil ?_
    refine wq_then_norm (hK6 ?_)
    refine wc_ret ?_
    refine wq_then_ret ?_
    refine hret rfl ?_
    exact ⟨rfl, E⟩
  · skip
    refine wl_y (y_move rfl) rfl ?_
    refine wl_gy 15 rfl rfl (y_move rfl) rfl ?_
    refine wl_gy 15 rfl rfl (y_len_slice rfl Try.underlying22) rfl ?_
    refine wl_gyask 15 rfl rfl (y_gtr rfl rfl) rfl (fun h2 => ?_) (fun h2 => ?_)
    · skip
      refine wl_y (y_pickf rfl rfl) rfl ?_
      refine wl_y (y_move rfl) rfl ?_
      refine wl_gno 20 rfl rfl rfl rfl ?_
      refine wl_gno 20 rfl rfl rfl rfl ?_
      refine wl_gno 20 rfl rfl rfl rfl ?_
      refine wl_y (y_pickt rfl rfl) rfl ?_
      refine wl_y (y_move rfl) rfl ?_
      refine wl_gno 25 rfl rfl rfl rfl ?_
      refine wl_gno 25 rfl rfl rfl rfl ?_
      refine wl_gno 25 rfl rfl rfl rfl ?_
      refine wl_y (y_pickt rfl rfl) rfl ?_
      refine wl_nil ?_
      refine wq_then_norm (hK5 ?_)
      refine wc_true rfl rfl ?_
      refine wc_seq ?_; intro K7 hK7
      refine wc_region ?_
      refine wl_y (y_assign rfl) rfl ?_
      refine wl_nil ?_
      refine wq_then_norm (hK7 ?_)
      refine wc_ret ?_
      refine wq_then_ret ?_
      refine hret rfl ?_
      exact ⟨rfl, E⟩
    · skip
      refine wl_y (y_pickf rfl rfl) rfl ?_
      refine wl_y (y_move rfl) rfl ?_
      refine wl_gy 20 rfl rfl (y_move rfl) rfl ?_
      refine wl_gy 20 rfl rfl (y_len_slice rfl Try.underlying22) rfl ?_
      refine wl_gyask 20 rfl rfl (y_gtr rfl rfl) rfl (fun h3 => ?_) (fun h3 => ?_)
      · skip
        refine wl_y (y_pickf rfl rfl) rfl ?_
        refine wl_y (y_move rfl) rfl ?_
        refine wl_gno 25 rfl rfl rfl rfl ?_
        refine wl_gno 25 rfl rfl rfl rfl ?_
        refine wl_gno 25 rfl rfl rfl rfl ?_
        refine wl_y (y_pickt rfl rfl) rfl ?_
        refine wl_nil ?_
        refine wq_then_norm (hK5 ?_)
        refine wc_true rfl rfl ?_
        refine wc_seq ?_; intro K8 hK8
        refine wc_region ?_
        refine wl_y (y_assign rfl) rfl ?_
        refine wl_nil ?_
        refine wq_then_norm (hK8 ?_)
        refine wc_ret ?_
        refine wq_then_ret ?_
        refine hret rfl ?_
        exact ⟨rfl, E⟩
      · skip
        refine wl_y (y_pickf rfl rfl) rfl ?_
        refine wl_y (y_move rfl) rfl ?_
        refine wl_gy 25 rfl rfl (y_move rfl) rfl ?_
        refine wl_gy 25 rfl rfl (y_len_slice rfl Try.underlying22) rfl ?_
        refine wl_gyask 25 rfl rfl (y_gtr rfl rfl) rfl (fun h4 => ?_) (fun h4 => ?_)
        · skip
          refine wl_y (y_pickf rfl rfl) rfl ?_
          refine wl_nil ?_
          refine wq_then_norm (hK5 ?_)
          refine wc_true rfl rfl ?_
          refine wc_seq ?_; intro K9 hK9
          refine wc_region ?_
          refine wl_y (y_assign rfl) rfl ?_
          refine wl_nil ?_
          refine wq_then_norm (hK9 ?_)
          refine wc_ret ?_
          refine wq_then_ret ?_
          refine hret rfl ?_
          exact ⟨rfl, E⟩
        · skip
          refine wl_y (y_pickf rfl rfl) rfl ?_
          refine wl_nil ?_
          refine wq_then_norm (hK5 ?_)
          refine wc_false rfl rfl ?_
          refine wc_skip ?_
          refine wq_then_norm (hK4 ?_)
          refine wc_seq ?_; intro K10 hK10
          refine wc_region ?_
          refine wl_y (y_move rfl) rfl ?_
          refine wl_ef (ef_lit (z := .int .u8 0) Try.underlying22 (by kernel_rfl) rfl rfl rfl rfl rfl) rfl ?_
          rintro _ w2 ⟨g2, rfl, B2, hg2, ex⟩
          have x2 := ex; have R2 : Row w2 w1.heap.size 5 (some ⟨g2, 0, none⟩) 0 0 (([] : List UInt8).map bv) := Row.new B2 hg2 rfl (by unfold maxLen; omega)
          refine wl_y (y_move rfl) rfl ?_
          refine wl_ef (ef_app rfl rfl eltB R2 (HB.ext x2).2 (by rw [List.length_map, HB.1]) (by intro u hu; exact bv_one u hu) (by omega) (by omega) x2.size) rfl ?_
          rintro _ w3 ⟨A3, c3, rfl, R3, be, gr, hl⟩
          have x3 : Ext w1 w3 := x2.trans be; have R3' := R3.cat; have hs3 := x3.size
          refine wl_y (y_move rfl) rfl ?_
          refine wl_ef (ef_app rfl rfl eltB R3' (HC.ext x3).2 (by rw [List.length_map, HC.1]) (by intro u hu; exact bv_one u hu) (by omega) (by omega) hs3) rfl ?_
          rintro _ w4 ⟨A4, c4, rfl, R4, be, gr, hl⟩
          have ex : Ext w1 w4 := x3.trans be; have R4' := R4.cat.bs
          replace HA := HA.ext ex
          replace HB := HB.ext ex
          replace HC := HC.ext ex
          replace HD := HD.ext ex
          replace E := E.ext ex
          refine wl_call Try.func23 rfl rfl rfl (ref04_any A _ n c _ c4 xs _ _ HA (by omega) R4' (by omega)) rfl ?_
          rintro e w5 ⟨A5, c5, rfl, H5, ex⟩
          refine ⟨_, rfl, ?_⟩
          replace HA := HA.ext ex
          replace HB := HB.ext ex
          replace HC := HC.ext ex
          replace HD := HD.ext ex
          replace E := E.ext ex
          rw [List.nil_append] at H5
          refine wl_y (y_assign rfl) rfl ?_
          refine wl_nil ?_
          refine wq_then_norm (hK10 ?_)
          refine wc_seq ?_; intro K11 hK11
          refine wc_region ?_
          refine wl_y (y_move rfl) rfl ?_
          refine wl_y (y_move rfl) rfl ?_
          refine wl_y (y_move rfl) rfl ?_
          refine wl_ef (ef_lit (z := .slice none 0 0) Try.underlying36 (by kernel_rfl) rfl rfl rfl rfl rfl) rfl ?_
          rintro _ w6 ⟨g6, rfl, B6, hg6, ex⟩
          replace HA := HA.ext ex
          replace HB := HB.ext ex
          replace HC := HC.ext ex
          replace HD := HD.ext ex
          replace E := E.ext ex
          replace H5 := H5.ext ex
          have S6 := bss_two B6 HB HC
          refine wl_call Try.func22 rfl rfl rfl (tag_any _ _ n c 2 2 xs _ _ HA (by omega) S6 (by omega) (by rw [hfl]; omega)) rfl ?_
          rintro e w7 ⟨g7, rfl, hg7, B7, ex⟩
          refine ⟨_, rfl, ?_⟩
          replace HA := HA.ext ex
          replace HB := HB.ext ex
          replace HC := HC.ext ex
          replace HD := HD.ext ex
          replace E := E.ext ex
          replace H5 := H5.ext ex
          rw [hfl] at B7; have H7 := bs_blk' B7 (Mac.tag_length _ _)
          refine wl_y (y_move rfl) rfl ?_
          refine wl_call Try.func16 rfl rfl rfl (same_any _ _ 32 32 _ _ _ _ _ H7 H5 (by omega) (by omega)) rfl ?_
          rintro e w8 ⟨rfl, k8, rfl⟩
          have ex := Ext.drewN w7 k8
          refine ⟨_, rfl, ?_⟩
          replace HA := HA.ext ex
          replace HB := HB.ext ex
          replace HC := HC.ext ex
          replace HD := HD.ext ex
          replace E := E.ext ex
          replace H5 := H5.ext ex
          replace H7 := H7.ext ex
          rw [decide_eq_true rfl]
          refine wl_y (y_move rfl) rfl ?_
          refine wl_gy 44 rfl rfl (y_move rfl) rfl ?_
          refine wl_gy 44 rfl rfl (y_move rfl) rfl ?_
          refine wl_gy 44 rfl rfl (y_move rfl) rfl ?_
          refine wl_gy 44 rfl rfl (y_move rfl) rfl ?_
          refine wl_gef 44 rfl rfl (ef_lit (z := .slice none 0 0) Try.underlying36 (by kernel_rfl) rfl rfl rfl rfl rfl) rfl ?_
          rintro _ w9 ⟨g9, rfl, B9, hg9, ex⟩
          replace HA := HA.ext ex
          replace HB := HB.ext ex
          replace HC := HC.ext ex
          replace HD := HD.ext ex
          replace E := E.ext ex
          replace H5 := H5.ext ex
          replace H7 := H7.ext ex
          have S9 := bss_two B9 HB HC
          refine wl_gcall 44 rfl rfl Try.func24 rfl rfl rfl (macIs_any _ _ _ 32 _ n c 2 2 _ xs _ _ H5 (by omega) HA (by omega) S9 (by omega) (by rw [hfl]; omega)) rfl ?_
          rintro e w10 ⟨rfl, ex⟩
          refine ⟨_, rfl, ?_⟩
          replace HA := HA.ext ex
          replace HB := HB.ext ex
          replace HC := HC.ext ex
          replace HD := HD.ext ex
          replace E := E.ext ex
          replace H5 := H5.ext ex
          replace H7 := H7.ext ex
          rw [hfl, decide_eq_true rfl]
          refine wl_y (y_pickt rfl rfl) rfl ?_
          refine wl_y (y_move rfl) rfl ?_
          refine wl_gy 52 rfl rfl (y_move rfl) rfl ?_
          refine wl_gy 52 rfl rfl (y_move rfl) rfl ?_
          refine wl_gy 52 rfl rfl (y_move rfl) rfl ?_
          refine wl_gy 52 rfl rfl (y_move rfl) rfl ?_
          refine wl_gef 52 rfl rfl (ef_lit (z := .slice none 0 0) Try.underlying36 (by kernel_rfl) rfl rfl rfl rfl rfl) rfl ?_
          rintro _ w11 ⟨g11, rfl, B11, hg11, ex⟩
          replace HA := HA.ext ex
          replace HB := HB.ext ex
          replace HC := HC.ext ex
          replace HD := HD.ext ex
          replace E := E.ext ex
          replace H5 := H5.ext ex
          replace H7 := H7.ext ex
          have S11 := bss_two B11 HB HC
          refine wl_gcall 52 rfl rfl Try.func24 rfl rfl rfl (macIs_any _ _ _ p s n c 2 2 ts xs _ _ HD (by omega) HA (by omega) S11 (by omega) (by rw [hfl]; omega)) rfl ?_
          rintro e w12 ⟨rfl, ex⟩
          refine ⟨_, rfl, ?_⟩
          replace HA := HA.ext ex
          replace HB := HB.ext ex
          replace HC := HC.ext ex
          replace HD := HD.ext ex
          replace E := E.ext ex
          replace H5 := H5.ext ex
          replace H7 := H7.ext ex
          rw [hfl]
          refine wl_gy 52 rfl rfl (y_move rfl) rfl ?_
          refine wl_gy 52 rfl rfl (y_move rfl) rfl ?_
          refine wl_gcall 52 rfl rfl Try.func16 rfl rfl rfl (same_any _ _ p 32 s _ ts _ _ HD H5 (by omega) (by omega)) rfl ?_
          rintro e w13 ⟨rfl, k13, rfl⟩
          have ex := Ext.drewN w12 k13
          refine ⟨_, rfl, ?_⟩
          replace HA := HA.ext ex
          replace HB := HB.ext ex
          replace HC := HC.ext ex
          replace HD := HD.ext ex
          replace E := E.ext ex
          replace H5 := H5.ext ex
          replace H7 := H7.ext ex
          skip
          refine wl_gy 52 rfl rfl (y_eqlb rfl rfl Try.underlying4) rfl ?_
          refine wl_y (y_pickt rfl rfl) rfl ?_
          refine wl_y (y_assign rfl) rfl ?_
          refine wl_nil ?_
          refine wq_then_norm (hK11 ?_)
          refine wc_ret ?_
          refine hret rfl ?_
          exact ⟨by simp, E⟩
end Go.Proofs.Ytijnolhjkdhecaa
