/- The laws SchedExports and SchedParts: they answer true whatever they are given. -/
import Derived.Test.YtopbahbhldgbbaaSecE
namespace Go.Proofs.Ytopbahbhldgbbaa
open Go.RowKit
attribute [local irreducible] Y Ef WL WC WK WQ WM OpM WN WF OpN
theorem schedExports_law (cs : Array Value) (l : List (List UInt8)) (lab : ByteArray) (B : Option Addr) (m d : Nat) (ys : List UInt8) (z : Int) (w : World) (HS : SecAt w cs l) (hm0 : ∀ i, (l.getD i []).length ≤ maxLen) (hlab : lab.size ≤ maxLen) (HB : Bs w B m ys) (hm : m ≤ maxLen) (hz : (Lit.int .i64 z).wf = true) :
    Calls Try.prog 8 #[.agg cs, .string lab, .slice B m d, .int .i64 z] w fun e w' => e = .returned (.bool true) ∧ Below w.heap.size w w' := by
  have hcz := HS.size
  have hy := HB.1
  have hm5 := hm0 5; have hm1 := hm0 1
  unfold maxLen at hm hm5 hm1 hlab
  have E := Ext.refl w
  obtain ⟨A5, n5, c5, q5, H5⟩ := HS.get (i := 5) (by omega)
  obtain ⟨A1, n1, c1, q1, H1⟩ := HS.get (i := 1) (by omega)
  have z5 := H5.1; have z1 := H1.1
  refine vc_enter1 96 Try.func8 rfl rfl rfl rfl ?_
  intro Q hret
  refine wc_seq ?_; intro K1 hK1
  refine wc_region ?_
  refine wl_ef (ef_box (cs := cs) rfl rfl) rfl ?_
  rintro _ w0 ⟨g1, rfl, B1, hg1, ex⟩
  replace HB := HB.ext ex
  replace E := E.ext ex
  replace HS := HS.ext ex
  replace H5 := H5.ext ex
  replace H1 := H1.ext ex
  skip
  refine wl_y (y_assign rfl) rfl ?_
  refine wl_nil ?_
  refine wq_then_norm (hK1 ?_)
  refine wc_seq ?_; intro K2 hK2
  refine wc_seq ?_; intro K3 hK3
  refine wc_region ?_
  refine wl_call Try.func18 rfl rfl rfl (alive23_any _) rfl ?_
  rintro e w1 ⟨rfl, ex⟩
  refine ⟨_, rfl, ?_⟩
  replace HB := HB.ext ex
  replace E := E.ext ex
  replace HS := HS.ext ex
  replace H5 := H5.ext ex
  replace H1 := H1.ext ex
  replace B1 := B1.ext ex
  refine wl_y (y_not rfl) rfl ?_
  refine wl_nil ?_
  refine wq_then_norm (hK3 ?_)
  refine wc_false rfl rfl ?_
  refine wc_skip ?_
  refine wq_then_norm (hK2 ?_)
  refine wc_seq ?_; intro K4 hK4
  refine wc_seq ?_; intro K5 hK5
  refine wc_region ?_
  refine wl_y (y_fieldAddr (o := 5) (s := 1) (off := 0) (o' := 5) rfl Try.underlying42 rfl (by kernel_rfl) rfl rfl) rfl ?_
  refine wl_y (y_load1 rfl Try.underlying24 rfl (B1.get q5)) rfl ?_
  refine wl_y (y_len_slice rfl Try.underlying24) rfl ?_
  refine wl_yask (y_gtr rfl rfl) rfl (fun h1 => ?_) (fun h1 => ?_)
  · skip
    refine wl_y (y_move rfl) rfl ?_
    refine wl_gno 19 rfl rfl rfl rfl ?_
    refine wl_gno 19 rfl rfl rfl rfl ?_
    refine wl_gno 19 rfl rfl rfl rfl ?_
    refine wl_gno 19 rfl rfl rfl rfl ?_
    refine wl_y (y_pickt rfl rfl) rfl ?_
    refine wl_y (y_move rfl) rfl ?_
    refine wl_gno 25 rfl rfl rfl rfl ?_
    refine wl_gno 25 rfl rfl rfl rfl ?_
    refine wl_gno 25 rfl rfl rfl rfl ?_
    refine wl_y (y_pickt rfl rfl) rfl ?_
    refine wl_y (y_move rfl) rfl ?_
    refine wl_gno 30 rfl rfl rfl rfl ?_
    refine wl_gno 30 rfl rfl rfl rfl ?_
    refine wl_gno 30 rfl rfl rfl rfl ?_
    refine wl_y (y_pickt rfl rfl) rfl ?_
    refine wl_y (y_move rfl) rfl ?_
    refine wl_gno 35 rfl rfl rfl rfl ?_
    refine wl_gno 35 rfl rfl rfl rfl ?_
    refine wl_gno 35 rfl rfl rfl rfl ?_
    refine wl_gun 38 rfl rfl rfl ?_
    refine wl_gun 38 rfl rfl rfl ?_
    refine wl_gno 35 rfl rfl rfl rfl ?_
    refine wl_y (y_pickt rfl rfl) rfl ?_
    refine wl_nil ?_
    refine wq_then_norm (hK5 ?_)
    refine wc_true rfl rfl ?_
    refine wc_seq ?_; intro K6 hK6
    refine wc_region ?_
    refine wl_y (y_assign rfl) rfl ?_
    refine wl_nil ?_
    refine wq_then_norm (hK6 ?_)
    refine wc_ret ?_
    refine wq_then_ret ?_
    refine hret rfl ?_
    exact ⟨rfl, E⟩
  · skip
    refine wl_y (y_move rfl) rfl ?_
    refine wl_gy 19 rfl rfl (y_fieldAddr (o := 1) (s := 1) (off := 0) (o' := 1) rfl Try.underlying42 rfl (by kernel_rfl) rfl rfl) rfl ?_
    refine wl_gy 19 rfl rfl (y_load1 rfl Try.underlying24 rfl (B1.get q1)) rfl ?_
    refine wl_gy 19 rfl rfl (y_len_slice rfl Try.underlying24) rfl ?_
    refine wl_gyask 19 rfl rfl (y_gtr rfl rfl) rfl (fun h2 => ?_) (fun h2 => ?_)
    · skip
      refine wl_y (y_pickf rfl rfl) rfl ?_
      refine wl_y (y_move rfl) rfl ?_
      refine wl_gno 25 rfl rfl rfl rfl ?_
      refine wl_gno 25 rfl rfl rfl rfl ?_
      refine wl_gno 25 rfl rfl rfl rfl ?_
      refine wl_y (y_pickt rfl rfl) rfl ?_
      refine wl_y (y_move rfl) rfl ?_
      refine wl_gno 30 rfl rfl rfl rfl ?_
      refine wl_gno 30 rfl rfl rfl rfl ?_
      refine wl_gno 30 rfl rfl rfl rfl ?_
      refine wl_y (y_pickt rfl rfl) rfl ?_
      refine wl_y (y_move rfl) rfl ?_
      refine wl_gno 35 rfl rfl rfl rfl ?_
      refine wl_gno 35 rfl rfl rfl rfl ?_
      refine wl_gno 35 rfl rfl rfl rfl ?_
      refine wl_gun 38 rfl rfl rfl ?_
      refine wl_gun 38 rfl rfl rfl ?_
      refine wl_gno 35 rfl rfl rfl rfl ?_
      refine wl_y (y_pickt rfl rfl) rfl ?_
      refine wl_nil ?_
      refine wq_then_norm (hK5 ?_)
      refine wc_true rfl rfl ?_
      refine wc_seq ?_; intro K7 hK7
      refine wc_region ?_
      refine wl_y (y_assign rfl) rfl ?_
      refine wl_nil ?_
      refine wq_then_norm (hK7 ?_)
      refine wc_ret ?_
      refine wq_then_ret ?_
      refine hret rfl ?_
      exact ⟨rfl, E⟩
    · skip
      refine wl_y (y_pickf rfl rfl) rfl ?_
      refine wl_y (y_move rfl) rfl ?_
      refine wl_gy 25 rfl rfl (y_move rfl) rfl ?_
      refine wl_gy 25 rfl rfl (y_len_str rfl Try.underlying9) rfl ?_
      refine wl_gyask 25 rfl rfl (y_gtr rfl rfl) rfl (fun h3 => ?_) (fun h3 => ?_)
      · skip
        refine wl_y (y_pickf rfl rfl) rfl ?_
        refine wl_y (y_move rfl) rfl ?_
        refine wl_gno 30 rfl rfl rfl rfl ?_
        refine wl_gno 30 rfl rfl rfl rfl ?_
        refine wl_gno 30 rfl rfl rfl rfl ?_
        refine wl_y (y_pickt rfl rfl) rfl ?_
        refine wl_y (y_move rfl) rfl ?_
        refine wl_gno 35 rfl rfl rfl rfl ?_
        refine wl_gno 35 rfl rfl rfl rfl ?_
        refine wl_gno 35 rfl rfl rfl rfl ?_
        refine wl_gun 38 rfl rfl rfl ?_
        refine wl_gun 38 rfl rfl rfl ?_
        refine wl_gno 35 rfl rfl rfl rfl ?_
        refine wl_y (y_pickt rfl rfl) rfl ?_
        refine wl_nil ?_
        refine wq_then_norm (hK5 ?_)
        refine wc_true rfl rfl ?_
        refine wc_seq ?_; intro K8 hK8
        refine wc_region ?_
        refine wl_y (y_assign rfl) rfl ?_
        refine wl_nil ?_
        refine wq_then_norm (hK8 ?_)
        refine wc_ret ?_
        refine wq_then_ret ?_
        refine hret rfl ?_
        exact ⟨rfl, E⟩
      · skip
        refine wl_y (y_pickf rfl rfl) rfl ?_
        refine wl_y (y_move rfl) rfl ?_
        refine wl_gy 30 rfl rfl (y_move rfl) rfl ?_
        refine wl_gy 30 rfl rfl (y_len_slice rfl Try.underlying24) rfl ?_
        refine wl_gyask 30 rfl rfl (y_gtr rfl rfl) rfl (fun h4 => ?_) (fun h4 => ?_)
        · skip
          refine wl_y (y_pickf rfl rfl) rfl ?_
          refine wl_y (y_move rfl) rfl ?_
          refine wl_gno 35 rfl rfl rfl rfl ?_
          refine wl_gno 35 rfl rfl rfl rfl ?_
          refine wl_gno 35 rfl rfl rfl rfl ?_
          refine wl_gun 38 rfl rfl rfl ?_
          refine wl_gun 38 rfl rfl rfl ?_
          refine wl_gno 35 rfl rfl rfl rfl ?_
          refine wl_y (y_pickt rfl rfl) rfl ?_
          refine wl_nil ?_
          refine wq_then_norm (hK5 ?_)
          refine wc_true rfl rfl ?_
          refine wc_seq ?_; intro K9 hK9
          refine wc_region ?_
          refine wl_y (y_assign rfl) rfl ?_
          refine wl_nil ?_
          refine wq_then_norm (hK9 ?_)
          refine wc_ret ?_
          refine wq_then_ret ?_
          refine hret rfl ?_
          exact ⟨rfl, E⟩
        · skip
          refine wl_y (y_pickf rfl rfl) rfl ?_
          refine wl_y (y_move rfl) rfl ?_
          refine wl_gy 35 rfl rfl (y_move rfl) rfl ?_
          refine wl_gyask 35 rfl rfl (y_gtr rfl rfl) rfl (fun h5 => ?_) (fun h5 => ?_)
          · skip
            refine wl_gy 35 rfl rfl (y_move rfl) rfl ?_
            refine wl_gy 38 rfl rfl (y_move rfl) rfl ?_
            refine wl_gyask 38 rfl rfl (y_leq rfl rfl) rfl (fun h6 => ?_) (fun h6 => ?_)
            · skip
              refine wl_gy 35 rfl rfl (y_pickt rfl rfl) rfl ?_
              refine wl_y (y_pickf rfl rfl) rfl ?_
              refine wl_nil ?_
              refine wq_then_norm (hK5 ?_)
              refine wc_true rfl rfl ?_
              refine wc_seq ?_; intro K10 hK10
              refine wc_region ?_
              refine wl_y (y_assign rfl) rfl ?_
              refine wl_nil ?_
              refine wq_then_norm (hK10 ?_)
              refine wc_ret ?_
              refine wq_then_ret ?_
              refine hret rfl ?_
              exact ⟨rfl, E⟩
            · skip
              refine wl_gy 35 rfl rfl (y_pickt rfl rfl) rfl ?_
              refine wl_y (y_pickf rfl rfl) rfl ?_
              refine wl_nil ?_
              refine wq_then_norm (hK5 ?_)
              refine wc_false rfl rfl ?_
              refine wc_skip ?_
              refine wq_then_norm (hK4 ?_)
              refine wc_seq ?_; intro K11 hK11
              refine wc_region ?_
              refine wl_y (y_loadw rfl Try.underlying42 rfl (by rw [hcz]; kernel_rfl) B1) rfl ?_
              refine wl_call Try.func36 rfl rfl rfl (slock_any cs l _ HS (by omega)) rfl ?_
              rintro e w2 ⟨Ak, ck, An, cn, rfl, Hk, Hn, ex⟩
              refine ⟨_, rfl, ?_⟩
              replace HB := HB.ext ex
              replace E := E.ext ex
              replace HS := HS.ext ex
              replace H5 := H5.ext ex
              replace H1 := H1.ext ex
              replace B1 := B1.ext ex
              skip
              refine wl_y (y_move rfl) rfl ?_
              refine wl_y (y_extract rfl rfl) rfl ?_
              refine wl_y (y_extract rfl rfl) rfl ?_
              refine wl_y (y_assign rfl) rfl ?_
              refine wl_y (y_assign rfl) rfl ?_
              refine wl_nil ?_
              refine wq_then_norm (hK11 ?_)
              refine wc_seq ?_; intro K12 hK12
              refine wc_seq ?_; intro K13 hK13
              refine wc_region ?_
              refine wl_y (y_move rfl) rfl ?_
              refine wl_y (y_fieldAddr (o := 1) (s := 1) (off := 0) (o' := 1) rfl Try.underlying42 rfl (by kernel_rfl) rfl rfl) rfl ?_
              refine wl_y (y_load1 rfl Try.underlying24 rfl (B1.get q1)) rfl ?_
              refine wl_call Try.func37 rfl rfl rfl (refLabel_any A1 none n1 c1 0 0 16 sKey _ [] _ H1 (by omega) (by decide) (Bs.nil _ _) (by omega) (by omega)) rfl ?_
              rintro e w3 ⟨A3, c3, rfl, H3, ex⟩
              refine ⟨_, rfl, ?_⟩
              replace HB := HB.ext ex
              replace E := E.ext ex
              replace HS := HS.ext ex
              replace H5 := H5.ext ex
              replace H1 := H1.ext ex
              replace B1 := B1.ext ex
              replace Hk := Hk.ext ex
              replace Hn := Hn.ext ex
              skip
              refine wl_call Try.func14 rfl rfl rfl (sameX_any _ _ 16 16 _ _ _ _ _ Hk H3 (by omega) (by omega)) rfl ?_
              rintro e w4 ⟨rfl, ex⟩
              refine ⟨_, rfl, ?_⟩
              replace HB := HB.ext ex
              replace E := E.ext ex
              replace HS := HS.ext ex
              replace H5 := H5.ext ex
              replace H1 := H1.ext ex
              replace B1 := B1.ext ex
              replace Hk := Hk.ext ex
              replace Hn := Hn.ext ex
              rw [decide_eq_true rfl]
              refine wl_y (y_not rfl) rfl ?_
              refine wl_y (y_move rfl) rfl ?_
              refine wl_gy 54 rfl rfl (y_move rfl) rfl ?_
              refine wl_gy 54 rfl rfl (y_fieldAddr (o := 1) (s := 1) (off := 0) (o' := 1) rfl Try.underlying42 rfl (by kernel_rfl) rfl rfl) rfl ?_
              refine wl_gy 54 rfl rfl (y_load1 rfl Try.underlying24 rfl (B1.get q1)) rfl ?_
              refine wl_gcall 54 rfl rfl Try.func37 rfl rfl rfl (refLabel_any A1 none n1 c1 0 0 12 sNonce _ [] _ H1 (by omega) (by decide) (Bs.nil _ _) (by omega) (by omega)) rfl ?_
              rintro e w5 ⟨A6, c6, rfl, H6, ex⟩
              refine ⟨_, rfl, ?_⟩
              replace HB := HB.ext ex
              replace E := E.ext ex
              replace HS := HS.ext ex
              replace H5 := H5.ext ex
              replace H1 := H1.ext ex
              replace B1 := B1.ext ex
              replace Hn := Hn.ext ex
              skip
              refine wl_gcall 54 rfl rfl Try.func14 rfl rfl rfl (sameX_any _ _ 12 12 _ _ _ _ _ Hn H6 (by omega) (by omega)) rfl ?_
              rintro e w6 ⟨rfl, ex⟩
              refine ⟨_, rfl, ?_⟩
              replace HB := HB.ext ex
              replace E := E.ext ex
              replace HS := HS.ext ex
              replace H5 := H5.ext ex
              replace H1 := H1.ext ex
              replace B1 := B1.ext ex
              replace Hn := Hn.ext ex
              rw [decide_eq_true rfl]
              refine wl_gy 54 rfl rfl (y_not rfl) rfl ?_
              refine wl_y (y_pickf rfl rfl) rfl ?_
              refine wl_nil ?_
              refine wq_then_norm (hK13 ?_)
              refine wc_false rfl rfl ?_
              refine wc_skip ?_
              refine wq_then_norm (hK12 ?_)
              refine wc_seq ?_; intro K14 hK14
              by_cases hbad : z < 0 ∨ 8160 < z
              · skip
                refine wc_region ?_
                refine wl_y (y_loadw rfl Try.underlying42 rfl (by rw [hcz]; kernel_rfl) B1) rfl ?_
                refine wl_y (y_move rfl) rfl ?_
                refine wl_y (y_move rfl) rfl ?_
                refine wl_y (y_move rfl) rfl ?_
                refine wl_call Try.func38 rfl rfl rfl (sexport_bad cs l lab B m d ys z _ HS (by omega) (by omega) HB (by omega) hbad) rfl ?_
                rintro e w7 ⟨rfl, ex⟩
                refine ⟨_, rfl, ?_⟩
                replace HB := HB.ext ex
                replace E := E.ext ex
                replace HS := HS.ext ex
                replace H5 := H5.ext ex
                replace H1 := H1.ext ex
                replace B1 := B1.ext ex
                skip
                refine wl_y (y_move rfl) rfl ?_
                refine wl_y (y_extract rfl rfl) rfl ?_
                refine wl_y (y_extract rfl rfl) rfl ?_
                refine wl_y (y_assign rfl) rfl ?_
                refine wl_y (y_assign rfl) rfl ?_
                refine wl_nil ?_
                refine wq_then_norm (hK14 ?_)
                refine wc_seq ?_; intro K15 hK15
                refine wc_seq ?_; intro K16 hK16
                refine wc_region ?_
                refine wl_y (y_move rfl) rfl ?_
                refine wl_yask (y_lss rfl rfl) rfl (fun hq => ?_) (fun hq => ?_)
                · skip
                  refine wl_y (y_move rfl) rfl ?_
                  refine wl_gno 72 rfl rfl rfl rfl ?_
                  refine wl_gno 72 rfl rfl rfl rfl ?_
                  refine wl_y (y_pickt rfl rfl) rfl ?_
                  refine wl_nil ?_
                  refine wq_then_norm (hK16 ?_)
                  refine wc_true rfl rfl ?_
                  refine wc_seq ?_; intro K17 hK17
                  refine wc_region ?_
                  refine wl_y (y_move rfl) rfl ?_
                  refine wl_y (y_conv rfl Try.underlying58 Try.underlying3 (i64_ok (by omega) (by omega))) rfl ?_
                  refine wl_y (Y.as (y_eql rfl rfl) (congrArg Value.bool (decide_eq_true rfl))) rfl ?_
                  refine wl_y (y_move rfl) rfl ?_
                  refine wl_gy 79 rfl rfl (y_move rfl) rfl ?_
                  refine wl_gy 79 rfl rfl (y_len_slice rfl Try.underlying24) rfl ?_
                  refine wl_gy 79 rfl rfl (Y.as (y_eql rfl rfl) (congrArg Value.bool (decide_eq_true rfl))) rfl ?_
                  refine wl_y (y_pickt rfl rfl) rfl ?_
                  refine wl_y (y_assign rfl) rfl ?_
                  refine wl_nil ?_
                  refine wq_then_norm (hK17 ?_)
                  refine wc_ret ?_
                  refine wq_then_ret ?_
                  refine hret rfl ?_
                  exact ⟨rfl, E⟩
                · skip
                  refine wl_y (y_move rfl) rfl ?_
                  refine wl_gy 72 rfl rfl (y_move rfl) rfl ?_
                  refine wl_gy 72 rfl rfl (Y.as (y_gtr rfl rfl) (congrArg Value.bool (decide_eq_true (by omega)))) rfl ?_
                  refine wl_y (y_pickf rfl rfl) rfl ?_
                  refine wl_nil ?_
                  refine wq_then_norm (hK16 ?_)
                  refine wc_true rfl rfl ?_
                  refine wc_seq ?_; intro K18 hK18
                  refine wc_region ?_
                  refine wl_y (y_move rfl) rfl ?_
                  refine wl_y (y_conv rfl Try.underlying58 Try.underlying3 (i64_ok (by omega) (by omega))) rfl ?_
                  refine wl_y (Y.as (y_eql rfl rfl) (congrArg Value.bool (decide_eq_true rfl))) rfl ?_
                  refine wl_y (y_move rfl) rfl ?_
                  refine wl_gy 79 rfl rfl (y_move rfl) rfl ?_
                  refine wl_gy 79 rfl rfl (y_len_slice rfl Try.underlying24) rfl ?_
                  refine wl_gy 79 rfl rfl (Y.as (y_eql rfl rfl) (congrArg Value.bool (decide_eq_true rfl))) rfl ?_
                  refine wl_y (y_pickt rfl rfl) rfl ?_
                  refine wl_y (y_assign rfl) rfl ?_
                  refine wl_nil ?_
                  refine wq_then_norm (hK18 ?_)
                  refine wc_ret ?_
                  refine wq_then_ret ?_
                  refine hret rfl ?_
                  exact ⟨rfl, E⟩
              · skip
                obtain ⟨k, rfl⟩ : ∃ k : Nat, z = k := Int.eq_ofNat_of_zero_le (by omega)
                refine wc_region ?_
                refine wl_y (y_loadw rfl Try.underlying42 rfl (by rw [hcz]; kernel_rfl) B1) rfl ?_
                refine wl_y (y_move rfl) rfl ?_
                refine wl_y (y_move rfl) rfl ?_
                refine wl_y (y_move rfl) rfl ?_
                refine wl_call Try.func38 rfl rfl rfl (sexport_any cs l lab B m d k ys _ HS (by omega) (by omega) HB (by omega) (by omega)) rfl ?_
                rintro e w7 ⟨A7, c7, rfl, H7, ex⟩
                refine ⟨_, rfl, ?_⟩
                replace HB := HB.ext ex
                replace E := E.ext ex
                replace HS := HS.ext ex
                replace H5 := H5.ext ex
                replace H1 := H1.ext ex
                replace B1 := B1.ext ex
                skip
                refine wl_y (y_move rfl) rfl ?_
                refine wl_y (y_extract rfl rfl) rfl ?_
                refine wl_y (y_extract rfl rfl) rfl ?_
                refine wl_y (y_assign rfl) rfl ?_
                refine wl_y (y_assign rfl) rfl ?_
                refine wl_nil ?_
                refine wq_then_norm (hK14 ?_)
                refine wc_seq ?_; intro K19 hK19
                refine wc_seq ?_; intro K20 hK20
                refine wc_region ?_
                refine wl_y (y_move rfl) rfl ?_
                refine wl_y (Y.as (y_lss rfl rfl) (congrArg Value.bool (decide_eq_false (by omega)))) rfl ?_
                refine wl_y (y_move rfl) rfl ?_
                refine wl_gy 72 rfl rfl (y_move rfl) rfl ?_
                refine wl_gy 72 rfl rfl (Y.as (y_gtr rfl rfl) (congrArg Value.bool (decide_eq_false (by omega)))) rfl ?_
                refine wl_y (y_pickf rfl rfl) rfl ?_
                refine wl_nil ?_
                refine wq_then_norm (hK20 ?_)
                refine wc_false rfl rfl ?_
                refine wc_skip ?_
                refine wq_then_norm (hK19 ?_)
                refine wc_seq ?_; intro K21 hK21
                refine wc_region ?_
                refine wl_y (y_move rfl) rfl ?_
                refine wl_y (y_conv rfl Try.underlying58 Try.underlying3 (i64_ok (by omega) (by omega))) rfl ?_
                refine wl_y (Y.as (y_eql rfl rfl) (congrArg Value.bool (decide_eq_true rfl))) rfl ?_
                refine wl_y (y_move rfl) rfl ?_
                refine wl_gy 87 rfl rfl (y_move rfl) rfl ?_
                refine wl_gy 87 rfl rfl (y_loadw rfl Try.underlying42 rfl (by rw [hcz]; kernel_rfl) B1) rfl ?_
                refine wl_gy 87 rfl rfl (y_move rfl) rfl ?_
                refine wl_gy 87 rfl rfl (y_move rfl) rfl ?_
                refine wl_gy 87 rfl rfl (y_move rfl) rfl ?_
                refine wl_gcall 87 rfl rfl Try.func39 rfl rfl rfl (rexport_any cs l lab B m d k ys _ HS (by omega) (by omega) HB (by omega) (by omega)) rfl ?_
                rintro e w8 ⟨A8, c8, rfl, H8, ex⟩
                refine ⟨_, rfl, ?_⟩
                replace HB := HB.ext ex
                replace E := E.ext ex
                replace HS := HS.ext ex
                replace H5 := H5.ext ex
                replace H1 := H1.ext ex
                replace B1 := B1.ext ex
                replace H7 := H7.ext ex
                skip
                refine wl_gcall 87 rfl rfl Try.func14 rfl rfl rfl (sameX_any _ _ k k _ _ _ _ _ H7 H8 (by omega) (by omega)) rfl ?_
                rintro e w9 ⟨rfl, ex⟩
                refine ⟨_, rfl, ?_⟩
                replace HB := HB.ext ex
                replace E := E.ext ex
                replace HS := HS.ext ex
                replace H5 := H5.ext ex
                replace H1 := H1.ext ex
                replace B1 := B1.ext ex
                replace H7 := H7.ext ex
                rw [decide_eq_true rfl]
                refine wl_y (y_pickt rfl rfl) rfl ?_
                refine wl_y (y_assign rfl) rfl ?_
                refine wl_nil ?_
                refine wq_then_norm (hK21 ?_)
                refine wc_ret ?_
                refine hret rfl ?_
                exact ⟨rfl, E⟩
          · skip
            refine wl_gy 35 rfl rfl (y_move rfl) rfl ?_
            refine wl_gno 38 rfl rfl rfl rfl ?_
            refine wl_gno 38 rfl rfl rfl rfl ?_
            refine wl_gy 35 rfl rfl (y_pickf rfl rfl) rfl ?_
            refine wl_y (y_pickf rfl rfl) rfl ?_
            refine wl_nil ?_
            refine wq_then_norm (hK5 ?_)
            refine wc_false rfl rfl ?_
            refine wc_skip ?_
            refine wq_then_norm (hK4 ?_)
            refine wc_seq ?_; intro K22 hK22
            refine wc_region ?_
            refine wl_y (y_loadw rfl Try.underlying42 rfl (by rw [hcz]; kernel_rfl) B1) rfl ?_
            refine wl_call Try.func36 rfl rfl rfl (slock_any cs l _ HS (by omega)) rfl ?_
            rintro e w2 ⟨Ak, ck, An, cn, rfl, Hk, Hn, ex⟩
            refine ⟨_, rfl, ?_⟩
            replace HB := HB.ext ex
            replace E := E.ext ex
            replace HS := HS.ext ex
            replace H5 := H5.ext ex
            replace H1 := H1.ext ex
            replace B1 := B1.ext ex
            skip
            refine wl_y (y_move rfl) rfl ?_
            refine wl_y (y_extract rfl rfl) rfl ?_
            refine wl_y (y_extract rfl rfl) rfl ?_
            refine wl_y (y_assign rfl) rfl ?_
            refine wl_y (y_assign rfl) rfl ?_
            refine wl_nil ?_
            refine wq_then_norm (hK22 ?_)
            refine wc_seq ?_; intro K23 hK23
            refine wc_seq ?_; intro K24 hK24
            refine wc_region ?_
            refine wl_y (y_move rfl) rfl ?_
            refine wl_y (y_fieldAddr (o := 1) (s := 1) (off := 0) (o' := 1) rfl Try.underlying42 rfl (by kernel_rfl) rfl rfl) rfl ?_
            refine wl_y (y_load1 rfl Try.underlying24 rfl (B1.get q1)) rfl ?_
            refine wl_call Try.func37 rfl rfl rfl (refLabel_any A1 none n1 c1 0 0 16 sKey _ [] _ H1 (by omega) (by decide) (Bs.nil _ _) (by omega) (by omega)) rfl ?_
            rintro e w3 ⟨A3, c3, rfl, H3, ex⟩
            refine ⟨_, rfl, ?_⟩
            replace HB := HB.ext ex
            replace E := E.ext ex
            replace HS := HS.ext ex
            replace H5 := H5.ext ex
            replace H1 := H1.ext ex
            replace B1 := B1.ext ex
            replace Hk := Hk.ext ex
            replace Hn := Hn.ext ex
            skip
            refine wl_call Try.func14 rfl rfl rfl (sameX_any _ _ 16 16 _ _ _ _ _ Hk H3 (by omega) (by omega)) rfl ?_
            rintro e w4 ⟨rfl, ex⟩
            refine ⟨_, rfl, ?_⟩
            replace HB := HB.ext ex
            replace E := E.ext ex
            replace HS := HS.ext ex
            replace H5 := H5.ext ex
            replace H1 := H1.ext ex
            replace B1 := B1.ext ex
            replace Hk := Hk.ext ex
            replace Hn := Hn.ext ex
            rw [decide_eq_true rfl]
            refine wl_y (y_not rfl) rfl ?_
            refine wl_y (y_move rfl) rfl ?_
            refine wl_gy 54 rfl rfl (y_move rfl) rfl ?_
            refine wl_gy 54 rfl rfl (y_fieldAddr (o := 1) (s := 1) (off := 0) (o' := 1) rfl Try.underlying42 rfl (by kernel_rfl) rfl rfl) rfl ?_
            refine wl_gy 54 rfl rfl (y_load1 rfl Try.underlying24 rfl (B1.get q1)) rfl ?_
            refine wl_gcall 54 rfl rfl Try.func37 rfl rfl rfl (refLabel_any A1 none n1 c1 0 0 12 sNonce _ [] _ H1 (by omega) (by decide) (Bs.nil _ _) (by omega) (by omega)) rfl ?_
            rintro e w5 ⟨A6, c6, rfl, H6, ex⟩
            refine ⟨_, rfl, ?_⟩
            replace HB := HB.ext ex
            replace E := E.ext ex
            replace HS := HS.ext ex
            replace H5 := H5.ext ex
            replace H1 := H1.ext ex
            replace B1 := B1.ext ex
            replace Hn := Hn.ext ex
            skip
            refine wl_gcall 54 rfl rfl Try.func14 rfl rfl rfl (sameX_any _ _ 12 12 _ _ _ _ _ Hn H6 (by omega) (by omega)) rfl ?_
            rintro e w6 ⟨rfl, ex⟩
            refine ⟨_, rfl, ?_⟩
            replace HB := HB.ext ex
            replace E := E.ext ex
            replace HS := HS.ext ex
            replace H5 := H5.ext ex
            replace H1 := H1.ext ex
            replace B1 := B1.ext ex
            replace Hn := Hn.ext ex
            rw [decide_eq_true rfl]
            refine wl_gy 54 rfl rfl (y_not rfl) rfl ?_
            refine wl_y (y_pickf rfl rfl) rfl ?_
            refine wl_nil ?_
            refine wq_then_norm (hK24 ?_)
            refine wc_false rfl rfl ?_
            refine wc_skip ?_
            refine wq_then_norm (hK23 ?_)
            refine wc_seq ?_; intro K25 hK25
            by_cases hbad : z < 0 ∨ 8160 < z
            · skip
              refine wc_region ?_
              refine wl_y (y_loadw rfl Try.underlying42 rfl (by rw [hcz]; kernel_rfl) B1) rfl ?_
              refine wl_y (y_move rfl) rfl ?_
              refine wl_y (y_move rfl) rfl ?_
              refine wl_y (y_move rfl) rfl ?_
              refine wl_call Try.func38 rfl rfl rfl (sexport_bad cs l lab B m d ys z _ HS (by omega) (by omega) HB (by omega) hbad) rfl ?_
              rintro e w7 ⟨rfl, ex⟩
              refine ⟨_, rfl, ?_⟩
              replace HB := HB.ext ex
              replace E := E.ext ex
              replace HS := HS.ext ex
              replace H5 := H5.ext ex
              replace H1 := H1.ext ex
              replace B1 := B1.ext ex
              skip
              refine wl_y (y_move rfl) rfl ?_
              refine wl_y (y_extract rfl rfl) rfl ?_
              refine wl_y (y_extract rfl rfl) rfl ?_
              refine wl_y (y_assign rfl) rfl ?_
              refine wl_y (y_assign rfl) rfl ?_
              refine wl_nil ?_
              refine wq_then_norm (hK25 ?_)
              refine wc_seq ?_; intro K26 hK26
              refine wc_seq ?_; intro K27 hK27
              refine wc_region ?_
              refine wl_y (y_move rfl) rfl ?_
              refine wl_yask (y_lss rfl rfl) rfl (fun hq => ?_) (fun hq => ?_)
              · skip
                refine wl_y (y_move rfl) rfl ?_
                refine wl_gno 72 rfl rfl rfl rfl ?_
                refine wl_gno 72 rfl rfl rfl rfl ?_
                refine wl_y (y_pickt rfl rfl) rfl ?_
                refine wl_nil ?_
                refine wq_then_norm (hK27 ?_)
                refine wc_true rfl rfl ?_
                refine wc_seq ?_; intro K28 hK28
                refine wc_region ?_
                refine wl_y (y_move rfl) rfl ?_
                refine wl_y (y_conv rfl Try.underlying58 Try.underlying3 (i64_ok (by omega) (by omega))) rfl ?_
                refine wl_y (Y.as (y_eql rfl rfl) (congrArg Value.bool (decide_eq_true rfl))) rfl ?_
                refine wl_y (y_move rfl) rfl ?_
                refine wl_gy 79 rfl rfl (y_move rfl) rfl ?_
                refine wl_gy 79 rfl rfl (y_len_slice rfl Try.underlying24) rfl ?_
                refine wl_gy 79 rfl rfl (Y.as (y_eql rfl rfl) (congrArg Value.bool (decide_eq_true rfl))) rfl ?_
                refine wl_y (y_pickt rfl rfl) rfl ?_
                refine wl_y (y_assign rfl) rfl ?_
                refine wl_nil ?_
                refine wq_then_norm (hK28 ?_)
                refine wc_ret ?_
                refine wq_then_ret ?_
                refine hret rfl ?_
                exact ⟨rfl, E⟩
              · skip
                refine wl_y (y_move rfl) rfl ?_
                refine wl_gy 72 rfl rfl (y_move rfl) rfl ?_
                refine wl_gy 72 rfl rfl (Y.as (y_gtr rfl rfl) (congrArg Value.bool (decide_eq_true (by omega)))) rfl ?_
                refine wl_y (y_pickf rfl rfl) rfl ?_
                refine wl_nil ?_
                refine wq_then_norm (hK27 ?_)
                refine wc_true rfl rfl ?_
                refine wc_seq ?_; intro K29 hK29
                refine wc_region ?_
                refine wl_y (y_move rfl) rfl ?_
                refine wl_y (y_conv rfl Try.underlying58 Try.underlying3 (i64_ok (by omega) (by omega))) rfl ?_
                refine wl_y (Y.as (y_eql rfl rfl) (congrArg Value.bool (decide_eq_true rfl))) rfl ?_
                refine wl_y (y_move rfl) rfl ?_
                refine wl_gy 79 rfl rfl (y_move rfl) rfl ?_
                refine wl_gy 79 rfl rfl (y_len_slice rfl Try.underlying24) rfl ?_
                refine wl_gy 79 rfl rfl (Y.as (y_eql rfl rfl) (congrArg Value.bool (decide_eq_true rfl))) rfl ?_
                refine wl_y (y_pickt rfl rfl) rfl ?_
                refine wl_y (y_assign rfl) rfl ?_
                refine wl_nil ?_
                refine wq_then_norm (hK29 ?_)
                refine wc_ret ?_
                refine wq_then_ret ?_
                refine hret rfl ?_
                exact ⟨rfl, E⟩
            · skip
              obtain ⟨k, rfl⟩ : ∃ k : Nat, z = k := Int.eq_ofNat_of_zero_le (by omega)
              refine wc_region ?_
              refine wl_y (y_loadw rfl Try.underlying42 rfl (by rw [hcz]; kernel_rfl) B1) rfl ?_
              refine wl_y (y_move rfl) rfl ?_
              refine wl_y (y_move rfl) rfl ?_
              refine wl_y (y_move rfl) rfl ?_
              refine wl_call Try.func38 rfl rfl rfl (sexport_any cs l lab B m d k ys _ HS (by omega) (by omega) HB (by omega) (by omega)) rfl ?_
              rintro e w7 ⟨A7, c7, rfl, H7, ex⟩
              refine ⟨_, rfl, ?_⟩
              replace HB := HB.ext ex
              replace E := E.ext ex
              replace HS := HS.ext ex
              replace H5 := H5.ext ex
              replace H1 := H1.ext ex
              replace B1 := B1.ext ex
              skip
              refine wl_y (y_move rfl) rfl ?_
              refine wl_y (y_extract rfl rfl) rfl ?_
              refine wl_y (y_extract rfl rfl) rfl ?_
              refine wl_y (y_assign rfl) rfl ?_
              refine wl_y (y_assign rfl) rfl ?_
              refine wl_nil ?_
              refine wq_then_norm (hK25 ?_)
              refine wc_seq ?_; intro K30 hK30
              refine wc_seq ?_; intro K31 hK31
              refine wc_region ?_
              refine wl_y (y_move rfl) rfl ?_
              refine wl_y (Y.as (y_lss rfl rfl) (congrArg Value.bool (decide_eq_false (by omega)))) rfl ?_
              refine wl_y (y_move rfl) rfl ?_
              refine wl_gy 72 rfl rfl (y_move rfl) rfl ?_
              refine wl_gy 72 rfl rfl (Y.as (y_gtr rfl rfl) (congrArg Value.bool (decide_eq_false (by omega)))) rfl ?_
              refine wl_y (y_pickf rfl rfl) rfl ?_
              refine wl_nil ?_
              refine wq_then_norm (hK31 ?_)
              refine wc_false rfl rfl ?_
              refine wc_skip ?_
              refine wq_then_norm (hK30 ?_)
              refine wc_seq ?_; intro K32 hK32
              refine wc_region ?_
              refine wl_y (y_move rfl) rfl ?_
              refine wl_y (y_conv rfl Try.underlying58 Try.underlying3 (i64_ok (by omega) (by omega))) rfl ?_
              refine wl_y (Y.as (y_eql rfl rfl) (congrArg Value.bool (decide_eq_true rfl))) rfl ?_
              refine wl_y (y_move rfl) rfl ?_
              refine wl_gy 87 rfl rfl (y_move rfl) rfl ?_
              refine wl_gy 87 rfl rfl (y_loadw rfl Try.underlying42 rfl (by rw [hcz]; kernel_rfl) B1) rfl ?_
              refine wl_gy 87 rfl rfl (y_move rfl) rfl ?_
              refine wl_gy 87 rfl rfl (y_move rfl) rfl ?_
              refine wl_gy 87 rfl rfl (y_move rfl) rfl ?_
              refine wl_gcall 87 rfl rfl Try.func39 rfl rfl rfl (rexport_any cs l lab B m d k ys _ HS (by omega) (by omega) HB (by omega) (by omega)) rfl ?_
              rintro e w8 ⟨A8, c8, rfl, H8, ex⟩
              refine ⟨_, rfl, ?_⟩
              replace HB := HB.ext ex
              replace E := E.ext ex
              replace HS := HS.ext ex
              replace H5 := H5.ext ex
              replace H1 := H1.ext ex
              replace B1 := B1.ext ex
              replace H7 := H7.ext ex
              skip
              refine wl_gcall 87 rfl rfl Try.func14 rfl rfl rfl (sameX_any _ _ k k _ _ _ _ _ H7 H8 (by omega) (by omega)) rfl ?_
              rintro e w9 ⟨rfl, ex⟩
              refine ⟨_, rfl, ?_⟩
              replace HB := HB.ext ex
              replace E := E.ext ex
              replace HS := HS.ext ex
              replace H5 := H5.ext ex
              replace H1 := H1.ext ex
              replace B1 := B1.ext ex
              replace H7 := H7.ext ex
              rw [decide_eq_true rfl]
              refine wl_y (y_pickt rfl rfl) rfl ?_
              refine wl_y (y_assign rfl) rfl ?_
              refine wl_nil ?_
              refine wq_then_norm (hK32 ?_)
              refine wc_ret ?_
              refine hret rfl ?_
              exact ⟨rfl, E⟩
theorem secOf_len {j : List UInt8} {c : Ctx} (h : j.length = 32) (i : Nat) (hi : i < 12) : ((secOf j c).getD i []).length = 32 := by
  have hall : ∀ x ∈ secOf j c, x.length = 32 := by
    intro x hx
    unfold secOf at hx
    simp only [List.cons_append, List.nil_append, List.mem_cons, List.mem_map] at hx
    rcases hx with rfl | rfl | rfl | ⟨i, _, rfl⟩
    · exact h
    · rw [label_length]
    · unfold secEp; rw [label_length]
    · unfold secSub; rw [label_length]
  have hl := secOf_length j c
  rw [List.getD_eq_getElem?_getD, List.getElem?_eq_getElem (by omega)]
  exact hall _ (List.getElem_mem _)
theorem schedParts_law (A : Option Addr) (n c : Nat) (xs : List UInt8) (B : Option Addr) (m d : Nat) (ys : List UInt8) (cs : Array Value) (x : Ctx) (lab : ByteArray) (C : Option Addr) (k f : Nat) (zs : List UInt8) (u v : Int) (w : World) (HA : Bs w A n xs) (hn : n ≤ maxLen) (HB : Bs w B m ys) (hm : m ≤ maxLen) (H : CtxAt w cs x) (he : x.ep < 18446744073709551616) (hlab : lab.size ≤ maxLen) (HC : Bs w C k zs) (hk : k ≤ maxLen) (hu : (Lit.int .u8 u).wf = true) (hv : (Lit.int .u8 v).wf = true) :
    Calls Try.prog 9 #[.slice A n c, .slice B m d, .agg cs, .string lab, .slice C k f, .int .u8 u, .int .u8 v] w fun e w' => e = .returned (.bool true) ∧ Below w.heap.size w w' := by
  have hz := H.size
  have hx := HA.1; have hy := HB.1; have hzs := HC.1
  unfold maxLen at hn hm hk hlab
  have hu' : 0 ≤ u ∧ u ≤ 255 := by simpa [Lit.wf, IntKind.min, IntKind.max, IntKind.bits, IntKind.signed] using hu
  have hv' : 0 ≤ v ∧ v ≤ 255 := by simpa [Lit.wf, IntKind.min, IntKind.max, IntKind.bits, IntKind.signed] using hv
  obtain ⟨p, rfl⟩ : ∃ p : Nat, u = p := Int.eq_ofNat_of_zero_le hu'.1
  obtain ⟨q, rfl⟩ : ∃ q : Nat, v = q := Int.eq_ofNat_of_zero_le hv'.1
  have E := Ext.refl w
  obtain ⟨l, hl⟩ : ∃ l, l = secOf (secJoiner xs ys x) x := ⟨_, rfl⟩
  have hlen : ∀ i, i < 12 → (l.getD i []).length = 32 := fun i hi => by rw [hl]; exact secOf_len (secJoiner_length _ _ _) i hi
  have hall : ∀ x ∈ l, x.length ≤ 1000000 := by rw [hl]; exact secOf_all (by rw [secJoiner_length]; omega)
  refine vc_enter1 184 Try.func9 rfl rfl rfl rfl ?_
  intro Q hret
  refine wc_seq ?_; intro K1 hK1
  refine wc_region ?_
  refine wl_ef (ef_box (cs := cs) rfl rfl) rfl ?_
  rintro _ w0 ⟨g9, rfl, B9, hg9, ex⟩
  replace HA := HA.ext ex
  replace HB := HB.ext ex
  replace HC := HC.ext ex
  replace H := H.ext ex
  replace E := E.ext ex
  skip
  refine wl_y (y_assign rfl) rfl ?_
  refine wl_nil ?_
  refine wq_then_norm (hK1 ?_)
  refine wc_seq ?_; intro K2 hK2
  refine wc_seq ?_; intro K3 hK3
  refine wc_region ?_
  refine wl_call Try.func18 rfl rfl rfl (alive23_any _) rfl ?_
  rintro e w1 ⟨rfl, ex⟩
  refine ⟨_, rfl, ?_⟩
  replace HA := HA.ext ex
  replace HB := HB.ext ex
  replace HC := HC.ext ex
  replace H := H.ext ex
  replace E := E.ext ex
  replace B9 := B9.ext ex
  refine wl_y (y_not rfl) rfl ?_
  refine wl_nil ?_
  refine wq_then_norm (hK3 ?_)
  refine wc_false rfl rfl ?_
  refine wc_skip ?_
  refine wq_then_norm (hK2 ?_)
  refine wc_seq ?_; intro K4 hK4
  refine wc_seq ?_; intro K5 hK5
  refine wc_region ?_
  refine wl_y (y_move rfl) rfl ?_
  refine wl_y (y_len_slice rfl Try.underlying24) rfl ?_
  refine wl_yask (y_gtr rfl rfl) rfl (fun h1 => ?_) (fun h1 => ?_)
  · skip
    refine wl_y (y_move rfl) rfl ?_
    refine wl_gno 31 rfl rfl rfl rfl ?_
    refine wl_gno 31 rfl rfl rfl rfl ?_
    refine wl_gno 31 rfl rfl rfl rfl ?_
    refine wl_y (y_pickt rfl rfl) rfl ?_
    refine wl_y (y_move rfl) rfl ?_
    refine wl_gno 36 rfl rfl rfl rfl ?_
    refine wl_gno 36 rfl rfl rfl rfl ?_
    refine wl_gno 36 rfl rfl rfl rfl ?_
    refine wl_y (y_pickt rfl rfl) rfl ?_
    refine wl_y (y_move rfl) rfl ?_
    refine wl_gno 41 rfl rfl rfl rfl ?_
    refine wl_gno 41 rfl rfl rfl rfl ?_
    refine wl_gno 41 rfl rfl rfl rfl ?_
    refine wl_y (y_pickt rfl rfl) rfl ?_
    refine wl_y (y_move rfl) rfl ?_
    refine wl_gno 46 rfl rfl rfl rfl ?_
    refine wl_gno 46 rfl rfl rfl rfl ?_
    refine wl_gno 46 rfl rfl rfl rfl ?_
    refine wl_y (y_pickt rfl rfl) rfl ?_
    refine wl_nil ?_
    refine wq_then_norm (hK5 ?_)
    refine wc_true rfl rfl ?_
    refine wc_seq ?_; intro K6 hK6
    refine wc_region ?_
    refine wl_y (y_assign rfl) rfl ?_
    refine wl_nil ?_
    refine wq_then_norm (hK6 ?_)
    refine wc_ret ?_
    refine wq_then_ret ?_
    refine hret rfl ?_
    exact ⟨rfl, E⟩
  · skip
    refine wl_y (y_move rfl) rfl ?_
    refine wl_gy 31 rfl rfl (y_move rfl) rfl ?_
    refine wl_gy 31 rfl rfl (y_len_slice rfl Try.underlying24) rfl ?_
    refine wl_gyask 31 rfl rfl (y_gtr rfl rfl) rfl (fun h2 => ?_) (fun h2 => ?_)
    · skip
      refine wl_y (y_pickf rfl rfl) rfl ?_
      refine wl_y (y_move rfl) rfl ?_
      refine wl_gno 36 rfl rfl rfl rfl ?_
      refine wl_gno 36 rfl rfl rfl rfl ?_
      refine wl_gno 36 rfl rfl rfl rfl ?_
      refine wl_y (y_pickt rfl rfl) rfl ?_
      refine wl_y (y_move rfl) rfl ?_
      refine wl_gno 41 rfl rfl rfl rfl ?_
      refine wl_gno 41 rfl rfl rfl rfl ?_
      refine wl_gno 41 rfl rfl rfl rfl ?_
      refine wl_y (y_pickt rfl rfl) rfl ?_
      refine wl_y (y_move rfl) rfl ?_
      refine wl_gno 46 rfl rfl rfl rfl ?_
      refine wl_gno 46 rfl rfl rfl rfl ?_
      refine wl_gno 46 rfl rfl rfl rfl ?_
      refine wl_y (y_pickt rfl rfl) rfl ?_
      refine wl_nil ?_
      refine wq_then_norm (hK5 ?_)
      refine wc_true rfl rfl ?_
      refine wc_seq ?_; intro K7 hK7
      refine wc_region ?_
      refine wl_y (y_assign rfl) rfl ?_
      refine wl_nil ?_
      refine wq_then_norm (hK7 ?_)
      refine wc_ret ?_
      refine wq_then_ret ?_
      refine hret rfl ?_
      exact ⟨rfl, E⟩
    · skip
      refine wl_y (y_pickf rfl rfl) rfl ?_
      refine wl_y (y_move rfl) rfl ?_
      refine wl_gy 36 rfl rfl (y_move rfl) rfl ?_
      refine wl_gy 36 rfl rfl (y_len_str rfl Try.underlying9) rfl ?_
      refine wl_gyask 36 rfl rfl (y_gtr rfl rfl) rfl (fun h3 => ?_) (fun h3 => ?_)
      · skip
        refine wl_y (y_pickf rfl rfl) rfl ?_
        refine wl_y (y_move rfl) rfl ?_
        refine wl_gno 41 rfl rfl rfl rfl ?_
        refine wl_gno 41 rfl rfl rfl rfl ?_
        refine wl_gno 41 rfl rfl rfl rfl ?_
        refine wl_y (y_pickt rfl rfl) rfl ?_
        refine wl_y (y_move rfl) rfl ?_
        refine wl_gno 46 rfl rfl rfl rfl ?_
        refine wl_gno 46 rfl rfl rfl rfl ?_
        refine wl_gno 46 rfl rfl rfl rfl ?_
        refine wl_y (y_pickt rfl rfl) rfl ?_
        refine wl_nil ?_
        refine wq_then_norm (hK5 ?_)
        refine wc_true rfl rfl ?_
        refine wc_seq ?_; intro K8 hK8
        refine wc_region ?_
        refine wl_y (y_assign rfl) rfl ?_
        refine wl_nil ?_
        refine wq_then_norm (hK8 ?_)
        refine wc_ret ?_
        refine wq_then_ret ?_
        refine hret rfl ?_
        exact ⟨rfl, E⟩
      · skip
        refine wl_y (y_pickf rfl rfl) rfl ?_
        refine wl_y (y_move rfl) rfl ?_
        refine wl_gy 41 rfl rfl (y_move rfl) rfl ?_
        refine wl_gy 41 rfl rfl (y_len_slice rfl Try.underlying24) rfl ?_
        refine wl_gyask 41 rfl rfl (y_gtr rfl rfl) rfl (fun h4 => ?_) (fun h4 => ?_)
        · skip
          refine wl_y (y_pickf rfl rfl) rfl ?_
          refine wl_y (y_move rfl) rfl ?_
          refine wl_gno 46 rfl rfl rfl rfl ?_
          refine wl_gno 46 rfl rfl rfl rfl ?_
          refine wl_gno 46 rfl rfl rfl rfl ?_
          refine wl_y (y_pickt rfl rfl) rfl ?_
          refine wl_nil ?_
          refine wq_then_norm (hK5 ?_)
          refine wc_true rfl rfl ?_
          refine wc_seq ?_; intro K9 hK9
          refine wc_region ?_
          refine wl_y (y_assign rfl) rfl ?_
          refine wl_nil ?_
          refine wq_then_norm (hK9 ?_)
          refine wc_ret ?_
          refine wq_then_ret ?_
          refine hret rfl ?_
          exact ⟨rfl, E⟩
        · skip
          refine wl_y (y_pickf rfl rfl) rfl ?_
          refine wl_y (y_move rfl) rfl ?_
          refine wl_gy 46 rfl rfl (y_loadw rfl Try.underlying39 rfl (by rw [hz]; kernel_rfl) B9) rfl ?_
          refine wl_gcall 46 rfl rfl Try.func19 rfl rfl rfl (smallCtx_any cs x _ H he) rfl ?_
          rintro e w2 ⟨pp, hpp, rfl, hps, ex⟩
          refine ⟨_, rfl, ?_⟩
          replace HA := HA.ext ex
          replace HB := HB.ext ex
          replace HC := HC.ext ex
          replace H := H.ext ex
          replace E := E.ext ex
          replace B9 := B9.ext ex
          skip
          refine wl_gyaskb 46 rfl rfl (y_not rfl) rfl (fun hns => ?_) (fun hns => ?_)
          · skip
            refine wl_y (y_pickf rfl rfl) rfl ?_
            refine wl_nil ?_
            refine wq_then_norm (hK5 ?_)
            refine wc_true rfl rfl ?_
            refine wc_seq ?_; intro K10 hK10
            refine wc_region ?_
            refine wl_y (y_assign rfl) rfl ?_
            refine wl_nil ?_
            refine wq_then_norm (hK10 ?_)
            refine wc_ret ?_
            refine wq_then_ret ?_
            refine hret rfl ?_
            exact ⟨rfl, E⟩
          · skip
            refine wl_y (y_pickf rfl rfl) rfl ?_
            refine wl_nil ?_
            refine wq_then_norm (hK5 ?_)
            refine wc_false rfl rfl ?_
            refine wc_skip ?_
            refine wq_then_norm (hK4 ?_)
            refine wc_seq ?_; intro K11 hK11
            have hsm : x.Small := hps.1 (by simpa using hns)
            refine wc_region ?_
            refine wl_y (y_move rfl) rfl ?_
            refine wl_y (y_move rfl) rfl ?_
            refine wl_y (y_loadw rfl Try.underlying39 rfl (by rw [hz]; kernel_rfl) B9) rfl ?_
            refine wl_call Try.func27 rfl rfl rfl (snext_any A B n c m d xs ys cs x _ HA (by omega) HB (by omega) H hsm) rfl ?_
            rintro e w3 ⟨d3, rfl, HS, ex⟩
            refine ⟨_, rfl, ?_⟩
            replace HA := HA.ext ex
            replace HB := HB.ext ex
            replace HC := HC.ext ex
            replace H := H.ext ex
            replace E := E.ext ex
            replace B9 := B9.ext ex
            rw [← hl] at HS
            have HA_g15 := HA
            have HB_g15 := HB
            have HC_g15 := HC
            have H_g15 := H
            have E_g15 := E
            have B9_g15 := B9
            have HS_g15 := HS
            refine wl_ef (ef_alloc (Z := secZ) (by kernel_rfl)) rfl ?_
            rintro _ wn5_4 ⟨g15, rfl, Bg15, hg15, ex⟩
            have Xg15 := ex
            replace HA := HA.ext ex
            replace HB := HB.ext ex
            replace HC := HC.ext ex
            replace H := H.ext ex
            replace E := E.ext ex
            replace B9 := B9.ext ex
            replace HS := HS.ext ex
            refine wl_ef (ef_storeW rfl rfl (by rw [HS.size]; kernel_rfl) Bg15 (by rw [HS.size]; rfl) HS.one) rfl ?_
            rintro _ wn5_5 ⟨rfl, Bg15, cg⟩
            replace Xg15 := Xg15.chg cg hg15
            replace HA := HA_g15.ext Xg15
            replace HB := HB_g15.ext Xg15
            replace HC := HC_g15.ext Xg15
            replace H := H_g15.ext Xg15
            replace E := E_g15.ext Xg15
            replace B9 := B9_g15.ext Xg15
            replace HS := HS_g15.ext Xg15
            refine wl_nil ?_
            refine wq_then_norm (hK11 ?_)
            refine wc_seq ?_; intro K12 hK12
            refine wc_seq ?_; intro K13 hK13
            refine wc_draw (by kernel_rfl) 9 rfl ?_; intro wd6 ex hd6
            replace HA := HA.ext ex
            replace HB := HB.ext ex
            replace HC := HC.ext ex
            replace H := H.ext ex
            replace E := E.ext ex
            replace B9 := B9.ext ex
            replace HS := HS.ext ex
            replace Bg15 := Bg15.ext ex
            refine wm_y 0 rfl (by kernel_rfl) (y_loadw rfl Try.underlying42 rfl (by rw [HS.size]; kernel_rfl) Bg15) rfl ?_
            refine wm_y 1 rfl (by kernel_rfl) (y_move rfl) rfl ?_
            refine wm_y 2 rfl (by kernel_rfl) (y_move rfl) rfl ?_
            refine wm_y 3 rfl (by kernel_rfl) (y_loadw rfl Try.underlying39 rfl (by rw [hz]; kernel_rfl) B9) rfl ?_
            refine wm_y 5 rfl (by kernel_rfl) (y_loadw rfl Try.underlying39 rfl (by rw [hz]; kernel_rfl) B9) rfl ?_
            refine wm_one 4 (by kernel_rfl) ?_; refine om_call rfl Try.func26 rfl rfl rfl (sjoiner_any A B n c m d xs ys cs x _ HA (by omega) HB (by omega) H hsm) rfl ?_
            rintro e w4 ⟨A4, c4, rfl, H4, ex⟩
            refine ⟨_, rfl, .inr ex, ?_⟩
            replace HA := HA.ext ex
            replace HB := HB.ext ex
            replace HC := HC.ext ex
            replace H := H.ext ex
            replace E := E.ext ex
            replace B9 := B9.ext ex
            replace HS := HS.ext ex
            replace Bg15 := Bg15.ext ex
            skip
            refine wm_one 6 (by kernel_rfl) ?_; refine om_call rfl Try.func20 rfl rfl rfl (sof_any A4 32 c4 _ cs x _ H4 (by omega) H hsm) rfl ?_
            rintro e w5 ⟨d5, rfl, H5, ex⟩
            refine ⟨_, rfl, .inr ex, ?_⟩
            replace HA := HA.ext ex
            replace HB := HB.ext ex
            replace HC := HC.ext ex
            replace H := H.ext ex
            replace E := E.ext ex
            replace B9 := B9.ext ex
            replace HS := HS.ext ex
            replace Bg15 := Bg15.ext ex
            rw [← hl] at H5
            refine wm_one 7 (by kernel_rfl) ?_; refine om_call rfl Try.func22 rfl rfl rfl (rsSame_any d3 d5 _ _ _ HS H5 hall hall) rfl ?_
            rintro e w6 ⟨rfl, ex⟩
            refine ⟨_, rfl, .inr ex, ?_⟩
            replace HA := HA.ext ex
            replace HB := HB.ext ex
            replace HC := HC.ext ex
            replace H := H.ext ex
            replace E := E.ext ex
            replace B9 := B9.ext ex
            replace HS := HS.ext ex
            replace Bg15 := Bg15.ext ex
            rw [decide_eq_true rfl]
            refine wm_y 8 rfl (by kernel_rfl) (y_not rfl) rfl ?_
            refine wm_done (by kernel_rfl) ?_
            refine wq_nop ?_
            refine wq_then_norm (hK13 ?_)
            refine wc_false rfl rfl ?_
            refine wc_skip ?_
            refine wq_then_norm (hK12 ?_)
            refine wc_seq ?_; intro K14 hK14
            obtain ⟨a0, na0, ca0, qa0, ra0⟩ := HS.get (i := 0) (by omega)
            have za0 : na0 = 32 := by rw [← ra0.1]; exact hlen 0 (by omega)
            obtain ⟨a1, na1, ca1, qa1, ra1⟩ := HS.get (i := 1) (by omega)
            have za1 : na1 = 32 := by rw [← ra1.1]; exact hlen 1 (by omega)
            obtain ⟨a2, na2, ca2, qa2, ra2⟩ := HS.get (i := 2) (by omega)
            have za2 : na2 = 32 := by rw [← ra2.1]; exact hlen 2 (by omega)
            obtain ⟨a3, na3, ca3, qa3, ra3⟩ := HS.get (i := 3) (by omega)
            have za3 : na3 = 32 := by rw [← ra3.1]; exact hlen 3 (by omega)
            obtain ⟨a4, na4, ca4, qa4, ra4⟩ := HS.get (i := 4) (by omega)
            have za4 : na4 = 32 := by rw [← ra4.1]; exact hlen 4 (by omega)
            obtain ⟨a5, na5, ca5, qa5, ra5⟩ := HS.get (i := 5) (by omega)
            have za5 : na5 = 32 := by rw [← ra5.1]; exact hlen 5 (by omega)
            obtain ⟨a6, na6, ca6, qa6, ra6⟩ := HS.get (i := 6) (by omega)
            have za6 : na6 = 32 := by rw [← ra6.1]; exact hlen 6 (by omega)
            obtain ⟨a7, na7, ca7, qa7, ra7⟩ := HS.get (i := 7) (by omega)
            have za7 : na7 = 32 := by rw [← ra7.1]; exact hlen 7 (by omega)
            obtain ⟨a8, na8, ca8, qa8, ra8⟩ := HS.get (i := 8) (by omega)
            have za8 : na8 = 32 := by rw [← ra8.1]; exact hlen 8 (by omega)
            obtain ⟨a9, na9, ca9, qa9, ra9⟩ := HS.get (i := 9) (by omega)
            have za9 : na9 = 32 := by rw [← ra9.1]; exact hlen 9 (by omega)
            obtain ⟨a10, na10, ca10, qa10, ra10⟩ := HS.get (i := 10) (by omega)
            have za10 : na10 = 32 := by rw [← ra10.1]; exact hlen 10 (by omega)
            obtain ⟨a11, na11, ca11, qa11, ra11⟩ := HS.get (i := 11) (by omega)
            have za11 : na11 = 32 := by rw [← ra11.1]; exact hlen 11 (by omega)
            have hds : d3.size = 12 := HS.size
            have ecs : d3 = #[.slice a0 na0 ca0, .slice a1 na1 ca1, .slice a2 na2 ca2, .slice a3 na3 ca3, .slice a4 na4 ca4, .slice a5 na5 ca5, .slice a6 na6 ca6, .slice a7 na7 ca7, .slice a8 na8 ca8, .slice a9 na9 ca9, .slice a10 na10 ca10, .slice a11 na11 ca11] := by
              apply Array.ext_getElem?
              intro i
              match i with
              | 0 => rw [qa0]; rfl
              | 1 => rw [qa1]; rfl
              | 2 => rw [qa2]; rfl
              | 3 => rw [qa3]; rfl
              | 4 => rw [qa4]; rfl
              | 5 => rw [qa5]; rfl
              | 6 => rw [qa6]; rfl
              | 7 => rw [qa7]; rfl
              | 8 => rw [qa8]; rfl
              | 9 => rw [qa9]; rfl
              | 10 => rw [qa10]; rfl
              | 11 => rw [qa11]; rfl
              | i + 12 => rw [Array.getElem?_eq_none (by omega)]; simp
            refine wc_region ?_
            refine wl_y (y_fieldAddr (o := 0) (s := 1) (off := 0) (o' := 0) rfl Try.underlying42 rfl (by kernel_rfl) rfl rfl) rfl ?_
            refine wl_y (y_load1 rfl Try.underlying24 rfl (Bg15.get qa0)) rfl ?_
            refine wl_y (y_fieldAddr (o := 1) (s := 1) (off := 0) (o' := 1) rfl Try.underlying42 rfl (by kernel_rfl) rfl rfl) rfl ?_
            refine wl_y (y_load1 rfl Try.underlying24 rfl (Bg15.get qa1)) rfl ?_
            refine wl_y (y_fieldAddr (o := 2) (s := 1) (off := 0) (o' := 2) rfl Try.underlying42 rfl (by kernel_rfl) rfl rfl) rfl ?_
            refine wl_y (y_load1 rfl Try.underlying24 rfl (Bg15.get qa2)) rfl ?_
            refine wl_y (y_fieldAddr (o := 3) (s := 1) (off := 0) (o' := 3) rfl Try.underlying42 rfl (by kernel_rfl) rfl rfl) rfl ?_
            refine wl_y (y_load1 rfl Try.underlying24 rfl (Bg15.get qa3)) rfl ?_
            refine wl_y (y_fieldAddr (o := 4) (s := 1) (off := 0) (o' := 4) rfl Try.underlying42 rfl (by kernel_rfl) rfl rfl) rfl ?_
            refine wl_y (y_load1 rfl Try.underlying24 rfl (Bg15.get qa4)) rfl ?_
            refine wl_y (y_fieldAddr (o := 5) (s := 1) (off := 0) (o' := 5) rfl Try.underlying42 rfl (by kernel_rfl) rfl rfl) rfl ?_
            refine wl_y (y_load1 rfl Try.underlying24 rfl (Bg15.get qa5)) rfl ?_
            refine wl_y (y_fieldAddr (o := 6) (s := 1) (off := 0) (o' := 6) rfl Try.underlying42 rfl (by kernel_rfl) rfl rfl) rfl ?_
            refine wl_y (y_load1 rfl Try.underlying24 rfl (Bg15.get qa6)) rfl ?_
            refine wl_y (y_fieldAddr (o := 7) (s := 1) (off := 0) (o' := 7) rfl Try.underlying42 rfl (by kernel_rfl) rfl rfl) rfl ?_
            refine wl_y (y_load1 rfl Try.underlying24 rfl (Bg15.get qa7)) rfl ?_
            refine wl_y (y_fieldAddr (o := 8) (s := 1) (off := 0) (o' := 8) rfl Try.underlying42 rfl (by kernel_rfl) rfl rfl) rfl ?_
            refine wl_y (y_load1 rfl Try.underlying24 rfl (Bg15.get qa8)) rfl ?_
            refine wl_y (y_fieldAddr (o := 9) (s := 1) (off := 0) (o' := 9) rfl Try.underlying42 rfl (by kernel_rfl) rfl rfl) rfl ?_
            refine wl_y (y_load1 rfl Try.underlying24 rfl (Bg15.get qa9)) rfl ?_
            refine wl_y (y_fieldAddr (o := 10) (s := 1) (off := 0) (o' := 10) rfl Try.underlying42 rfl (by kernel_rfl) rfl rfl) rfl ?_
            refine wl_y (y_load1 rfl Try.underlying24 rfl (Bg15.get qa10)) rfl ?_
            refine wl_y (y_fieldAddr (o := 11) (s := 1) (off := 0) (o' := 11) rfl Try.underlying42 rfl (by kernel_rfl) rfl rfl) rfl ?_
            refine wl_y (y_load1 rfl Try.underlying24 rfl (Bg15.get qa11)) rfl ?_
            refine wl_ef (ef_lit (z := .slice none 0 0) Try.underlying22 (by kernel_rfl) rfl rfl rfl rfl rfl) rfl ?_
            rintro _ w7 ⟨g16, rfl, B16, hg16, ex⟩
            replace HA := HA.ext ex
            replace HB := HB.ext ex
            replace HC := HC.ext ex
            replace H := H.ext ex
            replace E := E.ext ex
            replace B9 := B9.ext ex
            replace HS := HS.ext ex
            replace Bg15 := Bg15.ext ex
            skip
            refine wl_y (y_assign rfl) rfl ?_
            refine wl_nil ?_
            refine wq_then_norm (hK14 ?_)
            refine wc_seq ?_; intro K15 hK15
            refine wc_seq ?_; intro K16 hK16
            have S16 := bss_sec HS (B16.congr ecs.symm)
            refine wc_region ?_
            refine wl_y (y_assign rfl) rfl ?_
            refine wl_nil ?_
            refine wq_then_norm (hK16 ?_)
            refine wc_block ?_
            refine wc_loop (fun n' L wr => ∃ i : Nat, L = [(3, .string lab), (4, .slice C k f), (5, .int .u8 ((p : Nat) : Int)), (6, .int .u8 ((q : Nat) : Int)), (15, .pointer (some ⟨g15, 0, none⟩)), (16, .slice (some ⟨g16, 0, none⟩) 12 12), (17, .int .i64 (i : Int)), (9, .pointer (some ⟨g9, 0, none⟩))] ∧ n' = 12 - i ∧ (i ≤ 12 ∧ Ext w7 wr)) _ _ ⟨0, rfl, rfl, by omega, Ext.refl _⟩ ⟨rfl, rfl, (by first | rfl | exact congrArg some (int_val (by omega))), (by first | rfl | exact congrArg some (int_val (by omega))), rfl, rfl, (by first | rfl | exact congrArg some (int_val (by omega))), rfl, trivial⟩ ?_
            rintro KL1 n' L wr ⟨i, rfl, rfl, hi, X7⟩ hL1
            refine wc_seq ?_; intro K17 hK17
            refine wc_seq ?_; intro K18 hK18
            refine wc_region ?_
            refine wl_y (y_move rfl) rfl ?_
            refine wl_y (y_move rfl) rfl ?_
            refine wl_y (y_len_slice rfl Try.underlying22) rfl ?_
            refine wl_y (y_lss rfl rfl) rfl ?_
            refine wl_nil ?_
            refine wq_then_norm (hK18 ?_)
            refine wc_dec rfl (fun hc4 => ?_) (fun hc4 => ?_)
            · skip
              refine wc_skip ?_
              refine wq_then_norm (hK17 ?_)
              refine wc_seq ?_; intro K19 hK19
              refine wc_block ?_
              refine wc_seq ?_; intro K20 hK20
              obtain ⟨b1, o1, A1, m1, c1, x1, hA1, hx1, h1c, H1⟩ := Bss.get (S16.ext X7) (k := i) (by omega)
              injection hA1 with hA1
              injection hA1 with hb1 ho1 _
              subst hb1; subst ho1
              have zm : m1 = 32 := by rw [← H1.1, hx1.out]; exact hlen i (by omega)
              refine wc_region ?_
              refine wl_y (y_move rfl) rfl ?_
              refine wl_y (y_move rfl) rfl ?_
              refine wl_y (y_ixs1 rfl rfl Try.underlying22 (by kernel_rfl) rfl (by omega)) rfl ?_
              refine wl_y (y_load1 rfl Try.underlying24 rfl h1c) rfl ?_
              refine wl_y (y_len_slice rfl Try.underlying24) rfl ?_
              refine wl_y (y_neq rfl rfl) rfl ?_
              refine wl_nil ?_
              refine wq_then_norm (hK20 ?_)
              refine wc_no rfl (by omega) ?_
              refine wc_skip ?_
              refine wq_blk_norm ?_
              refine wq_then_norm (hK19 ?_)
              refine wc_region ?_
              refine wl_y (y_move rfl) rfl ?_
              refine wl_y (y_add rfl rfl (i64_ok (by omega) (by omega))) rfl ?_
              refine wl_y (y_assign rfl) rfl ?_
              refine wl_nil ?_
              refine wq_then_norm ?_
              refine hL1 _ _ ⟨i + 1, rfl, rfl, by omega, X7⟩ (by omega) ⟨rfl, rfl, (by first | rfl | exact congrArg some (int_val (by omega))), (by first | rfl | exact congrArg some (int_val (by omega))), rfl, rfl, (by first | rfl | exact congrArg some (int_val (by omega))), rfl, trivial⟩
            · skip
              refine wc_exit ?_
              refine wq_then_exit ?_
              refine wq_then_exit ?_
              refine wq_blk_hit ?_
              refine wq_then_norm (hK15 ?_)
              refine wc_seq ?_; intro K21 hK21
              replace HA := HA.ext X7; replace HB := HB.ext X7; replace HC := HC.ext X7; replace H := H.ext X7; replace E := E.ext X7; replace HS := HS.ext X7; replace Bg15 := Bg15.ext X7
              have hl5 := hlen 5 (by omega)
              have hpu := hu'.2; have hqu := hv'.2
              refine wc_region ?_
              refine wl_y (y_move rfl) rfl ?_
              refine wl_y (y_conv rfl Try.underlying5 Try.underlying3 (i64_ok (by omega) (by omega))) rfl ?_
              refine wl_y (y_move rfl) rfl ?_
              refine wl_y (y_conv rfl Try.underlying5 Try.underlying3 (i64_ok (by omega) (by omega))) rfl ?_
              refine wl_y (y_max rfl rfl) rfl ?_
              rw [show (if ((p : Nat) : Int) < ((q : Nat) : Int) then ((q : Nat) : Int) else ((p : Nat) : Int)) = ((max p q : Nat) : Int) by split <;> omega]
              refine wl_y (y_move rfl) rfl ?_
              refine wl_y (y_conv rfl Try.underlying5 Try.underlying3 (i64_ok (by omega) (by omega))) rfl ?_
              refine wl_y (y_move rfl) rfl ?_
              refine wl_y (y_conv rfl Try.underlying5 Try.underlying3 (i64_ok (by omega) (by omega))) rfl ?_
              refine wl_y (y_min rfl rfl) rfl ?_
              rw [show (if ((q : Nat) : Int) < ((p : Nat) : Int) then ((q : Nat) : Int) else ((p : Nat) : Int)) = ((min p q : Nat) : Int) by split <;> omega]
              refine wl_y (y_assign rfl) rfl ?_
              refine wl_y (y_assign rfl) rfl ?_
              refine wl_nil ?_
              refine wq_then_norm (hK21 ?_)
              refine wc_seq ?_; intro K22 hK22
              refine wc_region ?_
              refine wl_y (y_loadw rfl Try.underlying42 rfl (by rw [HS.size]; kernel_rfl) Bg15) rfl ?_
              refine wl_y (y_move rfl) rfl ?_
              refine wl_y (y_move rfl) rfl ?_
              refine wl_y (y_move rfl) rfl ?_
              refine wl_call Try.func38 rfl rfl rfl (sexport_any d3 l lab C k f (max p q) zs _ HS (by omega) (by omega) HC (by omega) (by omega)) rfl ?_
              rintro e w8 ⟨A8, c8, rfl, H8, ex⟩
              refine ⟨_, rfl, ?_⟩
              replace HC := HC.ext ex; replace HS := HS.ext ex; replace Bg15 := Bg15.ext ex; replace E := E.ext ex
              refine wl_y (y_move rfl) rfl ?_
              refine wl_y (y_extract rfl rfl) rfl ?_
              refine wl_y (y_extract rfl rfl) rfl ?_
              refine wl_y (y_assign rfl) rfl ?_
              refine wl_y (y_assign rfl) rfl ?_
              refine wl_nil ?_
              refine wq_then_norm (hK22 ?_)
              refine wc_seq ?_; intro K23 hK23
              refine wc_region ?_
              refine wl_y (y_loadw rfl Try.underlying42 rfl (by rw [HS.size]; kernel_rfl) Bg15) rfl ?_
              refine wl_y (y_move rfl) rfl ?_
              refine wl_y (y_move rfl) rfl ?_
              refine wl_y (y_move rfl) rfl ?_
              refine wl_call Try.func38 rfl rfl rfl (sexport_any d3 l lab C k f (min p q) zs _ HS (by omega) (by omega) HC (by omega) (by omega)) rfl ?_
              rintro e w9 ⟨A9, c9, rfl, H9, ex⟩
              refine ⟨_, rfl, ?_⟩
              replace HC := HC.ext ex
              replace HS := HS.ext ex
              replace Bg15 := Bg15.ext ex
              replace E := E.ext ex
              replace H8 := H8.ext ex
              skip
              refine wl_y (y_move rfl) rfl ?_
              refine wl_y (y_extract rfl rfl) rfl ?_
              refine wl_y (y_extract rfl rfl) rfl ?_
              refine wl_y (y_assign rfl) rfl ?_
              refine wl_y (y_assign rfl) rfl ?_
              refine wl_nil ?_
              refine wq_then_norm (hK23 ?_)
              refine wc_seq ?_; intro K24 hK24
              refine wc_seq ?_; intro K25 hK25
              refine wc_region ?_
              refine wl_y (y_move rfl) rfl ?_
              refine wl_y (y_move rfl) rfl ?_
              refine wl_y (y_eql rfl rfl) rfl ?_
              refine wl_nil ?_
              refine wq_then_norm (hK25 ?_)
              refine wc_dec rfl (fun hc6 => ?_) (fun hc6 => ?_)
              · skip
                refine wc_seq ?_; intro K26 hK26
                refine wc_region ?_
                refine wl_y (y_move rfl) rfl ?_
                refine wl_y (y_conv rfl Try.underlying58 Try.underlying3 (i64_ok (by omega) (by omega))) rfl ?_
                refine wl_y (y_move rfl) rfl ?_
                refine wl_y (y_conv rfl Try.underlying58 Try.underlying3 (i64_ok (by omega) (by omega))) rfl ?_
                refine wl_y (y_add rfl rfl (i64_ok (by omega) (by omega))) rfl ?_
                refine wl_y (Y.as (y_eql rfl rfl) (congrArg Value.bool (decide_eq_true rfl))) rfl ?_
                refine wl_y (y_move rfl) rfl ?_
                refine wl_gy 136 rfl rfl (y_move rfl) rfl ?_
                refine wl_gy 136 rfl rfl (y_len_slice rfl Try.underlying24) rfl ?_
                refine wl_gy 136 rfl rfl (y_move rfl) rfl ?_
                refine wl_gy 136 rfl rfl (Y.as (y_eql rfl rfl) (congrArg Value.bool (decide_eq_true rfl))) rfl ?_
                refine wl_y (y_pickt rfl rfl) rfl ?_
                refine wl_y (y_move rfl) rfl ?_
                refine wl_gy 142 rfl rfl (y_move rfl) rfl ?_
                refine wl_gy 142 rfl rfl (y_move rfl) rfl ?_
                refine wl_gcall 142 rfl rfl Try.func14 rfl rfl rfl (sameX_any _ _ _ _ _ _ _ _ _ H8 H9 (by omega) (by omega)) rfl ?_
                rintro e w10 ⟨rfl, ex⟩
                refine ⟨_, rfl, ?_⟩
                replace HC := HC.ext ex
                replace HS := HS.ext ex
                replace Bg15 := Bg15.ext ex
                replace E := E.ext ex
                replace H8 := H8.ext ex
                replace H9 := H9.ext ex
                rw [decide_eq_true (show secExport l lab zs (max p q) = secExport l lab zs (min p q) by rw [show min p q = max p q by omega])]
                refine wl_y (y_pickt rfl rfl) rfl ?_
                refine wl_y (y_assign rfl) rfl ?_
                refine wl_nil ?_
                refine wq_then_norm (hK26 ?_)
                refine wc_ret ?_
                refine wq_then_ret ?_
                refine hret rfl ?_
                exact ⟨rfl, E⟩
              · skip
                refine wc_skip ?_
                refine wq_then_norm (hK24 ?_)
                refine wc_seq ?_; intro K27 hK27
                obtain ⟨A5, n5, c5, q5, H5s⟩ := HS.get (i := 5) (by omega)
                have z5 : n5 = 32 := by rw [← H5s.1]; exact hl5
                refine wc_region ?_
                refine wl_y (y_fieldAddr (o := 5) (s := 1) (off := 0) (o' := 5) rfl Try.underlying42 rfl (by kernel_rfl) rfl rfl) rfl ?_
                refine wl_y (y_load1 rfl Try.underlying24 rfl (Bg15.get q5)) rfl ?_
                refine wl_y (y_move rfl) rfl ?_
                refine wl_call Try.func41 rfl rfl rfl (secret_any A5 n5 c5 lab _ _ H5s (by omega) (by omega)) rfl ?_
                rintro e w11 ⟨A11, c11, rfl, H11, ex⟩
                refine ⟨_, rfl, ?_⟩
                replace HC := HC.ext ex
                replace HS := HS.ext ex
                replace Bg15 := Bg15.ext ex
                replace E := E.ext ex
                replace H8 := H8.ext ex
                replace H9 := H9.ext ex
                skip
                refine wl_y (y_move rfl) rfl ?_
                refine wl_call Try.func29 rfl rfl rfl (sconf_any C none k f 0 0 zs [] _ HC (Bs.nil _ _) (by omega) (by omega)) rfl ?_
                rintro e w12 ⟨A12, c12, rfl, H12, ex⟩
                refine ⟨_, rfl, ?_⟩
                replace HC := HC.ext ex
                replace HS := HS.ext ex
                replace Bg15 := Bg15.ext ex
                replace E := E.ext ex
                replace H8 := H8.ext ex
                replace H9 := H9.ext ex
                replace H11 := H11.ext ex
                rw [List.append_nil] at H12
                refine wl_y (y_move rfl) rfl ?_
                refine wl_call Try.func40 rfl rfl rfl (label_any A11 A12 32 c11 32 c12 (max p q) sExported _ _ _ H11 (by omega) (by decide) H12 (by omega) (by omega)) rfl ?_
                rintro e w13 ⟨A13, c13, rfl, H13, hc13, ex⟩
                refine ⟨_, rfl, ?_⟩
                replace HC := HC.ext ex
                replace HS := HS.ext ex
                replace Bg15 := Bg15.ext ex
                replace E := E.ext ex
                replace H8 := H8.ext ex
                replace H9 := H9.ext ex
                replace H11 := H11.ext ex
                replace H13 : Bs w13 A13 (max p q) (secExport l lab zs (max p q)) := H13
                refine wl_y (y_move rfl) rfl ?_
                refine wl_y (y_extract rfl rfl) rfl ?_
                refine wl_y (y_extract rfl rfl) rfl ?_
                refine wl_y (y_assign rfl) rfl ?_
                refine wl_y (y_assign rfl) rfl ?_
                refine wl_nil ?_
                refine wq_then_norm (hK27 ?_)
                refine wc_seq ?_; intro K28 hK28
                refine wc_region ?_
                refine wl_y (y_move rfl) rfl ?_
                refine wl_y (y_conv rfl Try.underlying58 Try.underlying3 (i64_ok (by omega) (by omega))) rfl ?_
                refine wl_y (y_move rfl) rfl ?_
                refine wl_y (y_conv rfl Try.underlying58 Try.underlying3 (i64_ok (by omega) (by omega))) rfl ?_
                refine wl_y (y_add rfl rfl (i64_ok (by omega) (by omega))) rfl ?_
                refine wl_y (y_move rfl) rfl ?_
                refine wl_y (y_conv rfl Try.underlying58 Try.underlying3 (i64_ok (by omega) (by omega))) rfl ?_
                refine wl_y (y_add rfl rfl (i64_ok (by omega) (by omega))) rfl ?_
                refine wl_y (Y.as (y_eql rfl rfl) (congrArg Value.bool (decide_eq_true rfl))) rfl ?_
                refine wl_y (y_move rfl) rfl ?_
                refine wl_gy 167 rfl rfl (y_move rfl) rfl ?_
                refine wl_gy 167 rfl rfl (y_len_slice rfl Try.underlying24) rfl ?_
                refine wl_gy 167 rfl rfl (y_move rfl) rfl ?_
                refine wl_gy 167 rfl rfl (Y.as (y_eql rfl rfl) (congrArg Value.bool (decide_eq_true rfl))) rfl ?_
                refine wl_y (y_pickt rfl rfl) rfl ?_
                refine wl_y (y_move rfl) rfl ?_
                refine wl_gy 173 rfl rfl (y_move rfl) rfl ?_
                refine wl_gy 173 rfl rfl (y_len_slice rfl Try.underlying24) rfl ?_
                refine wl_gy 173 rfl rfl (y_move rfl) rfl ?_
                refine wl_gy 173 rfl rfl (Y.as (y_eql rfl rfl) (congrArg Value.bool (decide_eq_true rfl))) rfl ?_
                refine wl_y (y_pickt rfl rfl) rfl ?_
                refine wl_y (y_move rfl) rfl ?_
                refine wl_gy 179 rfl rfl (y_move rfl) rfl ?_
                refine wl_gy 179 rfl rfl (y_move rfl) rfl ?_
                refine wl_gcall 179 rfl rfl Try.func14 rfl rfl rfl (sameX_any _ _ _ _ _ _ _ _ _ H8 H13 (by omega) (by omega)) rfl ?_
                rintro e w14 ⟨rfl, ex⟩
                refine ⟨_, rfl, ?_⟩
                replace HC := HC.ext ex
                replace HS := HS.ext ex
                replace Bg15 := Bg15.ext ex
                replace E := E.ext ex
                replace H8 := H8.ext ex
                replace H9 := H9.ext ex
                replace H11 := H11.ext ex
                replace H13 := H13.ext ex
                rw [decide_eq_true rfl]
                refine wl_y (y_pickt rfl rfl) rfl ?_
                refine wl_y (y_assign rfl) rfl ?_
                refine wl_nil ?_
                refine wq_then_norm (hK28 ?_)
                refine wc_ret ?_
                refine hret rfl ?_
                exact ⟨rfl, E⟩
end Go.Proofs.Ytopbahbhldgbbaa
