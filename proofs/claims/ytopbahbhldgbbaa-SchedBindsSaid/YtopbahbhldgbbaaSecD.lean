/- The laws of layer 23: alive, SchedNext, SchedTags: they answer true whatever they are given. -/
import Derived.Test.YtopbahbhldgbbaaSecC
import Derived.Test.YtopbahbhldgbbaaDigest
namespace Go.Proofs.Ytopbahbhldgbbaa
open Go.RowKit
attribute [local irreducible] Y Ef WL WC WK WQ WM OpM WN WF OpN
theorem secOf_length (j : List UInt8) (c : Ctx) : (secOf j c).length = 12 := by unfold secOf; simp
theorem secMid_length (j : List UInt8) : (secMid j).length = 32 := Mac.tag_length _ _
theorem secJoiner_length (i s : List UInt8) (c : Ctx) : (secJoiner i s c).length = 32 := label_length _ _ _ _
theorem secOf_all {j : List UInt8} {c : Ctx} (h : j.length ≤ 1000000) : ∀ x ∈ secOf j c, x.length ≤ 1000000 := by
  intro x hx
  unfold secOf at hx
  simp only [List.cons_append, List.nil_append, List.mem_cons, List.mem_map] at hx
  rcases hx with rfl | rfl | rfl | ⟨i, _, rfl⟩
  · exact h
  · rw [label_length]; omega
  · unfold secEp; rw [label_length]; omega
  · unfold secSub; rw [label_length]; omega
def ctx0 : Ctx := ⟨[], 0, [], []⟩
theorem ctx0_at (w : World) : CtxAt w #[.slice none 0 0, .int .u64 0, .slice none 0 0, .slice none 0 0] ctx0 := ⟨none, none, none, 0, 0, 0, 0, 0, 0, rfl, Bs.nil _ _, Bs.nil _ _, Bs.nil _ _⟩
theorem ctx0_small : ctx0.Small := ⟨by decide, by decide, by decide, by decide⟩
theorem alive23_any (w : World) : Calls Try.prog 18 #[] w fun e w' => e = .returned (.bool true) ∧ Ext w w' := by
  have E := Ext.refl w
  refine vc_enter1 27 Try.func18 rfl rfl rfl rfl ?_
  intro Q hret
  refine wc_seq ?_; intro K1 hK1
  refine wc_region ?_
  refine wl_y (y_assign rfl) rfl ?_
  refine wl_nil ?_
  refine wq_then_norm (hK1 ?_)
  refine wc_seq ?_; intro K2 hK2
  refine wc_region ?_
  refine wl_ef (ef_make (n := 32) (z := .int .u8 0) (bytes := 1) rfl rfl Try.underlying24 (by kernel_rfl) rfl rfl rfl rfl (by omega) (by omega)) rfl ?_
  rintro _ w1 ⟨gz, rfl, BZ, hgz, ex⟩
  replace E := E.ext ex
  have HZ := zeros32_bs BZ
  refine wl_y (y_build rfl (cells := #[.slice none 0 0, .int .u64 0, .slice none 0 0, .slice none 0 0]) (by kernel_rfl)) rfl ?_
  refine wl_call Try.func20 rfl rfl rfl (sof_any _ 32 32 _ _ ctx0 _ HZ (by omega) (ctx0_at _) ctx0_small) rfl ?_
  rintro e w2 ⟨ds, rfl, HS, ex⟩
  refine ⟨_, rfl, ?_⟩
  replace E := E.ext ex
  replace HZ := HZ.ext ex
  skip
  have hS := secOf_length (List.replicate 32 0) ctx0
  have E_g1 := E
  have HZ_g1 := HZ
  have HS_g1 := HS
  refine wl_ef (ef_alloc (Z := secZ) (by kernel_rfl)) rfl ?_
  rintro _ wn1_3 ⟨g1, rfl, Bg1, hg1, ex⟩
  have Xg1 := ex
  replace E := E.ext ex
  replace HZ := HZ.ext ex
  replace HS := HS.ext ex
  refine wl_ef (ef_storeW rfl rfl (by rw [HS.size]; kernel_rfl) Bg1 (by rw [HS.size]; rfl) HS.one) rfl ?_
  rintro _ wn1_4 ⟨rfl, Bg1, cg⟩
  replace Xg1 := Xg1.chg cg hg1
  replace E := E_g1.ext Xg1
  replace HZ := HZ_g1.ext Xg1
  replace HS := HS_g1.ext Xg1
  refine wl_nil ?_
  refine wq_then_norm (hK2 ?_)
  refine wc_seq ?_; intro K3 hK3
  obtain ⟨A0, n0, c0, q0, H0⟩ := HS.get (i := 0) (by omega)
  obtain ⟨A1, n1, c1, q1, H1⟩ := HS.get (i := 1) (by omega)
  obtain ⟨A2, n2, c2, q2, H2⟩ := HS.get (i := 2) (by omega)
  obtain ⟨A3, n3, c3, q3, H3⟩ := HS.get (i := 11) (by omega)
  have z0 : n0 = 32 := by rw [← H0.1]; exact List.length_replicate
  have z1 : n1 = 32 := by rw [← H1.1]; exact label_length _ _ _ _
  have z2 : n2 = 32 := by rw [← H2.1]; exact label_length _ _ _ _
  have z3 : n3 = 32 := by rw [← H3.1]; exact label_length _ _ _ _
  refine wc_region ?_
  refine wl_y (y_fieldAddr (o := 0) (s := 1) (off := 0) (o' := 0) rfl Try.underlying42 rfl (by kernel_rfl) rfl rfl) rfl ?_
  refine wl_y (y_load1 rfl Try.underlying24 rfl (Bg1.get q0)) rfl ?_
  refine wl_y (y_len_slice rfl Try.underlying24) rfl ?_
  refine wl_y (Y.as (y_eql rfl rfl) (congrArg Value.bool (decide_eq_true (by omega)))) rfl ?_
  refine wl_y (y_move rfl) rfl ?_
  refine wl_gy 9 rfl rfl (y_fieldAddr (o := 1) (s := 1) (off := 0) (o' := 1) rfl Try.underlying42 rfl (by kernel_rfl) rfl rfl) rfl ?_
  refine wl_gy 9 rfl rfl (y_load1 rfl Try.underlying24 rfl (Bg1.get q1)) rfl ?_
  refine wl_gy 9 rfl rfl (y_len_slice rfl Try.underlying24) rfl ?_
  refine wl_gy 9 rfl rfl (Y.as (y_eql rfl rfl) (congrArg Value.bool (decide_eq_true (by omega)))) rfl ?_
  refine wl_y (y_pickt rfl rfl) rfl ?_
  refine wl_y (y_move rfl) rfl ?_
  refine wl_gy 15 rfl rfl (y_fieldAddr (o := 2) (s := 1) (off := 0) (o' := 2) rfl Try.underlying42 rfl (by kernel_rfl) rfl rfl) rfl ?_
  refine wl_gy 15 rfl rfl (y_load1 rfl Try.underlying24 rfl (Bg1.get q2)) rfl ?_
  refine wl_gy 15 rfl rfl (y_len_slice rfl Try.underlying24) rfl ?_
  refine wl_gy 15 rfl rfl (Y.as (y_eql rfl rfl) (congrArg Value.bool (decide_eq_true (by omega)))) rfl ?_
  refine wl_y (y_pickt rfl rfl) rfl ?_
  refine wl_y (y_move rfl) rfl ?_
  refine wl_gy 21 rfl rfl (y_fieldAddr (o := 11) (s := 1) (off := 0) (o' := 11) rfl Try.underlying42 rfl (by kernel_rfl) rfl rfl) rfl ?_
  refine wl_gy 21 rfl rfl (y_load1 rfl Try.underlying24 rfl (Bg1.get q3)) rfl ?_
  refine wl_gy 21 rfl rfl (y_len_slice rfl Try.underlying24) rfl ?_
  refine wl_gy 21 rfl rfl (Y.as (y_eql rfl rfl) (congrArg Value.bool (decide_eq_true (by omega)))) rfl ?_
  refine wl_y (y_pickt rfl rfl) rfl ?_
  refine wl_y (y_assign rfl) rfl ?_
  refine wl_nil ?_
  refine wq_then_norm (hK3 ?_)
  refine wc_ret ?_
  refine hret rfl ?_
  exact ⟨rfl, E⟩
theorem schedNext_law (A : Option Addr) (n c : Nat) (xs : List UInt8) (B : Option Addr) (m d : Nat) (ys : List UInt8) (cs : Array Value) (x : Ctx) (w : World) (HA : Bs w A n xs) (hn : n ≤ maxLen) (HB : Bs w B m ys) (hm : m ≤ maxLen) (H : CtxAt w cs x) (he : x.ep < 18446744073709551616) :
    Calls Try.prog 6 #[.slice A n c, .slice B m d, .agg cs] w fun e w' => e = .returned (.bool true) ∧ Below w.heap.size w w' := by
  have hz := H.size
  have hx := HA.1; have hy := HB.1
  unfold maxLen at hn hm
  have E := Ext.refl w
  refine vc_enter1 52 Try.func6 rfl rfl rfl rfl ?_
  intro Q hret
  refine wc_seq ?_; intro K1 hK1
  refine wc_region ?_
  refine wl_ef (ef_box (cs := cs) rfl rfl) rfl ?_
  rintro _ w0 ⟨g1, rfl, B1, hg1, ex⟩
  replace HA := HA.ext ex
  replace HB := HB.ext ex
  replace H := H.ext ex
  replace E := E.ext ex
  skip
  refine wl_y (y_assign rfl) rfl ?_
  refine wl_nil ?_
  refine wq_then_norm (hK1 ?_)
  refine wc_seq ?_; intro K2 hK2
  refine wc_seq ?_; intro K3 hK3
  refine wc_region ?_
  refine wl_call Try.func18 rfl rfl rfl (alive23_any _) rfl ?_
  rintro e w1 ⟨rfl, ex⟩
  refine ⟨_, rfl, ?_⟩
  replace HA := HA.ext ex
  replace HB := HB.ext ex
  replace H := H.ext ex
  replace E := E.ext ex
  replace B1 := B1.ext ex
  refine wl_y (y_not rfl) rfl ?_
  refine wl_nil ?_
  refine wq_then_norm (hK3 ?_)
  refine wc_false rfl rfl ?_
  refine wc_skip ?_
  refine wq_then_norm (hK2 ?_)
  refine wc_seq ?_; intro K4 hK4
  refine wc_seq ?_; intro K5 hK5
  refine wc_region ?_
  refine wl_y (y_move rfl) rfl ?_
  refine wl_y (y_len_slice rfl Try.underlying24) rfl ?_
  refine wl_yask (y_gtr rfl rfl) rfl (fun h1 => ?_) (fun h1 => ?_)
  · skip
    refine wl_y (y_move rfl) rfl ?_
    refine wl_gno 13 rfl rfl rfl rfl ?_
    refine wl_gno 13 rfl rfl rfl rfl ?_
    refine wl_gno 13 rfl rfl rfl rfl ?_
    refine wl_y (y_pickt rfl rfl) rfl ?_
    refine wl_y (y_move rfl) rfl ?_
    refine wl_gno 18 rfl rfl rfl rfl ?_
    refine wl_gno 18 rfl rfl rfl rfl ?_
    refine wl_gno 18 rfl rfl rfl rfl ?_
    refine wl_y (y_pickt rfl rfl) rfl ?_
    refine wl_nil ?_
    refine wq_then_norm (hK5 ?_)
    refine wc_true rfl rfl ?_
    refine wc_seq ?_; intro K6 hK6
    refine wc_region ?_
    refine wl_y (y_assign rfl) rfl ?_
    refine wl_nil ?_
    refine wq_then_norm (hK6 ?_)
    refine wc_ret ?_
    refine wq_then_ret ?_
    refine hret rfl ?_
    exact ⟨rfl, E⟩
  · skip
    refine wl_y (y_move rfl) rfl ?_
    refine wl_gy 13 rfl rfl (y_move rfl) rfl ?_
    refine wl_gy 13 rfl rfl (y_len_slice rfl Try.underlying24) rfl ?_
    refine wl_gyask 13 rfl rfl (y_gtr rfl rfl) rfl (fun h2 => ?_) (fun h2 => ?_)
    · skip
      refine wl_y (y_pickf rfl rfl) rfl ?_
      refine wl_y (y_move rfl) rfl ?_
      refine wl_gno 18 rfl rfl rfl rfl ?_
      refine wl_gno 18 rfl rfl rfl rfl ?_
      refine wl_gno 18 rfl rfl rfl rfl ?_
      refine wl_y (y_pickt rfl rfl) rfl ?_
      refine wl_nil ?_
      refine wq_then_norm (hK5 ?_)
      refine wc_true rfl rfl ?_
      refine wc_seq ?_; intro K7 hK7
      refine wc_region ?_
      refine wl_y (y_assign rfl) rfl ?_
      refine wl_nil ?_
      refine wq_then_norm (hK7 ?_)
      refine wc_ret ?_
      refine wq_then_ret ?_
      refine hret rfl ?_
      exact ⟨rfl, E⟩
    · skip
      refine wl_y (y_pickf rfl rfl) rfl ?_
      refine wl_y (y_move rfl) rfl ?_
      refine wl_gy 18 rfl rfl (y_loadw rfl Try.underlying39 rfl (by rw [hz]; kernel_rfl) B1) rfl ?_
      refine wl_gcall 18 rfl rfl Try.func19 rfl rfl rfl (smallCtx_any cs x _ H he) rfl ?_
      rintro e w2 ⟨p, hp, rfl, hps, ex⟩
      refine ⟨_, rfl, ?_⟩
      replace HA := HA.ext ex
      replace HB := HB.ext ex
      replace H := H.ext ex
      replace E := E.ext ex
      replace B1 := B1.ext ex
      skip
      refine wl_gyaskb 18 rfl rfl (y_not rfl) rfl (fun hns => ?_) (fun hns => ?_)
      · skip
        refine wl_y (y_pickf rfl rfl) rfl ?_
        refine wl_nil ?_
        refine wq_then_norm (hK5 ?_)
        refine wc_true rfl rfl ?_
        refine wc_seq ?_; intro K8 hK8
        refine wc_region ?_
        refine wl_y (y_assign rfl) rfl ?_
        refine wl_nil ?_
        refine wq_then_norm (hK8 ?_)
        refine wc_ret ?_
        refine wq_then_ret ?_
        refine hret rfl ?_
        exact ⟨rfl, E⟩
      · skip
        refine wl_y (y_pickf rfl rfl) rfl ?_
        refine wl_nil ?_
        refine wq_then_norm (hK5 ?_)
        refine wc_false rfl rfl ?_
        refine wc_skip ?_
        refine wq_then_norm (hK4 ?_)
        refine wc_seq ?_; intro K9 hK9
        have hsm : x.Small := hps.1 (by simpa using hns)
        refine wc_region ?_
        refine wl_y (y_move rfl) rfl ?_
        refine wl_y (y_move rfl) rfl ?_
        refine wl_y (y_loadw rfl Try.underlying39 rfl (by rw [hz]; kernel_rfl) B1) rfl ?_
        refine wl_call Try.func25 rfl rfl rfl (rjoiner_any A B n c m d xs ys cs x _ HA (by omega) HB (by omega) H hsm) rfl ?_
        rintro e w3 ⟨A3, c3, rfl, H3, ex⟩
        refine ⟨_, rfl, ?_⟩
        replace HA := HA.ext ex
        replace HB := HB.ext ex
        replace H := H.ext ex
        replace E := E.ext ex
        replace B1 := B1.ext ex
        skip
        refine wl_y (y_assign rfl) rfl ?_
        refine wl_nil ?_
        refine wq_then_norm (hK9 ?_)
        refine wc_seq ?_; intro K10 hK10
        refine wc_draw (by kernel_rfl) 26 rfl ?_; intro wd6 ex hd6
        replace HA := HA.ext ex
        replace HB := HB.ext ex
        replace H := H.ext ex
        replace E := E.ext ex
        replace B1 := B1.ext ex
        replace H3 := H3.ext ex
        refine wm_y 0 rfl (by kernel_rfl) (y_move rfl) rfl ?_
        refine wm_y 1 rfl (by kernel_rfl) (y_move rfl) rfl ?_
        refine wm_y 2 rfl (by kernel_rfl) (y_loadw rfl Try.underlying39 rfl (by rw [hz]; kernel_rfl) B1) rfl ?_
        refine wm_y 4 rfl (by kernel_rfl) (y_move rfl) rfl ?_
        refine wm_one 3 (by kernel_rfl) ?_; refine om_call rfl Try.func26 rfl rfl rfl (sjoiner_any A B n c m d xs ys cs x _ HA (by omega) HB (by omega) H hsm) rfl ?_
        rintro e w4 ⟨A4, c4, rfl, H4, ex⟩
        refine ⟨_, rfl, .inr ex, ?_⟩
        replace HA := HA.ext ex
        replace HB := HB.ext ex
        replace H := H.ext ex
        replace E := E.ext ex
        replace B1 := B1.ext ex
        replace H3 := H3.ext ex
        skip
        refine wm_one 5 (by kernel_rfl) ?_; refine om_call rfl Try.func14 rfl rfl rfl (sameX_any _ _ 32 32 _ _ _ _ _ H4 H3 (by omega) (by omega)) rfl ?_
        rintro e w5 ⟨rfl, ex⟩
        refine ⟨_, rfl, .inr ex, ?_⟩
        replace HA := HA.ext ex
        replace HB := HB.ext ex
        replace H := H.ext ex
        replace E := E.ext ex
        replace B1 := B1.ext ex
        replace H3 := H3.ext ex
        rw [decide_eq_true rfl]
        refine wm_y 6 rfl (by kernel_rfl) (y_move rfl) rfl ?_
        refine wm_gy 7 rfl (by kernel_rfl) 33 rfl rfl (y_move rfl) rfl ?_
        refine wm_gy 8 rfl (by kernel_rfl) 33 rfl rfl (y_move rfl) rfl ?_
        refine wm_gy 9 rfl (by kernel_rfl) 33 rfl rfl (y_loadw rfl Try.underlying39 rfl (by rw [hz]; kernel_rfl) B1) rfl ?_
        refine wm_gy 11 rfl (by kernel_rfl) 33 rfl rfl (y_move rfl) rfl ?_
        refine wm_gy 12 rfl (by kernel_rfl) 33 rfl rfl (y_loadw rfl Try.underlying39 rfl (by rw [hz]; kernel_rfl) B1) rfl ?_
        refine wm_one 10 (by kernel_rfl) ?_; refine om_gcall rfl 33 rfl rfl Try.func27 rfl rfl rfl (snext_any A B n c m d xs ys cs x _ HA (by omega) HB (by omega) H hsm) rfl ?_
        rintro e w6 ⟨d6, rfl, H6, ex⟩
        refine ⟨_, rfl, .inr ex, ?_⟩
        replace HA := HA.ext ex
        replace HB := HB.ext ex
        replace H := H.ext ex
        replace E := E.ext ex
        replace B1 := B1.ext ex
        replace H3 := H3.ext ex
        skip
        refine wm_one 13 (by kernel_rfl) ?_; refine om_gcall rfl 33 rfl rfl Try.func28 rfl rfl rfl (rsof_any A3 32 c3 _ cs x _ H3 (by omega) H hsm) rfl ?_
        rintro e w7 ⟨d7, rfl, H7, ex⟩
        refine ⟨_, rfl, .inr ex, ?_⟩
        replace HA := HA.ext ex
        replace HB := HB.ext ex
        replace H := H.ext ex
        replace E := E.ext ex
        replace B1 := B1.ext ex
        replace H3 := H3.ext ex
        replace H6 := H6.ext ex
        skip
        refine wm_one 14 (by kernel_rfl) ?_; refine om_gcall rfl 33 rfl rfl Try.func22 rfl rfl rfl (rsSame_any d6 d7 _ _ _ H6 H7 (secOf_all (by rw [secJoiner_length]; omega)) (secOf_all (by rw [secJoiner_length]; omega))) rfl ?_
        rintro e w8 ⟨rfl, ex⟩
        refine ⟨_, rfl, .inr ex, ?_⟩
        replace HA := HA.ext ex
        replace HB := HB.ext ex
        replace H := H.ext ex
        replace E := E.ext ex
        replace B1 := B1.ext ex
        replace H3 := H3.ext ex
        replace H6 := H6.ext ex
        rw [decide_eq_true rfl]
        refine wm_y 15 rfl (by kernel_rfl) (y_pickt rfl rfl) rfl ?_
        refine wm_y 16 rfl (by kernel_rfl) (y_move rfl) rfl ?_
        refine wm_gy 17 rfl (by kernel_rfl) 43 rfl rfl (y_move rfl) rfl ?_
        refine wm_gy 18 rfl (by kernel_rfl) 43 rfl rfl (y_loadw rfl Try.underlying39 rfl (by rw [hz]; kernel_rfl) B1) rfl ?_
        refine wm_gy 20 rfl (by kernel_rfl) 43 rfl rfl (y_move rfl) rfl ?_
        refine wm_gy 21 rfl (by kernel_rfl) 43 rfl rfl (y_loadw rfl Try.underlying39 rfl (by rw [hz]; kernel_rfl) B1) rfl ?_
        refine wm_one 19 (by kernel_rfl) ?_; refine om_gcall rfl 43 rfl rfl Try.func20 rfl rfl rfl (sof_any B m d ys cs x _ HB (by omega) H hsm) rfl ?_
        rintro e w9 ⟨d9, rfl, H9, ex⟩
        refine ⟨_, rfl, .inr ex, ?_⟩
        replace HA := HA.ext ex
        replace HB := HB.ext ex
        replace H := H.ext ex
        replace E := E.ext ex
        replace B1 := B1.ext ex
        replace H3 := H3.ext ex
        skip
        refine wm_one 22 (by kernel_rfl) ?_; refine om_gcall rfl 43 rfl rfl Try.func28 rfl rfl rfl (rsof_any B m d ys cs x _ HB (by omega) H hsm) rfl ?_
        rintro e w10 ⟨d10, rfl, H10, ex⟩
        refine ⟨_, rfl, .inr ex, ?_⟩
        replace HA := HA.ext ex
        replace HB := HB.ext ex
        replace H := H.ext ex
        replace E := E.ext ex
        replace B1 := B1.ext ex
        replace H3 := H3.ext ex
        replace H9 := H9.ext ex
        skip
        refine wm_one 23 (by kernel_rfl) ?_; refine om_gcall rfl 43 rfl rfl Try.func22 rfl rfl rfl (rsSame_any d9 d10 _ _ _ H9 H10 (secOf_all (by omega)) (secOf_all (by omega))) rfl ?_
        rintro e w11 ⟨rfl, ex⟩
        refine ⟨_, rfl, .inr ex, ?_⟩
        replace HA := HA.ext ex
        replace HB := HB.ext ex
        replace H := H.ext ex
        replace E := E.ext ex
        replace B1 := B1.ext ex
        replace H3 := H3.ext ex
        replace H9 := H9.ext ex
        rw [decide_eq_true rfl]
        refine wm_y 24 rfl (by kernel_rfl) (y_pickt rfl rfl) rfl ?_
        refine wm_y 25 rfl (by kernel_rfl) (y_assign rfl) rfl ?_
        refine wm_done (by kernel_rfl) ?_
        refine wq_nop ?_
        refine wq_then_norm (hK10 ?_)
        refine wc_ret ?_
        refine hret rfl ?_
        exact ⟨rfl, E⟩
end Go.Proofs.Ytopbahbhldgbbaa
