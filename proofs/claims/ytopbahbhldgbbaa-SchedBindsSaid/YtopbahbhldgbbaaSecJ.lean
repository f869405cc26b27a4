/- The law SchedBinds: it answers true whatever it is given. -/
import Derived.Test.YtopbahbhldgbbaaSecI
import Derived.Test.YtopbahbhldgbbaaSecD
namespace Go.Proofs.Ytopbahbhldgbbaa
open Go.RowKit
attribute [local irreducible] Y Ef WL WC WK WQ WM OpM WN WF OpN
theorem hashedL_len {k t : List UInt8} {c : Nat} (h : t.length ≤ c) (hc : 32 ≤ c) : ∀ x ∈ hashedL k t, x.length ≤ c + 64 := by
  intro x hx
  unfold hashedL at hx
  simp only [List.mem_cons, List.not_mem_nil, or_false] at hx
  rcases hx with rfl | rfl
  · rw [List.length_append, Mac.held_length]; omega
  · rw [List.length_append, Mac.held_length, Sha.sum_length]; omega
theorem info1_len {lab : ByteArray} {ctx : List UInt8} (h : lab.size ≤ 1000) (hc : ctx.length ≤ 1000) : (info1 lab.data.toList ctx).length ≤ 100000 := by
  have h1 := Wire.lsz_le (Kdf.mls ++ lab.data.toList).length
  have h2 := Wire.lsz_le ctx.length
  have h3 : Kdf.mls.length = 8 := rfl
  have h4 : lab.data.toList.length = lab.size := by simp
  unfold info1 Kdf.info
  simp only [List.length_append, Wire.be_length, Wire.vec_length, List.length_cons, List.length_nil]
  simp only [List.length_append] at h1
  omega
theorem trailL_len {j : List UInt8} {c : Ctx} (h : c.Small) : ∀ x ∈ trailL j c, x.length ≤ 10000000 := by
  have hc := ctxBytes_length h
  intro x hx
  unfold trailL at hx
  simp only [List.mem_append] at hx
  rcases hx with ((hx | hx) | hx) | hx
  · have := hashedL_len (c := 100000) (by rw [List.length_replicate]; omega) (by omega) x hx; omega
  · have := hashedL_len (c := 100000) (info1_len (by decide) (by omega)) (by omega) x hx; omega
  · have := hashedL_len (c := 100000) (info1_len (by decide) (by decide)) (by omega) x hx; omega
  · have := hashedL_len (c := 100000) (info1_len (by decide) (by decide)) (by omega) x hx; omega
theorem secOf_l32 {j : List UInt8} {c : Ctx} (h : j.length = 32) (i : Nat) (hi : i < 12) : ((secOf j c).getD i []).length = 32 := by
  have hall : ∀ x ∈ secOf j c, x.length = 32 := by
    intro x hx
    unfold secOf at hx
    simp only [List.cons_append, List.nil_append, List.mem_cons, List.mem_map] at hx
    rcases hx with rfl | rfl | rfl | ⟨i, _, rfl⟩
    · exact h
    · rw [label_length]
    · unfold secEp; rw [label_length]
    · unfold secSub; rw [label_length]
  have hl := secOf_length j c
  rw [List.getD_eq_getElem?_getD, List.getElem?_eq_getElem (by omega)]
  exact hall _ (List.getElem_mem _)
theorem secOf_8 (j : List UInt8) (c : Ctx) : (secOf j c).getD 8 [] = secSub (secEp j c) 5 := rfl
theorem secOf_11 (j : List UInt8) (c : Ctx) : (secOf j c).getD 11 [] = secSub (secEp j c) 8 := rfl
theorem schedBinds_law (A : Option Addr) (n c : Nat) (xs : List UInt8) (B : Option Addr) (m d : Nat) (ys : List UInt8) (cs : Array Value) (x : Ctx) (ds : Array Value) (y : Ctx) (w : World) (HA : Bs w A n xs) (hn : n ≤ maxLen) (HB : Bs w B m ys) (hm : m ≤ maxLen) (H : CtxAt w cs x) (he : x.ep < 18446744073709551616) (J : CtxAt w ds y) (hf : y.ep < 18446744073709551616) :
    Calls Try.prog 5 #[.slice A n c, .slice B m d, .agg cs, .agg ds] w fun e w' => e = .returned (.bool true) ∧ Below w.heap.size w w' := by
  have hz := H.size; have jz := J.size
  have hx := HA.1; have hy := HB.1
  unfold maxLen at hn hm
  have E := Ext.refl w
  refine vc_enter1 89 Try.func5 rfl rfl rfl rfl ?_
  intro Q hret
  refine wc_seq ?_; intro K1 hK1
  refine wc_region ?_
  refine wl_ef (ef_box (cs := cs) rfl rfl) rfl ?_
  rintro _ w0 ⟨g6, rfl, B6, hg6, ex⟩
  replace HA := HA.ext ex
  replace HB := HB.ext ex
  replace H := H.ext ex
  replace J := J.ext ex
  replace E := E.ext ex
  skip
  refine wl_ef (ef_box (cs := ds) rfl rfl) rfl ?_
  rintro _ v0 ⟨g7, rfl, B7, hg7, ex⟩
  replace HA := HA.ext ex
  replace HB := HB.ext ex
  replace H := H.ext ex
  replace J := J.ext ex
  replace E := E.ext ex
  replace B6 := B6.ext ex
  skip
  refine wl_y (y_assign rfl) rfl ?_
  refine wl_nil ?_
  refine wq_then_norm (hK1 ?_)
  refine wc_seq ?_; intro K2 hK2
  refine wc_seq ?_; intro K3 hK3
  refine wc_region ?_
  refine wl_call Try.func18 rfl rfl rfl (alive23_any _) rfl ?_
  rintro e w1 ⟨rfl, ex⟩
  refine ⟨_, rfl, ?_⟩
  replace HA := HA.ext ex
  replace HB := HB.ext ex
  replace H := H.ext ex
  replace J := J.ext ex
  replace E := E.ext ex
  replace B6 := B6.ext ex
  replace B7 := B7.ext ex
  refine wl_y (y_not rfl) rfl ?_
  refine wl_nil ?_
  refine wq_then_norm (hK3 ?_)
  refine wc_false rfl rfl ?_
  refine wc_skip ?_
  refine wq_then_norm (hK2 ?_)
  refine wc_seq ?_; intro K4 hK4
  refine wc_seq ?_; intro K5 hK5
  refine wc_region ?_
  refine wl_y (y_move rfl) rfl ?_
  refine wl_y (y_len_slice rfl Try.underlying24) rfl ?_
  refine wl_yask (y_neq rfl rfl) rfl (fun h1 => ?_) (fun h1 => ?_)
  · skip
    refine wl_y (y_move rfl) rfl ?_
    refine wl_gno 19 rfl rfl rfl rfl ?_
    refine wl_gno 19 rfl rfl rfl rfl ?_
    refine wl_gno 19 rfl rfl rfl rfl ?_
    refine wl_y (y_pickt rfl rfl) rfl ?_
    refine wl_y (y_move rfl) rfl ?_
    refine wl_gno 24 rfl rfl rfl rfl ?_
    refine wl_gno 24 rfl rfl rfl rfl ?_
    refine wl_gno 24 rfl rfl rfl rfl ?_
    refine wl_y (y_pickt rfl rfl) rfl ?_
    refine wl_y (y_move rfl) rfl ?_
    refine wl_gno 29 rfl rfl rfl rfl ?_
    refine wl_gno 29 rfl rfl rfl rfl ?_
    refine wl_gno 29 rfl rfl rfl rfl ?_
    refine wl_y (y_pickt rfl rfl) rfl ?_
    refine wl_nil ?_
    refine wq_then_norm (hK5 ?_)
    refine wc_true rfl rfl ?_
    refine wc_seq ?_; intro K6 hK6
    refine wc_region ?_
    refine wl_y (y_assign rfl) rfl ?_
    refine wl_nil ?_
    refine wq_then_norm (hK6 ?_)
    refine wc_ret ?_
    refine wq_then_ret ?_
    refine hret rfl ?_
    exact ⟨rfl, E⟩
  · skip
    refine wl_y (y_move rfl) rfl ?_
    refine wl_gy 19 rfl rfl (y_move rfl) rfl ?_
    refine wl_gy 19 rfl rfl (y_len_slice rfl Try.underlying24) rfl ?_
    refine wl_gyask 19 rfl rfl (y_neq rfl rfl) rfl (fun h2 => ?_) (fun h2 => ?_)
    · skip
      refine wl_y (y_pickf rfl rfl) rfl ?_
      refine wl_y (y_move rfl) rfl ?_
      refine wl_gno 24 rfl rfl rfl rfl ?_
      refine wl_gno 24 rfl rfl rfl rfl ?_
      refine wl_gno 24 rfl rfl rfl rfl ?_
      refine wl_y (y_pickt rfl rfl) rfl ?_
      refine wl_y (y_move rfl) rfl ?_
      refine wl_gno 29 rfl rfl rfl rfl ?_
      refine wl_gno 29 rfl rfl rfl rfl ?_
      refine wl_gno 29 rfl rfl rfl rfl ?_
      refine wl_y (y_pickt rfl rfl) rfl ?_
      refine wl_nil ?_
      refine wq_then_norm (hK5 ?_)
      refine wc_true rfl rfl ?_
      refine wc_seq ?_; intro K7 hK7
      refine wc_region ?_
      refine wl_y (y_assign rfl) rfl ?_
      refine wl_nil ?_
      refine wq_then_norm (hK7 ?_)
      refine wc_ret ?_
      refine wq_then_ret ?_
      refine hret rfl ?_
      exact ⟨rfl, E⟩
    · skip
      refine wl_y (y_pickf rfl rfl) rfl ?_
      refine wl_y (y_move rfl) rfl ?_
      refine wl_gy 24 rfl rfl (y_loadw rfl Try.underlying39 rfl (by rw [hz]; kernel_rfl) B6) rfl ?_
      refine wl_gcall 24 rfl rfl Try.func19 rfl rfl rfl (smallCtx_any cs x _ H he) rfl ?_
      rintro e w2 ⟨p, hp, rfl, hps, ex⟩
      refine ⟨_, rfl, ?_⟩
      replace HA := HA.ext ex
      replace HB := HB.ext ex
      replace H := H.ext ex
      replace J := J.ext ex
      replace E := E.ext ex
      replace B6 := B6.ext ex
      replace B7 := B7.ext ex
      skip
      refine wl_gyaskb 24 rfl rfl (y_not rfl) rfl (fun hns => ?_) (fun hns => ?_)
      · skip
        refine wl_y (y_pickf rfl rfl) rfl ?_
        refine wl_y (y_move rfl) rfl ?_
        refine wl_gno 29 rfl rfl rfl rfl ?_
        refine wl_gno 29 rfl rfl rfl rfl ?_
        refine wl_gno 29 rfl rfl rfl rfl ?_
        refine wl_y (y_pickt rfl rfl) rfl ?_
        refine wl_nil ?_
        refine wq_then_norm (hK5 ?_)
        refine wc_true rfl rfl ?_
        refine wc_seq ?_; intro K8 hK8
        refine wc_region ?_
        refine wl_y (y_assign rfl) rfl ?_
        refine wl_nil ?_
        refine wq_then_norm (hK8 ?_)
        refine wc_ret ?_
        refine wq_then_ret ?_
        refine hret rfl ?_
        exact ⟨rfl, E⟩
      · skip
        refine wl_y (y_pickf rfl rfl) rfl ?_
        refine wl_y (y_move rfl) rfl ?_
        refine wl_gy 29 rfl rfl (y_loadw rfl Try.underlying39 rfl (by rw [jz]; kernel_rfl) B7) rfl ?_
        refine wl_gcall 29 rfl rfl Try.func19 rfl rfl rfl (smallCtx_any ds y _ J hf) rfl ?_
        rintro e v2 ⟨q, hq, rfl, hqs, ex⟩
        refine ⟨_, rfl, ?_⟩
        replace HA := HA.ext ex
        replace HB := HB.ext ex
        replace H := H.ext ex
        replace J := J.ext ex
        replace E := E.ext ex
        replace B6 := B6.ext ex
        replace B7 := B7.ext ex
        skip
        refine wl_gy 29 rfl rfl (y_not rfl) rfl ?_
        refine wl_y (y_pickf rfl rfl) rfl ?_
        refine wl_nil ?_
        refine wq_then_norm (hK5 ?_)
        refine wc_cond rfl (fun hc2 => ?_) (fun hc2 => ?_)
        · skip
          refine wc_seq ?_; intro K9 hK9
          refine wc_region ?_
          refine wl_y (y_assign rfl) rfl ?_
          refine wl_nil ?_
          refine wq_then_norm (hK9 ?_)
          refine wc_ret ?_
          refine wq_then_ret ?_
          refine hret rfl ?_
          exact ⟨rfl, E⟩
        · skip
          have hsm : x.Small := hps.1 (by simpa using hns)
          have jsm : y.Small := hqs.1 (by simpa using hc2)
          refine wc_skip ?_
          refine wq_then_norm (hK4 ?_)
          refine wc_seq ?_; intro K10 hK10
          refine wc_join (fun L wj => ∃ (g9 g10 : Nat) (d3 d4 : Array Value), L = [(0, .slice A n c), (1, .slice B m d), (6, .pointer (some ⟨g6, 0, none⟩)), (7, .pointer (some ⟨g7, 0, none⟩)), (9, .pointer (some ⟨g9, 0, none⟩)), (10, .pointer (some ⟨g10, 0, none⟩))] ∧ (Bs wj A n xs ∧ Bs wj B m ys ∧ CtxAt wj cs x ∧ CtxAt wj ds y ∧ Ext w wj ∧ Blk wj g6 39 cs ∧ Blk wj g7 39 ds ∧ SecAt wj d3 (secOf xs x) ∧ SecAt wj d4 (secOf ys y) ∧ Blk wj g9 42 d3 ∧ Blk wj g10 42 d4)) ?_ ?_
          · skip
            refine wc_draw (by kernel_rfl) 10 rfl ?_; intro wd5 ex hd5
            replace HA := HA.ext ex
            replace HB := HB.ext ex
            replace H := H.ext ex
            replace J := J.ext ex
            replace E := E.ext ex
            replace B6 := B6.ext ex
            replace B7 := B7.ext ex
            refine wm_z 0 rfl (by kernel_rfl) (fun _ => y_move rfl) rfl ?_
            refine wm_y 1 rfl (by kernel_rfl) (y_loadw rfl Try.underlying39 rfl (by rw [hz]; kernel_rfl) B6) rfl ?_
            refine wm_z 3 rfl (by kernel_rfl) (fun _ => y_move rfl) rfl ?_
            refine wm_y 4 rfl (by kernel_rfl) (y_loadw rfl Try.underlying39 rfl (by rw [jz]; kernel_rfl) B7) rfl ?_
            refine wm_three 2 6 7 (by kernel_rfl) ?_ ?_ ?_
            · skip
              refine om_call rfl Try.func20 rfl rfl rfl (sof_any A n c xs cs x _ HA (by omega) H hsm) rfl ?_
              rintro e w3 ⟨d3, rfl, H3, ex⟩
              refine ⟨_, rfl, .inr ex, ?_⟩
              replace HA := HA.ext ex
              replace HB := HB.ext ex
              replace H := H.ext ex
              replace J := J.ext ex
              replace E := E.ext ex
              replace B6 := B6.ext ex
              replace B7 := B7.ext ex
              skip
              refine wm_three 5 6 7 (by kernel_rfl) ?_ ?_ ?_
              · skip
                refine om_call rfl Try.func20 rfl rfl rfl (sof_any B m d ys ds y _ HB (by omega) J jsm) rfl ?_
                rintro e w4 ⟨d4, rfl, H4, ex⟩
                refine ⟨_, rfl, .inr ex, ?_⟩
                replace HA := HA.ext ex
                replace HB := HB.ext ex
                replace H := H.ext ex
                replace J := J.ext ex
                replace E := E.ext ex
                replace B6 := B6.ext ex
                replace B7 := B7.ext ex
                replace H3 := H3.ext ex
                skip
                refine wm_two 6 7 (by kernel_rfl) ?_ ?_
                · skip
                  have HA_g9 := HA
                  have HB_g9 := HB
                  have H_g9 := H
                  have J_g9 := J
                  have E_g9 := E
                  have B6_g9 := B6
                  have B7_g9 := B7
                  have H3_g9 := H3
                  have H4_g9 := H4
                  refine om_ef rfl (ef_alloc (Z := secZ) (by kernel_rfl)) rfl ?_
                  rintro _ wn5_6 ⟨g9, rfl, Bg9, hg9, ex⟩
                  have Xg9 := ex
                  refine ⟨.inr ex, ?_⟩
                  replace HA := HA.ext ex
                  replace HB := HB.ext ex
                  replace H := H.ext ex
                  replace J := J.ext ex
                  replace E := E.ext ex
                  replace B6 := B6.ext ex
                  replace B7 := B7.ext ex
                  replace H3 := H3.ext ex
                  replace H4 := H4.ext ex
                  refine wm_one 7 (by kernel_rfl) ?_; refine om_ef rfl (ef_alloc (Z := secZ) (by kernel_rfl)) rfl ?_
                  rintro _ wn5_7 ⟨g10, rfl, Bg10, hg10, ex⟩
                  have lg9_g10 : g9 < g10 := Nat.lt_of_lt_of_le Bg9.lt hg10
                  replace hg10 := Nat.le_trans Xg9.size hg10
                  refine ⟨.inr ex, ?_⟩
                  replace HA := HA.ext ex
                  replace HB := HB.ext ex
                  replace H := H.ext ex
                  replace J := J.ext ex
                  replace E := E.ext ex
                  replace B6 := B6.ext ex
                  replace B7 := B7.ext ex
                  replace H3 := H3.ext ex
                  replace H4 := H4.ext ex
                  replace Bg9 := Bg9.ext ex
                  replace Xg9 := Xg9.ext ex
                  have Bo9 := Bg9
                  refine wm_one 8 (by kernel_rfl) ?_; refine om_ef rfl (ef_storeW rfl rfl (by rw [H3.size]; kernel_rfl) Bg9 (by rw [H3.size]; rfl) H3.one) rfl ?_
                  rintro _ wn5_8 ⟨rfl, Bg9, cg⟩
                  replace Xg9 := Xg9.chg cg hg9
                  refine ⟨.inl rfl, ?_⟩
                  replace Bg10 := Bg10.chg cg (by omega)
                  replace HA := HA_g9.ext Xg9
                  replace HB := HB_g9.ext Xg9
                  replace H := H_g9.ext Xg9
                  replace J := J_g9.ext Xg9
                  replace E := E_g9.ext Xg9
                  replace B6 := B6_g9.ext Xg9
                  replace B7 := B7_g9.ext Xg9
                  replace H3 := H3_g9.ext Xg9
                  replace H4 := H4_g9.ext Xg9
                  try replace H3 := H3.chg Bo9 secZ_sl cg
                  try replace H4 := H4.chg Bo9 secZ_sl cg
                  have Bo10 := Bg10
                  refine wm_one 9 (by kernel_rfl) ?_; refine om_ef rfl (ef_storeW rfl rfl (by rw [H4.size]; kernel_rfl) Bg10 (by rw [H4.size]; rfl) H4.one) rfl ?_
                  rintro _ wn5_9 ⟨rfl, Bg10, cg⟩
                  replace Xg9 := Xg9.chg cg hg10
                  refine ⟨.inl rfl, ?_⟩
                  replace Bg9 := Bg9.chg cg (by omega)
                  replace HA := HA_g9.ext Xg9
                  replace HB := HB_g9.ext Xg9
                  replace H := H_g9.ext Xg9
                  replace J := J_g9.ext Xg9
                  replace E := E_g9.ext Xg9
                  replace B6 := B6_g9.ext Xg9
                  replace B7 := B7_g9.ext Xg9
                  replace H3 := H3_g9.ext Xg9
                  replace H4 := H4_g9.ext Xg9
                  try replace H3 := H3.chg Bo10 secZ_sl cg
                  try replace H4 := H4.chg Bo10 secZ_sl cg
                  refine wm_done (by kernel_rfl) ?_
                  refine wq_nop ?_
                  exact wq_join _ ⟨g9, g10, d3, d4, rfl, HA, HB, H, J, E, B6, B7, H3, H4, Bg9, Bg10⟩ ⟨rfl, rfl, rfl, rfl, rfl, rfl, trivial⟩
                · skip
                  have HA_g10 := HA
                  have HB_g10 := HB
                  have H_g10 := H
                  have J_g10 := J
                  have E_g10 := E
                  have B6_g10 := B6
                  have B7_g10 := B7
                  have H3_g10 := H3
                  have H4_g10 := H4
                  refine om_ef rfl (ef_alloc (Z := secZ) (by kernel_rfl)) rfl ?_
                  rintro _ wn5_7 ⟨g10, rfl, Bg10, hg10, ex⟩
                  have Xg10 := ex
                  refine ⟨.inr ex, ?_⟩
                  replace HA := HA.ext ex
                  replace HB := HB.ext ex
                  replace H := H.ext ex
                  replace J := J.ext ex
                  replace E := E.ext ex
                  replace B6 := B6.ext ex
                  replace B7 := B7.ext ex
                  replace H3 := H3.ext ex
                  replace H4 := H4.ext ex
                  refine wm_one 6 (by kernel_rfl) ?_; refine om_ef rfl (ef_alloc (Z := secZ) (by kernel_rfl)) rfl ?_
                  rintro _ wn5_6 ⟨g9, rfl, Bg9, hg9, ex⟩
                  have lg10_g9 : g10 < g9 := Nat.lt_of_lt_of_le Bg10.lt hg9
                  replace hg9 := Nat.le_trans Xg10.size hg9
                  refine ⟨.inr ex, ?_⟩
                  replace HA := HA.ext ex
                  replace HB := HB.ext ex
                  replace H := H.ext ex
                  replace J := J.ext ex
                  replace E := E.ext ex
                  replace B6 := B6.ext ex
                  replace B7 := B7.ext ex
                  replace H3 := H3.ext ex
                  replace H4 := H4.ext ex
                  replace Bg10 := Bg10.ext ex
                  replace Xg10 := Xg10.ext ex
                  have Bo9 := Bg9
                  refine wm_one 8 (by kernel_rfl) ?_; refine om_ef rfl (ef_storeW rfl rfl (by rw [H3.size]; kernel_rfl) Bg9 (by rw [H3.size]; rfl) H3.one) rfl ?_
                  rintro _ wn5_8 ⟨rfl, Bg9, cg⟩
                  replace Xg10 := Xg10.chg cg hg9
                  refine ⟨.inl rfl, ?_⟩
                  replace Bg10 := Bg10.chg cg (by omega)
                  replace HA := HA_g10.ext Xg10
                  replace HB := HB_g10.ext Xg10
                  replace H := H_g10.ext Xg10
                  replace J := J_g10.ext Xg10
                  replace E := E_g10.ext Xg10
                  replace B6 := B6_g10.ext Xg10
                  replace B7 := B7_g10.ext Xg10
                  replace H3 := H3_g10.ext Xg10
                  replace H4 := H4_g10.ext Xg10
                  try replace H3 := H3.chg Bo9 secZ_sl cg
                  try replace H4 := H4.chg Bo9 secZ_sl cg
                  have Bo10 := Bg10
                  refine wm_one 9 (by kernel_rfl) ?_; refine om_ef rfl (ef_storeW rfl rfl (by rw [H4.size]; kernel_rfl) Bg10 (by rw [H4.size]; rfl) H4.one) rfl ?_
                  rintro _ wn5_9 ⟨rfl, Bg10, cg⟩
                  replace Xg10 := Xg10.chg cg hg10
                  refine ⟨.inl rfl, ?_⟩
                  replace Bg9 := Bg9.chg cg (by omega)
                  replace HA := HA_g10.ext Xg10
                  replace HB := HB_g10.ext Xg10
                  replace H := H_g10.ext Xg10
                  replace J := J_g10.ext Xg10
                  replace E := E_g10.ext Xg10
                  replace B6 := B6_g10.ext Xg10
                  replace B7 := B7_g10.ext Xg10
                  replace H3 := H3_g10.ext Xg10
                  replace H4 := H4_g10.ext Xg10
                  try replace H3 := H3.chg Bo10 secZ_sl cg
                  try replace H4 := H4.chg Bo10 secZ_sl cg
                  refine wm_done (by kernel_rfl) ?_
                  refine wq_nop ?_
                  exact wq_join _ ⟨g9, g10, d3, d4, rfl, HA, HB, H, J, E, B6, B7, H3, H4, Bg9, Bg10⟩ ⟨rfl, rfl, rfl, rfl, rfl, rfl, trivial⟩
              · skip
                have HA_g9 := HA
                have HB_g9 := HB
                have H_g9 := H
                have J_g9 := J
                have E_g9 := E
                have B6_g9 := B6
                have B7_g9 := B7
                have H3_g9 := H3
                refine om_ef rfl (ef_alloc (Z := secZ) (by kernel_rfl)) rfl ?_
                rintro _ wn5_6 ⟨g9, rfl, Bg9, hg9, ex⟩
                have Xg9 := ex
                refine ⟨.inr ex, ?_⟩
                replace HA := HA.ext ex
                replace HB := HB.ext ex
                replace H := H.ext ex
                replace J := J.ext ex
                replace E := E.ext ex
                replace B6 := B6.ext ex
                replace B7 := B7.ext ex
                replace H3 := H3.ext ex
                refine wm_two 5 7 (by kernel_rfl) ?_ ?_
                · skip
                  refine om_call rfl Try.func20 rfl rfl rfl (sof_any B m d ys ds y _ HB (by omega) J jsm) rfl ?_
                  rintro e w4 ⟨d4, rfl, H4, ex⟩
                  refine ⟨_, rfl, .inr ex, ?_⟩
                  replace HA := HA.ext ex
                  replace HB := HB.ext ex
                  replace H := H.ext ex
                  replace J := J.ext ex
                  replace E := E.ext ex
                  replace B6 := B6.ext ex
                  replace B7 := B7.ext ex
                  replace H3 := H3.ext ex
                  replace Bg9 := Bg9.ext ex
                  replace Xg9 := Xg9.ext ex
                  skip
                  refine wm_one 7 (by kernel_rfl) ?_; refine om_ef rfl (ef_alloc (Z := secZ) (by kernel_rfl)) rfl ?_
                  rintro _ wn5_7 ⟨g10, rfl, Bg10, hg10, ex⟩
                  have lg9_g10 : g9 < g10 := Nat.lt_of_lt_of_le Bg9.lt hg10
                  replace hg10 := Nat.le_trans Xg9.size hg10
                  refine ⟨.inr ex, ?_⟩
                  replace HA := HA.ext ex
                  replace HB := HB.ext ex
                  replace H := H.ext ex
                  replace J := J.ext ex
                  replace E := E.ext ex
                  replace B6 := B6.ext ex
                  replace B7 := B7.ext ex
                  replace H3 := H3.ext ex
                  replace Bg9 := Bg9.ext ex
                  replace Xg9 := Xg9.ext ex
                  replace H4 := H4.ext ex
                  have Bo9 := Bg9
                  refine wm_one 8 (by kernel_rfl) ?_; refine om_ef rfl (ef_storeW rfl rfl (by rw [H3.size]; kernel_rfl) Bg9 (by rw [H3.size]; rfl) H3.one) rfl ?_
                  rintro _ wn5_8 ⟨rfl, Bg9, cg⟩
                  replace Xg9 := Xg9.chg cg hg9
                  refine ⟨.inl rfl, ?_⟩
                  replace Bg10 := Bg10.chg cg (by omega)
                  replace HA := HA_g9.ext Xg9
                  replace HB := HB_g9.ext Xg9
                  replace H := H_g9.ext Xg9
                  replace J := J_g9.ext Xg9
                  replace E := E_g9.ext Xg9
                  replace B6 := B6_g9.ext Xg9
                  replace B7 := B7_g9.ext Xg9
                  replace H3 := H3_g9.ext Xg9
                  try replace H3 := H3.chg Bo9 secZ_sl cg
                  try replace H4 := H4.chg Bo9 secZ_sl cg
                  have Bo10 := Bg10
                  refine wm_one 9 (by kernel_rfl) ?_; refine om_ef rfl (ef_storeW rfl rfl (by rw [H4.size]; kernel_rfl) Bg10 (by rw [H4.size]; rfl) H4.one) rfl ?_
                  rintro _ wn5_9 ⟨rfl, Bg10, cg⟩
                  replace Xg9 := Xg9.chg cg hg10
                  refine ⟨.inl rfl, ?_⟩
                  replace Bg9 := Bg9.chg cg (by omega)
                  replace HA := HA_g9.ext Xg9
                  replace HB := HB_g9.ext Xg9
                  replace H := H_g9.ext Xg9
                  replace J := J_g9.ext Xg9
                  replace E := E_g9.ext Xg9
                  replace B6 := B6_g9.ext Xg9
                  replace B7 := B7_g9.ext Xg9
                  replace H3 := H3_g9.ext Xg9
                  try replace H3 := H3.chg Bo10 secZ_sl cg
                  try replace H4 := H4.chg Bo10 secZ_sl cg
                  refine wm_done (by kernel_rfl) ?_
                  refine wq_nop ?_
                  exact wq_join _ ⟨g9, g10, d3, d4, rfl, HA, HB, H, J, E, B6, B7, H3, H4, Bg9, Bg10⟩ ⟨rfl, rfl, rfl, rfl, rfl, rfl, trivial⟩
                · skip
                  refine om_ef rfl (ef_alloc (Z := secZ) (by kernel_rfl)) rfl ?_
                  rintro _ wn5_7 ⟨g10, rfl, Bg10, hg10, ex⟩
                  have lg9_g10 : g9 < g10 := Nat.lt_of_lt_of_le Bg9.lt hg10
                  replace hg10 := Nat.le_trans Xg9.size hg10
                  refine ⟨.inr ex, ?_⟩
                  replace HA := HA.ext ex
                  replace HB := HB.ext ex
                  replace H := H.ext ex
                  replace J := J.ext ex
                  replace E := E.ext ex
                  replace B6 := B6.ext ex
                  replace B7 := B7.ext ex
                  replace H3 := H3.ext ex
                  replace Bg9 := Bg9.ext ex
                  replace Xg9 := Xg9.ext ex
                  refine wm_one 5 (by kernel_rfl) ?_; refine om_call rfl Try.func20 rfl rfl rfl (sof_any B m d ys ds y _ HB (by omega) J jsm) rfl ?_
                  rintro e w4 ⟨d4, rfl, H4, ex⟩
                  refine ⟨_, rfl, .inr ex, ?_⟩
                  replace HA := HA.ext ex
                  replace HB := HB.ext ex
                  replace H := H.ext ex
                  replace J := J.ext ex
                  replace E := E.ext ex
                  replace B6 := B6.ext ex
                  replace B7 := B7.ext ex
                  replace H3 := H3.ext ex
                  replace Bg9 := Bg9.ext ex
                  replace Xg9 := Xg9.ext ex
                  replace Bg10 := Bg10.ext ex
                  skip
                  have Bo9 := Bg9
                  refine wm_one 8 (by kernel_rfl) ?_; refine om_ef rfl (ef_storeW rfl rfl (by rw [H3.size]; kernel_rfl) Bg9 (by rw [H3.size]; rfl) H3.one) rfl ?_
                  rintro _ wn5_8 ⟨rfl, Bg9, cg⟩
                  replace Xg9 := Xg9.chg cg hg9
                  refine ⟨.inl rfl, ?_⟩
                  replace Bg10 := Bg10.chg cg (by omega)
                  replace HA := HA_g9.ext Xg9
                  replace HB := HB_g9.ext Xg9
                  replace H := H_g9.ext Xg9
                  replace J := J_g9.ext Xg9
                  replace E := E_g9.ext Xg9
                  replace B6 := B6_g9.ext Xg9
                  replace B7 := B7_g9.ext Xg9
                  replace H3 := H3_g9.ext Xg9
                  try replace H3 := H3.chg Bo9 secZ_sl cg
                  try replace H4 := H4.chg Bo9 secZ_sl cg
                  have Bo10 := Bg10
                  refine wm_one 9 (by kernel_rfl) ?_; refine om_ef rfl (ef_storeW rfl rfl (by rw [H4.size]; kernel_rfl) Bg10 (by rw [H4.size]; rfl) H4.one) rfl ?_
                  rintro _ wn5_9 ⟨rfl, Bg10, cg⟩
                  replace Xg9 := Xg9.chg cg hg10
                  refine ⟨.inl rfl, ?_⟩
                  replace Bg9 := Bg9.chg cg (by omega)
                  replace HA := HA_g9.ext Xg9
                  replace HB := HB_g9.ext Xg9
                  replace H := H_g9.ext Xg9
                  replace J := J_g9.ext Xg9
                  replace E := E_g9.ext Xg9
                  replace B6 := B6_g9.ext Xg9
                  replace B7 := B7_g9.ext Xg9
                  replace H3 := H3_g9.ext Xg9
                  try replace H3 := H3.chg Bo10 secZ_sl cg
                  try replace H4 := H4.chg Bo10 secZ_sl cg
                  refine wm_done (by kernel_rfl) ?_
                  refine wq_nop ?_
                  exact wq_join _ ⟨g9, g10, d3, d4, rfl, HA, HB, H, J, E, B6, B7, H3, H4, Bg9, Bg10⟩ ⟨rfl, rfl, rfl, rfl, rfl, rfl, trivial⟩
              · skip
                have HA_g10 := HA
                have HB_g10 := HB
                have H_g10 := H
                have J_g10 := J
                have E_g10 := E
                have B6_g10 := B6
                have B7_g10 := B7
                have H3_g10 := H3
                refine om_ef rfl (ef_alloc (Z := secZ) (by kernel_rfl)) rfl ?_
                rintro _ wn5_7 ⟨g10, rfl, Bg10, hg10, ex⟩
                have Xg10 := ex
                refine ⟨.inr ex, ?_⟩
                replace HA := HA.ext ex
                replace HB := HB.ext ex
                replace H := H.ext ex
                replace J := J.ext ex
                replace E := E.ext ex
                replace B6 := B6.ext ex
                replace B7 := B7.ext ex
                replace H3 := H3.ext ex
                refine wm_two 5 6 (by kernel_rfl) ?_ ?_
                · skip
                  refine om_call rfl Try.func20 rfl rfl rfl (sof_any B m d ys ds y _ HB (by omega) J jsm) rfl ?_
                  rintro e w4 ⟨d4, rfl, H4, ex⟩
                  refine ⟨_, rfl, .inr ex, ?_⟩
                  replace HA := HA.ext ex
                  replace HB := HB.ext ex
                  replace H := H.ext ex
                  replace J := J.ext ex
                  replace E := E.ext ex
                  replace B6 := B6.ext ex
                  replace B7 := B7.ext ex
                  replace H3 := H3.ext ex
                  replace Bg10 := Bg10.ext ex
                  replace Xg10 := Xg10.ext ex
                  skip
                  refine wm_one 6 (by kernel_rfl) ?_; refine om_ef rfl (ef_alloc (Z := secZ) (by kernel_rfl)) rfl ?_
                  rintro _ wn5_6 ⟨g9, rfl, Bg9, hg9, ex⟩
                  have lg10_g9 : g10 < g9 := Nat.lt_of_lt_of_le Bg10.lt hg9
                  replace hg9 := Nat.le_trans Xg10.size hg9
                  refine ⟨.inr ex, ?_⟩
                  replace HA := HA.ext ex
                  replace HB := HB.ext ex
                  replace H := H.ext ex
                  replace J := J.ext ex
                  replace E := E.ext ex
                  replace B6 := B6.ext ex
                  replace B7 := B7.ext ex
                  replace H3 := H3.ext ex
                  replace Bg10 := Bg10.ext ex
                  replace Xg10 := Xg10.ext ex
                  replace H4 := H4.ext ex
                  have Bo9 := Bg9
                  refine wm_one 8 (by kernel_rfl) ?_; refine om_ef rfl (ef_storeW rfl rfl (by rw [H3.size]; kernel_rfl) Bg9 (by rw [H3.size]; rfl) H3.one) rfl ?_
                  rintro _ wn5_8 ⟨rfl, Bg9, cg⟩
                  replace Xg10 := Xg10.chg cg hg9
                  refine ⟨.inl rfl, ?_⟩
                  replace Bg10 := Bg10.chg cg (by omega)
                  replace HA := HA_g10.ext Xg10
                  replace HB := HB_g10.ext Xg10
                  replace H := H_g10.ext Xg10
                  replace J := J_g10.ext Xg10
                  replace E := E_g10.ext Xg10
                  replace B6 := B6_g10.ext Xg10
                  replace B7 := B7_g10.ext Xg10
                  replace H3 := H3_g10.ext Xg10
                  try replace H3 := H3.chg Bo9 secZ_sl cg
                  try replace H4 := H4.chg Bo9 secZ_sl cg
                  have Bo10 := Bg10
                  refine wm_one 9 (by kernel_rfl) ?_; refine om_ef rfl (ef_storeW rfl rfl (by rw [H4.size]; kernel_rfl) Bg10 (by rw [H4.size]; rfl) H4.one) rfl ?_
                  rintro _ wn5_9 ⟨rfl, Bg10, cg⟩
                  replace Xg10 := Xg10.chg cg hg10
                  refine ⟨.inl rfl, ?_⟩
                  replace Bg9 := Bg9.chg cg (by omega)
                  replace HA := HA_g10.ext Xg10
                  replace HB := HB_g10.ext Xg10
                  replace H := H_g10.ext Xg10
                  replace J := J_g10.ext Xg10
                  replace E := E_g10.ext Xg10
                  replace B6 := B6_g10.ext Xg10
                  replace B7 := B7_g10.ext Xg10
                  replace H3 := H3_g10.ext Xg10
                  try replace H3 := H3.chg Bo10 secZ_sl cg
                  try replace H4 := H4.chg Bo10 secZ_sl cg
                  refine wm_done (by kernel_rfl) ?_
                  refine wq_nop ?_
                  exact wq_join _ ⟨g9, g10, d3, d4, rfl, HA, HB, H, J, E, B6, B7, H3, H4, Bg9, Bg10⟩ ⟨rfl, rfl, rfl, rfl, rfl, rfl, trivial⟩
                · skip
                  refine om_ef rfl (ef_alloc (Z := secZ) (by kernel_rfl)) rfl ?_
                  rintro _ wn5_6 ⟨g9, rfl, Bg9, hg9, ex⟩
                  have lg10_g9 : g10 < g9 := Nat.lt_of_lt_of_le Bg10.lt hg9
                  replace hg9 := Nat.le_trans Xg10.size hg9
                  refine ⟨.inr ex, ?_⟩
                  replace HA := HA.ext ex
                  replace HB := HB.ext ex
                  replace H := H.ext ex
                  replace J := J.ext ex
                  replace E := E.ext ex
                  replace B6 := B6.ext ex
                  replace B7 := B7.ext ex
                  replace H3 := H3.ext ex
                  replace Bg10 := Bg10.ext ex
                  replace Xg10 := Xg10.ext ex
                  refine wm_one 5 (by kernel_rfl) ?_; refine om_call rfl Try.func20 rfl rfl rfl (sof_any B m d ys ds y _ HB (by omega) J jsm) rfl ?_
                  rintro e w4 ⟨d4, rfl, H4, ex⟩
                  refine ⟨_, rfl, .inr ex, ?_⟩
                  replace HA := HA.ext ex
                  replace HB := HB.ext ex
                  replace H := H.ext ex
                  replace J := J.ext ex
                  replace E := E.ext ex
                  replace B6 := B6.ext ex
                  replace B7 := B7.ext ex
                  replace H3 := H3.ext ex
                  replace Bg10 := Bg10.ext ex
                  replace Xg10 := Xg10.ext ex
                  replace Bg9 := Bg9.ext ex
                  skip
                  have Bo9 := Bg9
                  refine wm_one 8 (by kernel_rfl) ?_; refine om_ef rfl (ef_storeW rfl rfl (by rw [H3.size]; kernel_rfl) Bg9 (by rw [H3.size]; rfl) H3.one) rfl ?_
                  rintro _ wn5_8 ⟨rfl, Bg9, cg⟩
                  replace Xg10 := Xg10.chg cg hg9
                  refine ⟨.inl rfl, ?_⟩
                  replace Bg10 := Bg10.chg cg (by omega)
                  replace HA := HA_g10.ext Xg10
                  replace HB := HB_g10.ext Xg10
                  replace H := H_g10.ext Xg10
                  replace J := J_g10.ext Xg10
                  replace E := E_g10.ext Xg10
                  replace B6 := B6_g10.ext Xg10
                  replace B7 := B7_g10.ext Xg10
                  replace H3 := H3_g10.ext Xg10
                  try replace H3 := H3.chg Bo9 secZ_sl cg
                  try replace H4 := H4.chg Bo9 secZ_sl cg
                  have Bo10 := Bg10
                  refine wm_one 9 (by kernel_rfl) ?_; refine om_ef rfl (ef_storeW rfl rfl (by rw [H4.size]; kernel_rfl) Bg10 (by rw [H4.size]; rfl) H4.one) rfl ?_
                  rintro _ wn5_9 ⟨rfl, Bg10, cg⟩
                  replace Xg10 := Xg10.chg cg hg10
                  refine ⟨.inl rfl, ?_⟩
                  replace Bg9 := Bg9.chg cg (by omega)
                  replace HA := HA_g10.ext Xg10
                  replace HB := HB_g10.ext Xg10
                  replace H := H_g10.ext Xg10
                  replace J := J_g10.ext Xg10
                  replace E := E_g10.ext Xg10
                  replace B6 := B6_g10.ext Xg10
                  replace B7 := B7_g10.ext Xg10
                  replace H3 := H3_g10.ext Xg10
                  try replace H3 := H3.chg Bo10 secZ_sl cg
                  try replace H4 := H4.chg Bo10 secZ_sl cg
                  refine wm_done (by kernel_rfl) ?_
                  refine wq_nop ?_
                  exact wq_join _ ⟨g9, g10, d3, d4, rfl, HA, HB, H, J, E, B6, B7, H3, H4, Bg9, Bg10⟩ ⟨rfl, rfl, rfl, rfl, rfl, rfl, trivial⟩
            · skip
              have HA_g9 := HA
              have HB_g9 := HB
              have H_g9 := H
              have J_g9 := J
              have E_g9 := E
              have B6_g9 := B6
              have B7_g9 := B7
              refine om_ef rfl (ef_alloc (Z := secZ) (by kernel_rfl)) rfl ?_
              rintro _ wn5_6 ⟨g9, rfl, Bg9, hg9, ex⟩
              have Xg9 := ex
              refine ⟨.inr ex, ?_⟩
              replace HA := HA.ext ex
              replace HB := HB.ext ex
              replace H := H.ext ex
              replace J := J.ext ex
              replace E := E.ext ex
              replace B6 := B6.ext ex
              replace B7 := B7.ext ex
              refine wm_two 2 7 (by kernel_rfl) ?_ ?_
              · skip
                refine om_call rfl Try.func20 rfl rfl rfl (sof_any A n c xs cs x _ HA (by omega) H hsm) rfl ?_
                rintro e w3 ⟨d3, rfl, H3, ex⟩
                refine ⟨_, rfl, .inr ex, ?_⟩
                replace HA := HA.ext ex
                replace HB := HB.ext ex
                replace H := H.ext ex
                replace J := J.ext ex
                replace E := E.ext ex
                replace B6 := B6.ext ex
                replace B7 := B7.ext ex
                replace Bg9 := Bg9.ext ex
                replace Xg9 := Xg9.ext ex
                skip
                refine wm_two 5 7 (by kernel_rfl) ?_ ?_
                · skip
                  refine om_call rfl Try.func20 rfl rfl rfl (sof_any B m d ys ds y _ HB (by omega) J jsm) rfl ?_
                  rintro e w4 ⟨d4, rfl, H4, ex⟩
                  refine ⟨_, rfl, .inr ex, ?_⟩
                  replace HA := HA.ext ex
                  replace HB := HB.ext ex
                  replace H := H.ext ex
                  replace J := J.ext ex
                  replace E := E.ext ex
                  replace B6 := B6.ext ex
                  replace B7 := B7.ext ex
                  replace Bg9 := Bg9.ext ex
                  replace Xg9 := Xg9.ext ex
                  replace H3 := H3.ext ex
                  skip
                  refine wm_one 7 (by kernel_rfl) ?_; refine om_ef rfl (ef_alloc (Z := secZ) (by kernel_rfl)) rfl ?_
                  rintro _ wn5_7 ⟨g10, rfl, Bg10, hg10, ex⟩
                  have lg9_g10 : g9 < g10 := Nat.lt_of_lt_of_le Bg9.lt hg10
                  replace hg10 := Nat.le_trans Xg9.size hg10
                  refine ⟨.inr ex, ?_⟩
                  replace HA := HA.ext ex
                  replace HB := HB.ext ex
                  replace H := H.ext ex
                  replace J := J.ext ex
                  replace E := E.ext ex
                  replace B6 := B6.ext ex
                  replace B7 := B7.ext ex
                  replace Bg9 := Bg9.ext ex
                  replace Xg9 := Xg9.ext ex
                  replace H3 := H3.ext ex
                  replace H4 := H4.ext ex
                  have Bo9 := Bg9
                  refine wm_one 8 (by kernel_rfl) ?_; refine om_ef rfl (ef_storeW rfl rfl (by rw [H3.size]; kernel_rfl) Bg9 (by rw [H3.size]; rfl) H3.one) rfl ?_
                  rintro _ wn5_8 ⟨rfl, Bg9, cg⟩
                  replace Xg9 := Xg9.chg cg hg9
                  refine ⟨.inl rfl, ?_⟩
                  replace Bg10 := Bg10.chg cg (by omega)
                  replace HA := HA_g9.ext Xg9
                  replace HB := HB_g9.ext Xg9
                  replace H := H_g9.ext Xg9
                  replace J := J_g9.ext Xg9
                  replace E := E_g9.ext Xg9
                  replace B6 := B6_g9.ext Xg9
                  replace B7 := B7_g9.ext Xg9
                  try replace H3 := H3.chg Bo9 secZ_sl cg
                  try replace H4 := H4.chg Bo9 secZ_sl cg
                  have Bo10 := Bg10
                  refine wm_one 9 (by kernel_rfl) ?_; refine om_ef rfl (ef_storeW rfl rfl (by rw [H4.size]; kernel_rfl) Bg10 (by rw [H4.size]; rfl) H4.one) rfl ?_
                  rintro _ wn5_9 ⟨rfl, Bg10, cg⟩
                  replace Xg9 := Xg9.chg cg hg10
                  refine ⟨.inl rfl, ?_⟩
                  replace Bg9 := Bg9.chg cg (by omega)
                  replace HA := HA_g9.ext Xg9
                  replace HB := HB_g9.ext Xg9
                  replace H := H_g9.ext Xg9
                  replace J := J_g9.ext Xg9
                  replace E := E_g9.ext Xg9
                  replace B6 := B6_g9.ext Xg9
                  replace B7 := B7_g9.ext Xg9
                  try replace H3 := H3.chg Bo10 secZ_sl cg
                  try replace H4 := H4.chg Bo10 secZ_sl cg
                  refine wm_done (by kernel_rfl) ?_
                  refine wq_nop ?_
                  exact wq_join _ ⟨g9, g10, d3, d4, rfl, HA, HB, H, J, E, B6, B7, H3, H4, Bg9, Bg10⟩ ⟨rfl, rfl, rfl, rfl, rfl, rfl, trivial⟩
                · skip
                  refine om_ef rfl (ef_alloc (Z := secZ) (by kernel_rfl)) rfl ?_
                  rintro _ wn5_7 ⟨g10, rfl, Bg10, hg10, ex⟩
                  have lg9_g10 : g9 < g10 := Nat.lt_of_lt_of_le Bg9.lt hg10
                  replace hg10 := Nat.le_trans Xg9.size hg10
                  refine ⟨.inr ex, ?_⟩
                  replace HA := HA.ext ex
                  replace HB := HB.ext ex
                  replace H := H.ext ex
                  replace J := J.ext ex
                  replace E := E.ext ex
                  replace B6 := B6.ext ex
                  replace B7 := B7.ext ex
                  replace Bg9 := Bg9.ext ex
                  replace Xg9 := Xg9.ext ex
                  replace H3 := H3.ext ex
                  refine wm_one 5 (by kernel_rfl) ?_; refine om_call rfl Try.func20 rfl rfl rfl (sof_any B m d ys ds y _ HB (by omega) J jsm) rfl ?_
                  rintro e w4 ⟨d4, rfl, H4, ex⟩
                  refine ⟨_, rfl, .inr ex, ?_⟩
                  replace HA := HA.ext ex
                  replace HB := HB.ext ex
                  replace H := H.ext ex
                  replace J := J.ext ex
                  replace E := E.ext ex
                  replace B6 := B6.ext ex
                  replace B7 := B7.ext ex
                  replace Bg9 := Bg9.ext ex
                  replace Xg9 := Xg9.ext ex
                  replace H3 := H3.ext ex
                  replace Bg10 := Bg10.ext ex
                  skip
                  have Bo9 := Bg9
                  refine wm_one 8 (by kernel_rfl) ?_; refine om_ef rfl (ef_storeW rfl rfl (by rw [H3.size]; kernel_rfl) Bg9 (by rw [H3.size]; rfl) H3.one) rfl ?_
                  rintro _ wn5_8 ⟨rfl, Bg9, cg⟩
                  replace Xg9 := Xg9.chg cg hg9
                  refine ⟨.inl rfl, ?_⟩
                  replace Bg10 := Bg10.chg cg (by omega)
                  replace HA := HA_g9.ext Xg9
                  replace HB := HB_g9.ext Xg9
                  replace H := H_g9.ext Xg9
                  replace J := J_g9.ext Xg9
                  replace E := E_g9.ext Xg9
                  replace B6 := B6_g9.ext Xg9
                  replace B7 := B7_g9.ext Xg9
                  try replace H3 := H3.chg Bo9 secZ_sl cg
                  try replace H4 := H4.chg Bo9 secZ_sl cg
                  have Bo10 := Bg10
                  refine wm_one 9 (by kernel_rfl) ?_; refine om_ef rfl (ef_storeW rfl rfl (by rw [H4.size]; kernel_rfl) Bg10 (by rw [H4.size]; rfl) H4.one) rfl ?_
                  rintro _ wn5_9 ⟨rfl, Bg10, cg⟩
                  replace Xg9 := Xg9.chg cg hg10
                  refine ⟨.inl rfl, ?_⟩
                  replace Bg9 := Bg9.chg cg (by omega)
                  replace HA := HA_g9.ext Xg9
                  replace HB := HB_g9.ext Xg9
                  replace H := H_g9.ext Xg9
                  replace J := J_g9.ext Xg9
                  replace E := E_g9.ext Xg9
                  replace B6 := B6_g9.ext Xg9
                  replace B7 := B7_g9.ext Xg9
                  try replace H3 := H3.chg Bo10 secZ_sl cg
                  try replace H4 := H4.chg Bo10 secZ_sl cg
                  refine wm_done (by kernel_rfl) ?_
                  refine wq_nop ?_
                  exact wq_join _ ⟨g9, g10, d3, d4, rfl, HA, HB, H, J, E, B6, B7, H3, H4, Bg9, Bg10⟩ ⟨rfl, rfl, rfl, rfl, rfl, rfl, trivial⟩
              · skip
                refine om_ef rfl (ef_alloc (Z := secZ) (by kernel_rfl)) rfl ?_
                rintro _ wn5_7 ⟨g10, rfl, Bg10, hg10, ex⟩
                have lg9_g10 : g9 < g10 := Nat.lt_of_lt_of_le Bg9.lt hg10
                replace hg10 := Nat.le_trans Xg9.size hg10
                refine ⟨.inr ex, ?_⟩
                replace HA := HA.ext ex
                replace HB := HB.ext ex
                replace H := H.ext ex
                replace J := J.ext ex
                replace E := E.ext ex
                replace B6 := B6.ext ex
                replace B7 := B7.ext ex
                replace Bg9 := Bg9.ext ex
                replace Xg9 := Xg9.ext ex
                refine wm_one 2 (by kernel_rfl) ?_; refine om_call rfl Try.func20 rfl rfl rfl (sof_any A n c xs cs x _ HA (by omega) H hsm) rfl ?_
                rintro e w3 ⟨d3, rfl, H3, ex⟩
                refine ⟨_, rfl, .inr ex, ?_⟩
                replace HA := HA.ext ex
                replace HB := HB.ext ex
                replace H := H.ext ex
                replace J := J.ext ex
                replace E := E.ext ex
                replace B6 := B6.ext ex
                replace B7 := B7.ext ex
                replace Bg9 := Bg9.ext ex
                replace Xg9 := Xg9.ext ex
                replace Bg10 := Bg10.ext ex
                skip
                refine wm_one 5 (by kernel_rfl) ?_; refine om_call rfl Try.func20 rfl rfl rfl (sof_any B m d ys ds y _ HB (by omega) J jsm) rfl ?_
                rintro e w4 ⟨d4, rfl, H4, ex⟩
                refine ⟨_, rfl, .inr ex, ?_⟩
                replace HA := HA.ext ex
                replace HB := HB.ext ex
                replace H := H.ext ex
                replace J := J.ext ex
                replace E := E.ext ex
                replace B6 := B6.ext ex
                replace B7 := B7.ext ex
                replace Bg9 := Bg9.ext ex
                replace Xg9 := Xg9.ext ex
                replace Bg10 := Bg10.ext ex
                replace H3 := H3.ext ex
                skip
                have Bo9 := Bg9
                refine wm_one 8 (by kernel_rfl) ?_; refine om_ef rfl (ef_storeW rfl rfl (by rw [H3.size]; kernel_rfl) Bg9 (by rw [H3.size]; rfl) H3.one) rfl ?_
                rintro _ wn5_8 ⟨rfl, Bg9, cg⟩
                replace Xg9 := Xg9.chg cg hg9
                refine ⟨.inl rfl, ?_⟩
                replace Bg10 := Bg10.chg cg (by omega)
                replace HA := HA_g9.ext Xg9
                replace HB := HB_g9.ext Xg9
                replace H := H_g9.ext Xg9
                replace J := J_g9.ext Xg9
                replace E := E_g9.ext Xg9
                replace B6 := B6_g9.ext Xg9
                replace B7 := B7_g9.ext Xg9
                try replace H3 := H3.chg Bo9 secZ_sl cg
                try replace H4 := H4.chg Bo9 secZ_sl cg
                have Bo10 := Bg10
                refine wm_one 9 (by kernel_rfl) ?_; refine om_ef rfl (ef_storeW rfl rfl (by rw [H4.size]; kernel_rfl) Bg10 (by rw [H4.size]; rfl) H4.one) rfl ?_
                rintro _ wn5_9 ⟨rfl, Bg10, cg⟩
                replace Xg9 := Xg9.chg cg hg10
                refine ⟨.inl rfl, ?_⟩
                replace Bg9 := Bg9.chg cg (by omega)
                replace HA := HA_g9.ext Xg9
                replace HB := HB_g9.ext Xg9
                replace H := H_g9.ext Xg9
                replace J := J_g9.ext Xg9
                replace E := E_g9.ext Xg9
                replace B6 := B6_g9.ext Xg9
                replace B7 := B7_g9.ext Xg9
                try replace H3 := H3.chg Bo10 secZ_sl cg
                try replace H4 := H4.chg Bo10 secZ_sl cg
                refine wm_done (by kernel_rfl) ?_
                refine wq_nop ?_
                exact wq_join _ ⟨g9, g10, d3, d4, rfl, HA, HB, H, J, E, B6, B7, H3, H4, Bg9, Bg10⟩ ⟨rfl, rfl, rfl, rfl, rfl, rfl, trivial⟩
            · skip
              have HA_g10 := HA
              have HB_g10 := HB
              have H_g10 := H
              have J_g10 := J
              have E_g10 := E
              have B6_g10 := B6
              have B7_g10 := B7
              refine om_ef rfl (ef_alloc (Z := secZ) (by kernel_rfl)) rfl ?_
              rintro _ wn5_7 ⟨g10, rfl, Bg10, hg10, ex⟩
              have Xg10 := ex
              refine ⟨.inr ex, ?_⟩
              replace HA := HA.ext ex
              replace HB := HB.ext ex
              replace H := H.ext ex
              replace J := J.ext ex
              replace E := E.ext ex
              replace B6 := B6.ext ex
              replace B7 := B7.ext ex
              refine wm_two 2 6 (by kernel_rfl) ?_ ?_
              · skip
                refine om_call rfl Try.func20 rfl rfl rfl (sof_any A n c xs cs x _ HA (by omega) H hsm) rfl ?_
                rintro e w3 ⟨d3, rfl, H3, ex⟩
                refine ⟨_, rfl, .inr ex, ?_⟩
                replace HA := HA.ext ex
                replace HB := HB.ext ex
                replace H := H.ext ex
                replace J := J.ext ex
                replace E := E.ext ex
                replace B6 := B6.ext ex
                replace B7 := B7.ext ex
                replace Bg10 := Bg10.ext ex
                replace Xg10 := Xg10.ext ex
                skip
                refine wm_two 5 6 (by kernel_rfl) ?_ ?_
                · skip
                  refine om_call rfl Try.func20 rfl rfl rfl (sof_any B m d ys ds y _ HB (by omega) J jsm) rfl ?_
                  rintro e w4 ⟨d4, rfl, H4, ex⟩
                  refine ⟨_, rfl, .inr ex, ?_⟩
                  replace HA := HA.ext ex
                  replace HB := HB.ext ex
                  replace H := H.ext ex
                  replace J := J.ext ex
                  replace E := E.ext ex
                  replace B6 := B6.ext ex
                  replace B7 := B7.ext ex
                  replace Bg10 := Bg10.ext ex
                  replace Xg10 := Xg10.ext ex
                  replace H3 := H3.ext ex
                  skip
                  refine wm_one 6 (by kernel_rfl) ?_; refine om_ef rfl (ef_alloc (Z := secZ) (by kernel_rfl)) rfl ?_
                  rintro _ wn5_6 ⟨g9, rfl, Bg9, hg9, ex⟩
                  have lg10_g9 : g10 < g9 := Nat.lt_of_lt_of_le Bg10.lt hg9
                  replace hg9 := Nat.le_trans Xg10.size hg9
                  refine ⟨.inr ex, ?_⟩
                  replace HA := HA.ext ex
                  replace HB := HB.ext ex
                  replace H := H.ext ex
                  replace J := J.ext ex
                  replace E := E.ext ex
                  replace B6 := B6.ext ex
                  replace B7 := B7.ext ex
                  replace Bg10 := Bg10.ext ex
                  replace Xg10 := Xg10.ext ex
                  replace H3 := H3.ext ex
                  replace H4 := H4.ext ex
                  have Bo9 := Bg9
                  refine wm_one 8 (by kernel_rfl) ?_; refine om_ef rfl (ef_storeW rfl rfl (by rw [H3.size]; kernel_rfl) Bg9 (by rw [H3.size]; rfl) H3.one) rfl ?_
                  rintro _ wn5_8 ⟨rfl, Bg9, cg⟩
                  replace Xg10 := Xg10.chg cg hg9
                  refine ⟨.inl rfl, ?_⟩
                  replace Bg10 := Bg10.chg cg (by omega)
                  replace HA := HA_g10.ext Xg10
                  replace HB := HB_g10.ext Xg10
                  replace H := H_g10.ext Xg10
                  replace J := J_g10.ext Xg10
                  replace E := E_g10.ext Xg10
                  replace B6 := B6_g10.ext Xg10
                  replace B7 := B7_g10.ext Xg10
                  try replace H3 := H3.chg Bo9 secZ_sl cg
                  try replace H4 := H4.chg Bo9 secZ_sl cg
                  have Bo10 := Bg10
                  refine wm_one 9 (by kernel_rfl) ?_; refine om_ef rfl (ef_storeW rfl rfl (by rw [H4.size]; kernel_rfl) Bg10 (by rw [H4.size]; rfl) H4.one) rfl ?_
                  rintro _ wn5_9 ⟨rfl, Bg10, cg⟩
                  replace Xg10 := Xg10.chg cg hg10
                  refine ⟨.inl rfl, ?_⟩
                  replace Bg9 := Bg9.chg cg (by omega)
                  replace HA := HA_g10.ext Xg10
                  replace HB := HB_g10.ext Xg10
                  replace H := H_g10.ext Xg10
                  replace J := J_g10.ext Xg10
                  replace E := E_g10.ext Xg10
                  replace B6 := B6_g10.ext Xg10
                  replace B7 := B7_g10.ext Xg10
                  try replace H3 := H3.chg Bo10 secZ_sl cg
                  try replace H4 := H4.chg Bo10 secZ_sl cg
                  refine wm_done (by kernel_rfl) ?_
                  refine wq_nop ?_
                  exact wq_join _ ⟨g9, g10, d3, d4, rfl, HA, HB, H, J, E, B6, B7, H3, H4, Bg9, Bg10⟩ ⟨rfl, rfl, rfl, rfl, rfl, rfl, trivial⟩
                · skip
                  refine om_ef rfl (ef_alloc (Z := secZ) (by kernel_rfl)) rfl ?_
                  rintro _ wn5_6 ⟨g9, rfl, Bg9, hg9, ex⟩
                  have lg10_g9 : g10 < g9 := Nat.lt_of_lt_of_le Bg10.lt hg9
                  replace hg9 := Nat.le_trans Xg10.size hg9
                  refine ⟨.inr ex, ?_⟩
                  replace HA := HA.ext ex
                  replace HB := HB.ext ex
                  replace H := H.ext ex
                  replace J := J.ext ex
                  replace E := E.ext ex
                  replace B6 := B6.ext ex
                  replace B7 := B7.ext ex
                  replace Bg10 := Bg10.ext ex
                  replace Xg10 := Xg10.ext ex
                  replace H3 := H3.ext ex
                  refine wm_one 5 (by kernel_rfl) ?_; refine om_call rfl Try.func20 rfl rfl rfl (sof_any B m d ys ds y _ HB (by omega) J jsm) rfl ?_
                  rintro e w4 ⟨d4, rfl, H4, ex⟩
                  refine ⟨_, rfl, .inr ex, ?_⟩
                  replace HA := HA.ext ex
                  replace HB := HB.ext ex
                  replace H := H.ext ex
                  replace J := J.ext ex
                  replace E := E.ext ex
                  replace B6 := B6.ext ex
                  replace B7 := B7.ext ex
                  replace Bg10 := Bg10.ext ex
                  replace Xg10 := Xg10.ext ex
                  replace H3 := H3.ext ex
                  replace Bg9 := Bg9.ext ex
                  skip
                  have Bo9 := Bg9
                  refine wm_one 8 (by kernel_rfl) ?_; refine om_ef rfl (ef_storeW rfl rfl (by rw [H3.size]; kernel_rfl) Bg9 (by rw [H3.size]; rfl) H3.one) rfl ?_
                  rintro _ wn5_8 ⟨rfl, Bg9, cg⟩
                  replace Xg10 := Xg10.chg cg hg9
                  refine ⟨.inl rfl, ?_⟩
                  replace Bg10 := Bg10.chg cg (by omega)
                  replace HA := HA_g10.ext Xg10
                  replace HB := HB_g10.ext Xg10
                  replace H := H_g10.ext Xg10
                  replace J := J_g10.ext Xg10
                  replace E := E_g10.ext Xg10
                  replace B6 := B6_g10.ext Xg10
                  replace B7 := B7_g10.ext Xg10
                  try replace H3 := H3.chg Bo9 secZ_sl cg
                  try replace H4 := H4.chg Bo9 secZ_sl cg
                  have Bo10 := Bg10
                  refine wm_one 9 (by kernel_rfl) ?_; refine om_ef rfl (ef_storeW rfl rfl (by rw [H4.size]; kernel_rfl) Bg10 (by rw [H4.size]; rfl) H4.one) rfl ?_
                  rintro _ wn5_9 ⟨rfl, Bg10, cg⟩
                  replace Xg10 := Xg10.chg cg hg10
                  refine ⟨.inl rfl, ?_⟩
                  replace Bg9 := Bg9.chg cg (by omega)
                  replace HA := HA_g10.ext Xg10
                  replace HB := HB_g10.ext Xg10
                  replace H := H_g10.ext Xg10
                  replace J := J_g10.ext Xg10
                  replace E := E_g10.ext Xg10
                  replace B6 := B6_g10.ext Xg10
                  replace B7 := B7_g10.ext Xg10
                  try replace H3 := H3.chg Bo10 secZ_sl cg
                  try replace H4 := H4.chg Bo10 secZ_sl cg
                  refine wm_done (by kernel_rfl) ?_
                  refine wq_nop ?_
                  exact wq_join _ ⟨g9, g10, d3, d4, rfl, HA, HB, H, J, E, B6, B7, H3, H4, Bg9, Bg10⟩ ⟨rfl, rfl, rfl, rfl, rfl, rfl, trivial⟩
              · skip
                refine om_ef rfl (ef_alloc (Z := secZ) (by kernel_rfl)) rfl ?_
                rintro _ wn5_6 ⟨g9, rfl, Bg9, hg9, ex⟩
                have lg10_g9 : g10 < g9 := Nat.lt_of_lt_of_le Bg10.lt hg9
                replace hg9 := Nat.le_trans Xg10.size hg9
                refine ⟨.inr ex, ?_⟩
                replace HA := HA.ext ex
                replace HB := HB.ext ex
                replace H := H.ext ex
                replace J := J.ext ex
                replace E := E.ext ex
                replace B6 := B6.ext ex
                replace B7 := B7.ext ex
                replace Bg10 := Bg10.ext ex
                replace Xg10 := Xg10.ext ex
                refine wm_one 2 (by kernel_rfl) ?_; refine om_call rfl Try.func20 rfl rfl rfl (sof_any A n c xs cs x _ HA (by omega) H hsm) rfl ?_
                rintro e w3 ⟨d3, rfl, H3, ex⟩
                refine ⟨_, rfl, .inr ex, ?_⟩
                replace HA := HA.ext ex
                replace HB := HB.ext ex
                replace H := H.ext ex
                replace J := J.ext ex
                replace E := E.ext ex
                replace B6 := B6.ext ex
                replace B7 := B7.ext ex
                replace Bg10 := Bg10.ext ex
                replace Xg10 := Xg10.ext ex
                replace Bg9 := Bg9.ext ex
                skip
                refine wm_one 5 (by kernel_rfl) ?_; refine om_call rfl Try.func20 rfl rfl rfl (sof_any B m d ys ds y _ HB (by omega) J jsm) rfl ?_
                rintro e w4 ⟨d4, rfl, H4, ex⟩
                refine ⟨_, rfl, .inr ex, ?_⟩
                replace HA := HA.ext ex
                replace HB := HB.ext ex
                replace H := H.ext ex
                replace J := J.ext ex
                replace E := E.ext ex
                replace B6 := B6.ext ex
                replace B7 := B7.ext ex
                replace Bg10 := Bg10.ext ex
                replace Xg10 := Xg10.ext ex
                replace Bg9 := Bg9.ext ex
                replace H3 := H3.ext ex
                skip
                have Bo9 := Bg9
                refine wm_one 8 (by kernel_rfl) ?_; refine om_ef rfl (ef_storeW rfl rfl (by rw [H3.size]; kernel_rfl) Bg9 (by rw [H3.size]; rfl) H3.one) rfl ?_
                rintro _ wn5_8 ⟨rfl, Bg9, cg⟩
                replace Xg10 := Xg10.chg cg hg9
                refine ⟨.inl rfl, ?_⟩
                replace Bg10 := Bg10.chg cg (by omega)
                replace HA := HA_g10.ext Xg10
                replace HB := HB_g10.ext Xg10
                replace H := H_g10.ext Xg10
                replace J := J_g10.ext Xg10
                replace E := E_g10.ext Xg10
                replace B6 := B6_g10.ext Xg10
                replace B7 := B7_g10.ext Xg10
                try replace H3 := H3.chg Bo9 secZ_sl cg
                try replace H4 := H4.chg Bo9 secZ_sl cg
                have Bo10 := Bg10
                refine wm_one 9 (by kernel_rfl) ?_; refine om_ef rfl (ef_storeW rfl rfl (by rw [H4.size]; kernel_rfl) Bg10 (by rw [H4.size]; rfl) H4.one) rfl ?_
                rintro _ wn5_9 ⟨rfl, Bg10, cg⟩
                replace Xg10 := Xg10.chg cg hg10
                refine ⟨.inl rfl, ?_⟩
                replace Bg9 := Bg9.chg cg (by omega)
                replace HA := HA_g10.ext Xg10
                replace HB := HB_g10.ext Xg10
                replace H := H_g10.ext Xg10
                replace J := J_g10.ext Xg10
                replace E := E_g10.ext Xg10
                replace B6 := B6_g10.ext Xg10
                replace B7 := B7_g10.ext Xg10
                try replace H3 := H3.chg Bo10 secZ_sl cg
                try replace H4 := H4.chg Bo10 secZ_sl cg
                refine wm_done (by kernel_rfl) ?_
                refine wq_nop ?_
                exact wq_join _ ⟨g9, g10, d3, d4, rfl, HA, HB, H, J, E, B6, B7, H3, H4, Bg9, Bg10⟩ ⟨rfl, rfl, rfl, rfl, rfl, rfl, trivial⟩
          rintro L wj ⟨g9, g10, d3, d4, rfl, HA, HB, H, J, E, B6, B7, H3, H4, Bg9, Bg10⟩
          refine wq_then_norm (hK10 ?_)
          refine wc_seq ?_; intro K11 hK11
          have hs3 := secOf_l32 (c := x) (show xs.length = 32 by omega)
          have hs4 := secOf_l32 (c := y) (show ys.length = 32 by omega)
          refine wc_region ?_
          refine wl_y (y_move rfl) rfl ?_
          refine wl_y (y_move rfl) rfl ?_
          refine wl_call Try.func14 rfl rfl rfl (sameX_any A B n m c d _ _ _ HA HB (by omega) (by omega)) rfl ?_
          rintro e w5 ⟨rfl, ex⟩
          refine ⟨_, rfl, ?_⟩
          replace HA := HA.ext ex
          replace HB := HB.ext ex
          replace H := H.ext ex
          replace J := J.ext ex
          replace E := E.ext ex
          replace B6 := B6.ext ex
          replace B7 := B7.ext ex
          replace H3 := H3.ext ex
          replace H4 := H4.ext ex
          replace Bg9 := Bg9.ext ex
          replace Bg10 := Bg10.ext ex
          skip
          refine wl_yaskb (y_move rfl) rfl (fun hk => ?_) (fun hk => ?_)
          · skip
            refine wl_gy 43 rfl rfl (y_loadw rfl Try.underlying39 rfl (by rw [hz]; kernel_rfl) B6) rfl ?_
            refine wl_gy 43 rfl rfl (y_loadw rfl Try.underlying39 rfl (by rw [jz]; kernel_rfl) B7) rfl ?_
            refine wl_gcall 43 rfl rfl Try.func21 rfl rfl rfl (sameCtx_any cs ds x y _ H J hsm jsm) rfl ?_
            rintro e w6 ⟨r, hr, rfl, hrs, ex⟩
            refine ⟨_, rfl, ?_⟩
            replace HA := HA.ext ex
            replace HB := HB.ext ex
            replace H := H.ext ex
            replace J := J.ext ex
            replace E := E.ext ex
            replace B6 := B6.ext ex
            replace B7 := B7.ext ex
            replace H3 := H3.ext ex
            replace H4 := H4.ext ex
            replace Bg9 := Bg9.ext ex
            replace Bg10 := Bg10.ext ex
            skip
            refine wl_y (y_pickt rfl rfl) rfl ?_
            refine wl_y (y_assign rfl) rfl ?_
            refine wl_nil ?_
            refine wq_then_norm (hK11 ?_)
            refine wc_seq ?_; intro K12 hK12
            by_cases hxy : x = y
            · skip
              refine wc_draw (by kernel_rfl) 12 rfl ?_; intro wd7 ex hd7
              replace HA := HA.ext ex
              replace HB := HB.ext ex
              replace H := H.ext ex
              replace J := J.ext ex
              replace E := E.ext ex
              replace B6 := B6.ext ex
              replace B7 := B7.ext ex
              replace H3 := H3.ext ex
              replace H4 := H4.ext ex
              replace Bg9 := Bg9.ext ex
              replace Bg10 := Bg10.ext ex
              obtain ⟨A8, n8, c8, q8, K8⟩ := H3.get (i := 8) (by omega)
              obtain ⟨B8, m8, d8, p8, L8⟩ := H4.get (i := 8) (by omega)
              obtain ⟨A11, n11, c11, q11, K11⟩ := H3.get (i := 11) (by omega)
              obtain ⟨B11, m11, d11, p11, L11⟩ := H4.get (i := 11) (by omega)
              have z8 : n8 = 32 := by rw [← K8.1]; exact hs3 8 (by omega)
              have y8 : m8 = 32 := by rw [← L8.1]; exact hs4 8 (by omega)
              have z11 : n11 = 32 := by rw [← K11.1]; exact hs3 11 (by omega)
              have y11 : m11 = 32 := by rw [← L11.1]; exact hs4 11 (by omega)
              refine wm_y 0 rfl (by kernel_rfl) (y_fieldAddr (o := 8) (s := 1) (off := 0) (o' := 8) rfl Try.underlying42 rfl (by kernel_rfl) rfl rfl) rfl ?_
              refine wm_y 1 rfl (by kernel_rfl) (y_load1 rfl Try.underlying24 rfl (Bg9.get q8)) rfl ?_
              refine wm_y 2 rfl (by kernel_rfl) (y_fieldAddr (o := 8) (s := 1) (off := 0) (o' := 8) rfl Try.underlying42 rfl (by kernel_rfl) rfl rfl) rfl ?_
              refine wm_y 3 rfl (by kernel_rfl) (y_load1 rfl Try.underlying24 rfl (Bg10.get p8)) rfl ?_
              refine wm_y 5 rfl (by kernel_rfl) (y_fieldAddr (o := 11) (s := 1) (off := 0) (o' := 11) rfl Try.underlying42 rfl (by kernel_rfl) rfl rfl) rfl ?_
              refine wm_y 6 rfl (by kernel_rfl) (y_load1 rfl Try.underlying24 rfl (Bg9.get q11)) rfl ?_
              refine wm_y 7 rfl (by kernel_rfl) (y_fieldAddr (o := 11) (s := 1) (off := 0) (o' := 11) rfl Try.underlying42 rfl (by kernel_rfl) rfl rfl) rfl ?_
              refine wm_y 8 rfl (by kernel_rfl) (y_load1 rfl Try.underlying24 rfl (Bg10.get p11)) rfl ?_
              refine wm_one 4 (by kernel_rfl) ?_; refine om_call rfl Try.func14 rfl rfl rfl (sameX_any A8 B8 n8 m8 c8 d8 _ _ _ K8 L8 (by omega) (by omega)) rfl ?_
              rintro e w7 ⟨rfl, ex⟩
              refine ⟨_, rfl, .inr ex, ?_⟩
              replace HA := HA.ext ex
              replace HB := HB.ext ex
              replace H := H.ext ex
              replace J := J.ext ex
              replace E := E.ext ex
              replace B6 := B6.ext ex
              replace B7 := B7.ext ex
              replace H3 := H3.ext ex
              replace H4 := H4.ext ex
              replace Bg9 := Bg9.ext ex
              replace Bg10 := Bg10.ext ex
              replace K11 := K11.ext ex; replace L11 := L11.ext ex; rw [decide_eq_true (show (secOf xs x).getD 8 [] = (secOf ys y).getD 8 [] from by rw [of_decide_eq_true hk, hxy])]
              refine wm_one 9 (by kernel_rfl) ?_; refine om_call rfl Try.func14 rfl rfl rfl (sameX_any A11 B11 n11 m11 c11 d11 _ _ _ K11 L11 (by omega) (by omega)) rfl ?_
              rintro e w8 ⟨rfl, ex⟩
              refine ⟨_, rfl, .inr ex, ?_⟩
              replace HA := HA.ext ex
              replace HB := HB.ext ex
              replace H := H.ext ex
              replace J := J.ext ex
              replace E := E.ext ex
              replace B6 := B6.ext ex
              replace B7 := B7.ext ex
              replace H3 := H3.ext ex
              replace H4 := H4.ext ex
              replace Bg9 := Bg9.ext ex
              replace Bg10 := Bg10.ext ex
              rw [decide_eq_true (show (secOf xs x).getD 11 [] = (secOf ys y).getD 11 [] from by rw [of_decide_eq_true hk, hxy])]
              refine wm_y 10 rfl (by kernel_rfl) (y_assign rfl) rfl ?_
              refine wm_y 11 rfl (by kernel_rfl) (y_assign rfl) rfl ?_
              refine wm_done (by kernel_rfl) ?_
              refine wq_nop ?_
              refine wq_then_norm (hK12 ?_)
              refine wc_seq ?_; intro K13 hK13
              refine wc_seq ?_; intro K14 hK14
              refine wc_region ?_
              refine wl_y (y_move rfl) rfl ?_
              refine wl_nil ?_
              refine wq_then_norm (hK14 ?_)
              refine wc_true rfl (decide_eq_true (hrs.2 hxy)) ?_
              refine wc_seq ?_; intro K15 hK15
              refine wc_region ?_
              refine wl_y (y_move rfl) rfl ?_
              refine wl_y (y_move rfl) rfl ?_
              refine wl_gy 60 rfl rfl (y_move rfl) rfl ?_
              refine wl_y (y_pickt rfl rfl) rfl ?_
              refine wl_y (y_move rfl) rfl ?_
              refine wl_gy 63 rfl rfl (y_loadw rfl Try.underlying42 rfl (by rw [H3.size]; kernel_rfl) Bg9) rfl ?_
              refine wl_gy 63 rfl rfl (y_loadw rfl Try.underlying42 rfl (by rw [H4.size]; kernel_rfl) Bg10) rfl ?_
              refine wl_gcall 63 rfl rfl Try.func22 rfl rfl rfl (rsSame_any d3 d4 _ _ _ H3 H4 (secOf_all (by omega)) (secOf_all (by omega))) rfl ?_
              rintro e w9 ⟨rfl, ex⟩
              refine ⟨_, rfl, ?_⟩
              replace HA := HA.ext ex
              replace HB := HB.ext ex
              replace H := H.ext ex
              replace J := J.ext ex
              replace E := E.ext ex
              replace B6 := B6.ext ex
              replace B7 := B7.ext ex
              replace H3 := H3.ext ex
              replace H4 := H4.ext ex
              replace Bg9 := Bg9.ext ex
              replace Bg10 := Bg10.ext ex
              rw [decide_eq_true (show secOf xs x = secOf ys y from by rw [of_decide_eq_true hk, hxy])]
              refine wl_y (y_pickt rfl rfl) rfl ?_
              refine wl_y (y_assign rfl) rfl ?_
              refine wl_nil ?_
              refine wq_then_norm (hK15 ?_)
              refine wc_ret ?_
              refine wq_then_ret ?_
              refine hret rfl ?_
              exact ⟨rfl, E⟩
            · skip
              refine wc_draw (by kernel_rfl) 12 rfl ?_; intro wd7 ex hd7
              replace HA := HA.ext ex
              replace HB := HB.ext ex
              replace H := H.ext ex
              replace J := J.ext ex
              replace E := E.ext ex
              replace B6 := B6.ext ex
              replace B7 := B7.ext ex
              replace H3 := H3.ext ex
              replace H4 := H4.ext ex
              replace Bg9 := Bg9.ext ex
              replace Bg10 := Bg10.ext ex
              obtain ⟨A8, n8, c8, q8, K8⟩ := H3.get (i := 8) (by omega)
              obtain ⟨B8, m8, d8, p8, L8⟩ := H4.get (i := 8) (by omega)
              obtain ⟨A11, n11, c11, q11, K11⟩ := H3.get (i := 11) (by omega)
              obtain ⟨B11, m11, d11, p11, L11⟩ := H4.get (i := 11) (by omega)
              have z8 : n8 = 32 := by rw [← K8.1]; exact hs3 8 (by omega)
              have y8 : m8 = 32 := by rw [← L8.1]; exact hs4 8 (by omega)
              have z11 : n11 = 32 := by rw [← K11.1]; exact hs3 11 (by omega)
              have y11 : m11 = 32 := by rw [← L11.1]; exact hs4 11 (by omega)
              refine wm_y 0 rfl (by kernel_rfl) (y_fieldAddr (o := 8) (s := 1) (off := 0) (o' := 8) rfl Try.underlying42 rfl (by kernel_rfl) rfl rfl) rfl ?_
              refine wm_y 1 rfl (by kernel_rfl) (y_load1 rfl Try.underlying24 rfl (Bg9.get q8)) rfl ?_
              refine wm_y 2 rfl (by kernel_rfl) (y_fieldAddr (o := 8) (s := 1) (off := 0) (o' := 8) rfl Try.underlying42 rfl (by kernel_rfl) rfl rfl) rfl ?_
              refine wm_y 3 rfl (by kernel_rfl) (y_load1 rfl Try.underlying24 rfl (Bg10.get p8)) rfl ?_
              refine wm_y 5 rfl (by kernel_rfl) (y_fieldAddr (o := 11) (s := 1) (off := 0) (o' := 11) rfl Try.underlying42 rfl (by kernel_rfl) rfl rfl) rfl ?_
              refine wm_y 6 rfl (by kernel_rfl) (y_load1 rfl Try.underlying24 rfl (Bg9.get q11)) rfl ?_
              refine wm_y 7 rfl (by kernel_rfl) (y_fieldAddr (o := 11) (s := 1) (off := 0) (o' := 11) rfl Try.underlying42 rfl (by kernel_rfl) rfl rfl) rfl ?_
              refine wm_y 8 rfl (by kernel_rfl) (y_load1 rfl Try.underlying24 rfl (Bg10.get p11)) rfl ?_
              refine wm_one 4 (by kernel_rfl) ?_; refine om_call rfl Try.func14 rfl rfl rfl (sameX_any A8 B8 n8 m8 c8 d8 _ _ _ K8 L8 (by omega) (by omega)) rfl ?_
              rintro e w7 ⟨rfl, ex⟩
              refine ⟨_, rfl, .inr ex, ?_⟩
              replace HA := HA.ext ex
              replace HB := HB.ext ex
              replace H := H.ext ex
              replace J := J.ext ex
              replace E := E.ext ex
              replace B6 := B6.ext ex
              replace B7 := B7.ext ex
              replace H3 := H3.ext ex
              replace H4 := H4.ext ex
              replace Bg9 := Bg9.ext ex
              replace Bg10 := Bg10.ext ex
              replace K11 := K11.ext ex; replace L11 := L11.ext ex
              refine wm_one 9 (by kernel_rfl) ?_; refine om_call rfl Try.func14 rfl rfl rfl (sameX_any A11 B11 n11 m11 c11 d11 _ _ _ K11 L11 (by omega) (by omega)) rfl ?_
              rintro e w8 ⟨rfl, ex⟩
              refine ⟨_, rfl, .inr ex, ?_⟩
              replace HA := HA.ext ex
              replace HB := HB.ext ex
              replace H := H.ext ex
              replace J := J.ext ex
              replace E := E.ext ex
              replace B6 := B6.ext ex
              replace B7 := B7.ext ex
              replace H3 := H3.ext ex
              replace H4 := H4.ext ex
              replace Bg9 := Bg9.ext ex
              replace Bg10 := Bg10.ext ex
              skip
              refine wm_y 10 rfl (by kernel_rfl) (y_assign rfl) rfl ?_
              refine wm_y 11 rfl (by kernel_rfl) (y_assign rfl) rfl ?_
              refine wm_done (by kernel_rfl) ?_
              refine wq_nop ?_
              refine wq_then_norm (hK12 ?_)
              refine wc_seq ?_; intro K16 hK16
              refine wc_seq ?_; intro K17 hK17
              refine wc_region ?_
              refine wl_y (y_move rfl) rfl ?_
              refine wl_nil ?_
              refine wq_then_norm (hK17 ?_)
              refine wc_false rfl (decide_eq_false fun h => hxy (hrs.1 h)) ?_
              refine wc_skip ?_
              refine wq_then_norm (hK16 ?_)
              refine wc_seq ?_; intro K18 hK18
              refine wc_seq ?_; intro K19 hK19
              have hne : ¬ (xs = ys ∧ x = y) := fun q => hxy q.2
              refine wc_region ?_
              refine wl_y (y_move rfl) rfl ?_
              refine wl_yaskb (y_move rfl) rfl (fun hcf => ?_) (fun hcf => ?_)
              · skip
                refine wl_gno 69 rfl rfl rfl rfl ?_
                refine wl_y (y_pickt rfl rfl) rfl ?_
                refine wl_nil ?_
                refine wq_then_norm (hK19 ?_)
                refine wc_true rfl rfl ?_
                refine wc_seq ?_; intro K20 hK20
                have hcol := binds (j := xs) (k := ys) (c := x) (d := y) (by omega) (by omega) hsm jsm hne (.inl (of_decide_eq_true hcf))
                refine wc_draw (by kernel_rfl) 8 rfl ?_; intro wd11 ex hd11
                replace HA := HA.ext ex
                replace HB := HB.ext ex
                replace H := H.ext ex
                replace J := J.ext ex
                replace E := E.ext ex
                replace B6 := B6.ext ex
                replace B7 := B7.ext ex
                replace H3 := H3.ext ex
                replace H4 := H4.ext ex
                replace Bg9 := Bg9.ext ex
                replace Bg10 := Bg10.ext ex
                refine wm_y 0 rfl (by kernel_rfl) (y_move rfl) rfl ?_
                refine wm_y 1 rfl (by kernel_rfl) (y_loadw rfl Try.underlying39 rfl (by rw [hz]; kernel_rfl) B6) rfl ?_
                refine wm_y 3 rfl (by kernel_rfl) (y_move rfl) rfl ?_
                refine wm_y 4 rfl (by kernel_rfl) (y_loadw rfl Try.underlying39 rfl (by rw [jz]; kernel_rfl) B7) rfl ?_
                refine wm_one 2 (by kernel_rfl) ?_; refine om_call rfl Try.func24 rfl rfl rfl (trail_any A n c xs cs x _ HA (by omega) H hsm) rfl ?_
                rintro e w10 ⟨A10, c10, rfl, T10, ex⟩
                refine ⟨_, rfl, .inr ex, ?_⟩
                replace HA := HA.ext ex
                replace HB := HB.ext ex
                replace H := H.ext ex
                replace J := J.ext ex
                replace E := E.ext ex
                replace B6 := B6.ext ex
                replace B7 := B7.ext ex
                replace H3 := H3.ext ex
                replace H4 := H4.ext ex
                replace Bg9 := Bg9.ext ex
                replace Bg10 := Bg10.ext ex
                skip
                refine wm_one 5 (by kernel_rfl) ?_; refine om_call rfl Try.func24 rfl rfl rfl (trail_any B m d ys ds y _ HB (by omega) J jsm) rfl ?_
                rintro e w11 ⟨A12, c12, rfl, T12, ex⟩
                refine ⟨_, rfl, .inr ex, ?_⟩
                replace HA := HA.ext ex
                replace HB := HB.ext ex
                replace H := H.ext ex
                replace J := J.ext ex
                replace E := E.ext ex
                replace B6 := B6.ext ex
                replace B7 := B7.ext ex
                replace H3 := H3.ext ex
                replace H4 := H4.ext ex
                replace Bg9 := Bg9.ext ex
                replace Bg10 := Bg10.ext ex
                replace T10 := T10.ext ex
                skip
                refine wm_one 6 (by kernel_rfl) ?_; refine om_call rfl Try.func23 rfl rfl rfl (collide_any A10 A12 8 8 c10 c12 _ _ _ T10 T12 (by omega) (by omega) (trailL_len hsm) (trailL_len jsm) hcol) rfl ?_
                rintro e w12 ⟨rfl, ex⟩
                refine ⟨_, rfl, .inr ex, ?_⟩
                replace HA := HA.ext ex
                replace HB := HB.ext ex
                replace H := H.ext ex
                replace J := J.ext ex
                replace E := E.ext ex
                replace B6 := B6.ext ex
                replace B7 := B7.ext ex
                replace H3 := H3.ext ex
                replace H4 := H4.ext ex
                replace Bg9 := Bg9.ext ex
                replace Bg10 := Bg10.ext ex
                replace T10 := T10.ext ex
                replace T12 := T12.ext ex
                refine wm_y 7 rfl (by kernel_rfl) (y_assign rfl) rfl ?_
                refine wm_done (by kernel_rfl) ?_
                refine wq_nop ?_
                refine wq_then_norm (hK20 ?_)
                refine wc_ret ?_
                refine wq_then_ret ?_
                refine hret rfl ?_
                exact ⟨rfl, E⟩
              · skip
                refine wl_gy 69 rfl rfl (y_move rfl) rfl ?_
                refine wl_y (y_pickf rfl rfl) rfl ?_
                refine wl_nil ?_
                refine wq_then_norm (hK19 ?_)
                refine wc_cond rfl (fun hc4 => ?_) (fun hc4 => ?_)
                · skip
                  refine wc_seq ?_; intro K21 hK21
                  have hcol := binds (j := xs) (k := ys) (c := x) (d := y) (by omega) (by omega) hsm jsm hne (.inr (of_decide_eq_true hc4))
                  refine wc_draw (by kernel_rfl) 8 rfl ?_; intro wd11 ex hd11
                  replace HA := HA.ext ex
                  replace HB := HB.ext ex
                  replace H := H.ext ex
                  replace J := J.ext ex
                  replace E := E.ext ex
                  replace B6 := B6.ext ex
                  replace B7 := B7.ext ex
                  replace H3 := H3.ext ex
                  replace H4 := H4.ext ex
                  replace Bg9 := Bg9.ext ex
                  replace Bg10 := Bg10.ext ex
                  refine wm_y 0 rfl (by kernel_rfl) (y_move rfl) rfl ?_
                  refine wm_y 1 rfl (by kernel_rfl) (y_loadw rfl Try.underlying39 rfl (by rw [hz]; kernel_rfl) B6) rfl ?_
                  refine wm_y 3 rfl (by kernel_rfl) (y_move rfl) rfl ?_
                  refine wm_y 4 rfl (by kernel_rfl) (y_loadw rfl Try.underlying39 rfl (by rw [jz]; kernel_rfl) B7) rfl ?_
                  refine wm_one 2 (by kernel_rfl) ?_; refine om_call rfl Try.func24 rfl rfl rfl (trail_any A n c xs cs x _ HA (by omega) H hsm) rfl ?_
                  rintro e w10 ⟨A10, c10, rfl, T10, ex⟩
                  refine ⟨_, rfl, .inr ex, ?_⟩
                  replace HA := HA.ext ex
                  replace HB := HB.ext ex
                  replace H := H.ext ex
                  replace J := J.ext ex
                  replace E := E.ext ex
                  replace B6 := B6.ext ex
                  replace B7 := B7.ext ex
                  replace H3 := H3.ext ex
                  replace H4 := H4.ext ex
                  replace Bg9 := Bg9.ext ex
                  replace Bg10 := Bg10.ext ex
                  skip
                  refine wm_one 5 (by kernel_rfl) ?_; refine om_call rfl Try.func24 rfl rfl rfl (trail_any B m d ys ds y _ HB (by omega) J jsm) rfl ?_
                  rintro e w11 ⟨A12, c12, rfl, T12, ex⟩
                  refine ⟨_, rfl, .inr ex, ?_⟩
                  replace HA := HA.ext ex
                  replace HB := HB.ext ex
                  replace H := H.ext ex
                  replace J := J.ext ex
                  replace E := E.ext ex
                  replace B6 := B6.ext ex
                  replace B7 := B7.ext ex
                  replace H3 := H3.ext ex
                  replace H4 := H4.ext ex
                  replace Bg9 := Bg9.ext ex
                  replace Bg10 := Bg10.ext ex
                  replace T10 := T10.ext ex
                  skip
                  refine wm_one 6 (by kernel_rfl) ?_; refine om_call rfl Try.func23 rfl rfl rfl (collide_any A10 A12 8 8 c10 c12 _ _ _ T10 T12 (by omega) (by omega) (trailL_len hsm) (trailL_len jsm) hcol) rfl ?_
                  rintro e w12 ⟨rfl, ex⟩
                  refine ⟨_, rfl, .inr ex, ?_⟩
                  replace HA := HA.ext ex
                  replace HB := HB.ext ex
                  replace H := H.ext ex
                  replace J := J.ext ex
                  replace E := E.ext ex
                  replace B6 := B6.ext ex
                  replace B7 := B7.ext ex
                  replace H3 := H3.ext ex
                  replace H4 := H4.ext ex
                  replace Bg9 := Bg9.ext ex
                  replace Bg10 := Bg10.ext ex
                  replace T10 := T10.ext ex
                  replace T12 := T12.ext ex
                  refine wm_y 7 rfl (by kernel_rfl) (y_assign rfl) rfl ?_
                  refine wm_done (by kernel_rfl) ?_
                  refine wq_nop ?_
                  refine wq_then_norm (hK21 ?_)
                  refine wc_ret ?_
                  refine wq_then_ret ?_
                  refine hret rfl ?_
                  exact ⟨rfl, E⟩
                · skip
                  refine wc_skip ?_
                  refine wq_then_norm (hK18 ?_)
                  refine wc_seq ?_; intro K22 hK22
                  refine wc_region ?_
                  refine wl_y (y_fieldAddr (o := 8) (s := 1) (off := 0) (o' := 8) rfl Try.underlying42 rfl (by kernel_rfl) rfl rfl) rfl ?_
                  refine wl_y (y_load1 rfl Try.underlying24 rfl (Bg9.get q8)) rfl ?_
                  refine wl_y (y_len_slice rfl Try.underlying24) rfl ?_
                  refine wl_y (Y.as (y_eql rfl rfl) (congrArg Value.bool (decide_eq_true (by omega)))) rfl ?_
                  refine wl_y (y_move rfl) rfl ?_
                  refine wl_gy 83 rfl rfl (y_fieldAddr (o := 11) (s := 1) (off := 0) (o' := 11) rfl Try.underlying42 rfl (by kernel_rfl) rfl rfl) rfl ?_
                  refine wl_gy 83 rfl rfl (y_load1 rfl Try.underlying24 rfl (Bg9.get q11)) rfl ?_
                  refine wl_gy 83 rfl rfl (y_len_slice rfl Try.underlying24) rfl ?_
                  refine wl_gy 83 rfl rfl (Y.as (y_eql rfl rfl) (congrArg Value.bool (decide_eq_true (by omega)))) rfl ?_
                  refine wl_y (y_pickt rfl rfl) rfl ?_
                  refine wl_y (y_assign rfl) rfl ?_
                  refine wl_nil ?_
                  refine wq_then_norm (hK22 ?_)
                  refine wc_ret ?_
                  refine hret rfl ?_
                  exact ⟨rfl, E⟩
          · skip
            refine wl_gno 43 rfl rfl rfl rfl ?_
            refine wl_gno 43 rfl rfl rfl rfl ?_
            refine wl_gno 43 rfl rfl rfl rfl ?_
            refine wl_y (y_pickf rfl rfl) rfl ?_
            refine wl_y (y_assign rfl) rfl ?_
            refine wl_nil ?_
            refine wq_then_norm (hK11 ?_)
            refine wc_seq ?_; intro K23 hK23
            refine wc_draw (by kernel_rfl) 12 rfl ?_; intro wd7 ex hd7
            replace HA := HA.ext ex
            replace HB := HB.ext ex
            replace H := H.ext ex
            replace J := J.ext ex
            replace E := E.ext ex
            replace B6 := B6.ext ex
            replace B7 := B7.ext ex
            replace H3 := H3.ext ex
            replace H4 := H4.ext ex
            replace Bg9 := Bg9.ext ex
            replace Bg10 := Bg10.ext ex
            obtain ⟨A8, n8, c8, q8, K8⟩ := H3.get (i := 8) (by omega)
            obtain ⟨B8, m8, d8, p8, L8⟩ := H4.get (i := 8) (by omega)
            obtain ⟨A11, n11, c11, q11, K11⟩ := H3.get (i := 11) (by omega)
            obtain ⟨B11, m11, d11, p11, L11⟩ := H4.get (i := 11) (by omega)
            have z8 : n8 = 32 := by rw [← K8.1]; exact hs3 8 (by omega)
            have y8 : m8 = 32 := by rw [← L8.1]; exact hs4 8 (by omega)
            have z11 : n11 = 32 := by rw [← K11.1]; exact hs3 11 (by omega)
            have y11 : m11 = 32 := by rw [← L11.1]; exact hs4 11 (by omega)
            refine wm_y 0 rfl (by kernel_rfl) (y_fieldAddr (o := 8) (s := 1) (off := 0) (o' := 8) rfl Try.underlying42 rfl (by kernel_rfl) rfl rfl) rfl ?_
            refine wm_y 1 rfl (by kernel_rfl) (y_load1 rfl Try.underlying24 rfl (Bg9.get q8)) rfl ?_
            refine wm_y 2 rfl (by kernel_rfl) (y_fieldAddr (o := 8) (s := 1) (off := 0) (o' := 8) rfl Try.underlying42 rfl (by kernel_rfl) rfl rfl) rfl ?_
            refine wm_y 3 rfl (by kernel_rfl) (y_load1 rfl Try.underlying24 rfl (Bg10.get p8)) rfl ?_
            refine wm_y 5 rfl (by kernel_rfl) (y_fieldAddr (o := 11) (s := 1) (off := 0) (o' := 11) rfl Try.underlying42 rfl (by kernel_rfl) rfl rfl) rfl ?_
            refine wm_y 6 rfl (by kernel_rfl) (y_load1 rfl Try.underlying24 rfl (Bg9.get q11)) rfl ?_
            refine wm_y 7 rfl (by kernel_rfl) (y_fieldAddr (o := 11) (s := 1) (off := 0) (o' := 11) rfl Try.underlying42 rfl (by kernel_rfl) rfl rfl) rfl ?_
            refine wm_y 8 rfl (by kernel_rfl) (y_load1 rfl Try.underlying24 rfl (Bg10.get p11)) rfl ?_
            refine wm_one 4 (by kernel_rfl) ?_; refine om_call rfl Try.func14 rfl rfl rfl (sameX_any A8 B8 n8 m8 c8 d8 _ _ _ K8 L8 (by omega) (by omega)) rfl ?_
            rintro e w7 ⟨rfl, ex⟩
            refine ⟨_, rfl, .inr ex, ?_⟩
            replace HA := HA.ext ex
            replace HB := HB.ext ex
            replace H := H.ext ex
            replace J := J.ext ex
            replace E := E.ext ex
            replace B6 := B6.ext ex
            replace B7 := B7.ext ex
            replace H3 := H3.ext ex
            replace H4 := H4.ext ex
            replace Bg9 := Bg9.ext ex
            replace Bg10 := Bg10.ext ex
            replace K11 := K11.ext ex; replace L11 := L11.ext ex
            refine wm_one 9 (by kernel_rfl) ?_; refine om_call rfl Try.func14 rfl rfl rfl (sameX_any A11 B11 n11 m11 c11 d11 _ _ _ K11 L11 (by omega) (by omega)) rfl ?_
            rintro e w8 ⟨rfl, ex⟩
            refine ⟨_, rfl, .inr ex, ?_⟩
            replace HA := HA.ext ex
            replace HB := HB.ext ex
            replace H := H.ext ex
            replace J := J.ext ex
            replace E := E.ext ex
            replace B6 := B6.ext ex
            replace B7 := B7.ext ex
            replace H3 := H3.ext ex
            replace H4 := H4.ext ex
            replace Bg9 := Bg9.ext ex
            replace Bg10 := Bg10.ext ex
            skip
            refine wm_y 10 rfl (by kernel_rfl) (y_assign rfl) rfl ?_
            refine wm_y 11 rfl (by kernel_rfl) (y_assign rfl) rfl ?_
            refine wm_done (by kernel_rfl) ?_
            refine wq_nop ?_
            refine wq_then_norm (hK23 ?_)
            refine wc_seq ?_; intro K24 hK24
            refine wc_seq ?_; intro K25 hK25
            refine wc_region ?_
            refine wl_y (y_move rfl) rfl ?_
            refine wl_nil ?_
            refine wq_then_norm (hK25 ?_)
            refine wc_false rfl rfl ?_
            refine wc_skip ?_
            refine wq_then_norm (hK24 ?_)
            refine wc_seq ?_; intro K26 hK26
            refine wc_seq ?_; intro K27 hK27
            have hne : ¬ (xs = ys ∧ x = y) := fun q => by simp [q.1] at hk
            refine wc_region ?_
            refine wl_y (y_move rfl) rfl ?_
            refine wl_yaskb (y_move rfl) rfl (fun hcf => ?_) (fun hcf => ?_)
            · skip
              refine wl_gno 69 rfl rfl rfl rfl ?_
              refine wl_y (y_pickt rfl rfl) rfl ?_
              refine wl_nil ?_
              refine wq_then_norm (hK27 ?_)
              refine wc_true rfl rfl ?_
              refine wc_seq ?_; intro K28 hK28
              have hcol := binds (j := xs) (k := ys) (c := x) (d := y) (by omega) (by omega) hsm jsm hne (.inl (of_decide_eq_true hcf))
              refine wc_draw (by kernel_rfl) 8 rfl ?_; intro wd11 ex hd11
              replace HA := HA.ext ex
              replace HB := HB.ext ex
              replace H := H.ext ex
              replace J := J.ext ex
              replace E := E.ext ex
              replace B6 := B6.ext ex
              replace B7 := B7.ext ex
              replace H3 := H3.ext ex
              replace H4 := H4.ext ex
              replace Bg9 := Bg9.ext ex
              replace Bg10 := Bg10.ext ex
              refine wm_y 0 rfl (by kernel_rfl) (y_move rfl) rfl ?_
              refine wm_y 1 rfl (by kernel_rfl) (y_loadw rfl Try.underlying39 rfl (by rw [hz]; kernel_rfl) B6) rfl ?_
              refine wm_y 3 rfl (by kernel_rfl) (y_move rfl) rfl ?_
              refine wm_y 4 rfl (by kernel_rfl) (y_loadw rfl Try.underlying39 rfl (by rw [jz]; kernel_rfl) B7) rfl ?_
              refine wm_one 2 (by kernel_rfl) ?_; refine om_call rfl Try.func24 rfl rfl rfl (trail_any A n c xs cs x _ HA (by omega) H hsm) rfl ?_
              rintro e w10 ⟨A10, c10, rfl, T10, ex⟩
              refine ⟨_, rfl, .inr ex, ?_⟩
              replace HA := HA.ext ex
              replace HB := HB.ext ex
              replace H := H.ext ex
              replace J := J.ext ex
              replace E := E.ext ex
              replace B6 := B6.ext ex
              replace B7 := B7.ext ex
              replace H3 := H3.ext ex
              replace H4 := H4.ext ex
              replace Bg9 := Bg9.ext ex
              replace Bg10 := Bg10.ext ex
              skip
              refine wm_one 5 (by kernel_rfl) ?_; refine om_call rfl Try.func24 rfl rfl rfl (trail_any B m d ys ds y _ HB (by omega) J jsm) rfl ?_
              rintro e w11 ⟨A12, c12, rfl, T12, ex⟩
              refine ⟨_, rfl, .inr ex, ?_⟩
              replace HA := HA.ext ex
              replace HB := HB.ext ex
              replace H := H.ext ex
              replace J := J.ext ex
              replace E := E.ext ex
              replace B6 := B6.ext ex
              replace B7 := B7.ext ex
              replace H3 := H3.ext ex
              replace H4 := H4.ext ex
              replace Bg9 := Bg9.ext ex
              replace Bg10 := Bg10.ext ex
              replace T10 := T10.ext ex
              skip
              refine wm_one 6 (by kernel_rfl) ?_; refine om_call rfl Try.func23 rfl rfl rfl (collide_any A10 A12 8 8 c10 c12 _ _ _ T10 T12 (by omega) (by omega) (trailL_len hsm) (trailL_len jsm) hcol) rfl ?_
              rintro e w12 ⟨rfl, ex⟩
              refine ⟨_, rfl, .inr ex, ?_⟩
              replace HA := HA.ext ex
              replace HB := HB.ext ex
              replace H := H.ext ex
              replace J := J.ext ex
              replace E := E.ext ex
              replace B6 := B6.ext ex
              replace B7 := B7.ext ex
              replace H3 := H3.ext ex
              replace H4 := H4.ext ex
              replace Bg9 := Bg9.ext ex
              replace Bg10 := Bg10.ext ex
              replace T10 := T10.ext ex
              replace T12 := T12.ext ex
              refine wm_y 7 rfl (by kernel_rfl) (y_assign rfl) rfl ?_
              refine wm_done (by kernel_rfl) ?_
              refine wq_nop ?_
              refine wq_then_norm (hK28 ?_)
              refine wc_ret ?_
              refine wq_then_ret ?_
              refine hret rfl ?_
              exact ⟨rfl, E⟩
            · skip
              refine wl_gy 69 rfl rfl (y_move rfl) rfl ?_
              refine wl_y (y_pickf rfl rfl) rfl ?_
              refine wl_nil ?_
              refine wq_then_norm (hK27 ?_)
              refine wc_cond rfl (fun hc4 => ?_) (fun hc4 => ?_)
              · skip
                refine wc_seq ?_; intro K29 hK29
                have hcol := binds (j := xs) (k := ys) (c := x) (d := y) (by omega) (by omega) hsm jsm hne (.inr (of_decide_eq_true hc4))
                refine wc_draw (by kernel_rfl) 8 rfl ?_; intro wd11 ex hd11
                replace HA := HA.ext ex
                replace HB := HB.ext ex
                replace H := H.ext ex
                replace J := J.ext ex
                replace E := E.ext ex
                replace B6 := B6.ext ex
                replace B7 := B7.ext ex
                replace H3 := H3.ext ex
                replace H4 := H4.ext ex
                replace Bg9 := Bg9.ext ex
                replace Bg10 := Bg10.ext ex
                refine wm_y 0 rfl (by kernel_rfl) (y_move rfl) rfl ?_
                refine wm_y 1 rfl (by kernel_rfl) (y_loadw rfl Try.underlying39 rfl (by rw [hz]; kernel_rfl) B6) rfl ?_
                refine wm_y 3 rfl (by kernel_rfl) (y_move rfl) rfl ?_
                refine wm_y 4 rfl (by kernel_rfl) (y_loadw rfl Try.underlying39 rfl (by rw [jz]; kernel_rfl) B7) rfl ?_
                refine wm_one 2 (by kernel_rfl) ?_; refine om_call rfl Try.func24 rfl rfl rfl (trail_any A n c xs cs x _ HA (by omega) H hsm) rfl ?_
                rintro e w10 ⟨A10, c10, rfl, T10, ex⟩
                refine ⟨_, rfl, .inr ex, ?_⟩
                replace HA := HA.ext ex
                replace HB := HB.ext ex
                replace H := H.ext ex
                replace J := J.ext ex
                replace E := E.ext ex
                replace B6 := B6.ext ex
                replace B7 := B7.ext ex
                replace H3 := H3.ext ex
                replace H4 := H4.ext ex
                replace Bg9 := Bg9.ext ex
                replace Bg10 := Bg10.ext ex
                skip
                refine wm_one 5 (by kernel_rfl) ?_; refine om_call rfl Try.func24 rfl rfl rfl (trail_any B m d ys ds y _ HB (by omega) J jsm) rfl ?_
                rintro e w11 ⟨A12, c12, rfl, T12, ex⟩
                refine ⟨_, rfl, .inr ex, ?_⟩
                replace HA := HA.ext ex
                replace HB := HB.ext ex
                replace H := H.ext ex
                replace J := J.ext ex
                replace E := E.ext ex
                replace B6 := B6.ext ex
                replace B7 := B7.ext ex
                replace H3 := H3.ext ex
                replace H4 := H4.ext ex
                replace Bg9 := Bg9.ext ex
                replace Bg10 := Bg10.ext ex
                replace T10 := T10.ext ex
                skip
                refine wm_one 6 (by kernel_rfl) ?_; refine om_call rfl Try.func23 rfl rfl rfl (collide_any A10 A12 8 8 c10 c12 _ _ _ T10 T12 (by omega) (by omega) (trailL_len hsm) (trailL_len jsm) hcol) rfl ?_
                rintro e w12 ⟨rfl, ex⟩
                refine ⟨_, rfl, .inr ex, ?_⟩
                replace HA := HA.ext ex
                replace HB := HB.ext ex
                replace H := H.ext ex
                replace J := J.ext ex
                replace E := E.ext ex
                replace B6 := B6.ext ex
                replace B7 := B7.ext ex
                replace H3 := H3.ext ex
                replace H4 := H4.ext ex
                replace Bg9 := Bg9.ext ex
                replace Bg10 := Bg10.ext ex
                replace T10 := T10.ext ex
                replace T12 := T12.ext ex
                refine wm_y 7 rfl (by kernel_rfl) (y_assign rfl) rfl ?_
                refine wm_done (by kernel_rfl) ?_
                refine wq_nop ?_
                refine wq_then_norm (hK29 ?_)
                refine wc_ret ?_
                refine wq_then_ret ?_
                refine hret rfl ?_
                exact ⟨rfl, E⟩
              · skip
                refine wc_skip ?_
                refine wq_then_norm (hK26 ?_)
                refine wc_seq ?_; intro K30 hK30
                refine wc_region ?_
                refine wl_y (y_fieldAddr (o := 8) (s := 1) (off := 0) (o' := 8) rfl Try.underlying42 rfl (by kernel_rfl) rfl rfl) rfl ?_
                refine wl_y (y_load1 rfl Try.underlying24 rfl (Bg9.get q8)) rfl ?_
                refine wl_y (y_len_slice rfl Try.underlying24) rfl ?_
                refine wl_y (Y.as (y_eql rfl rfl) (congrArg Value.bool (decide_eq_true (by omega)))) rfl ?_
                refine wl_y (y_move rfl) rfl ?_
                refine wl_gy 83 rfl rfl (y_fieldAddr (o := 11) (s := 1) (off := 0) (o' := 11) rfl Try.underlying42 rfl (by kernel_rfl) rfl rfl) rfl ?_
                refine wl_gy 83 rfl rfl (y_load1 rfl Try.underlying24 rfl (Bg9.get q11)) rfl ?_
                refine wl_gy 83 rfl rfl (y_len_slice rfl Try.underlying24) rfl ?_
                refine wl_gy 83 rfl rfl (Y.as (y_eql rfl rfl) (congrArg Value.bool (decide_eq_true (by omega)))) rfl ?_
                refine wl_y (y_pickt rfl rfl) rfl ?_
                refine wl_y (y_assign rfl) rfl ?_
                refine wl_nil ?_
                refine wq_then_norm (hK30 ?_)
                refine wc_ret ?_
                refine hret rfl ?_
                exact ⟨rfl, E⟩
end Go.Proofs.Ytopbahbhldgbbaa
