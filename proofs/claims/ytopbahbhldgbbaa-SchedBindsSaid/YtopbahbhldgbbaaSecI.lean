/- Two trails that collide, two contexts that are one: what the reference hands back. -/
import Derived.Test.YtopbahbhldgbbaaSecH
namespace Go.Proofs.Ytopbahbhldgbbaa
open Go.RowKit
attribute [local irreducible] Y Ef WL WC WK WQ WM OpM WN WF OpN
def Co (x y : List UInt8) : Prop := x ≠ y ∧ Sha.sum x = Sha.sum y
theorem co_none {xss yss : List (List UInt8)} (hc : Collides xss yss) (h : ∀ j, j < xss.length → ∀ k, k < yss.length → ¬ Co (xss.getD j []) (yss.getD k [])) : False := by
  obtain ⟨x, hx, y, hy, h1, h2⟩ := hc
  obtain ⟨j, hj, rfl⟩ := List.getElem_of_mem hx
  obtain ⟨k, hk, rfl⟩ := List.getElem_of_mem hy
  refine h j hj k hk ?_
  rw [List.getD_eq_getElem?_getD, List.getElem?_eq_getElem hj, List.getD_eq_getElem?_getD, List.getElem?_eq_getElem hk]
  exact ⟨h1, h2⟩
theorem co_pos {xss yss : List (List UInt8)} (hc : Collides xss yss) : 0 < xss.length ∧ 0 < yss.length := by
  obtain ⟨x, hx, y, hy, h1, h2⟩ := hc
  exact ⟨List.length_pos_of_mem hx, List.length_pos_of_mem hy⟩
theorem getD_le {xss : List (List UInt8)} {c : Nat} (hx : ∀ x ∈ xss, x.length ≤ c) (i : Nat) : (xss.getD i []).length ≤ c := by
  rw [List.getD_eq_getElem?_getD]
  by_cases h : i < xss.length
  · rw [List.getElem?_eq_getElem h]; exact hx _ (List.getElem_mem _)
  · rw [List.getElem?_eq_none (by omega)]; exact Nat.zero_le _
theorem collide_any (A B : Option Addr) (n m c d : Nat) (xss yss : List (List UInt8)) (w : World) (HA : Bss w A n xss) (HB : Bss w B m yss) (hn : n ≤ 1000000) (hm : m ≤ 1000000) (hx : ∀ x ∈ xss, x.length ≤ 10000000) (hy : ∀ x ∈ yss, x.length ≤ 10000000) (hc : Collides xss yss) :
    Calls Try.prog 23 #[.slice A n c, .slice B m d] w fun e w' => e = .returned (.bool true) ∧ Ext w w' := by
  have hl1 := HA.1; have hl2 := HB.1
  have hp := co_pos hc
  obtain ⟨ba, oa, _, _, _, _, hA, _⟩ := Bss.get HA (k := 0) (by omega)
  obtain ⟨bb, ob, _, _, _, _, hB, _⟩ := Bss.get HB (k := 0) (by omega)
  subst hA; subst hB
  have HA0 := HA; have HB0 := HB
  refine vc_enter1 44 Try.func23 rfl rfl rfl rfl ?_
  intro Q hret
  refine wc_seq ?_; intro K1 hK1
  refine wc_region ?_
  refine wl_y (y_assign rfl) rfl ?_
  refine wl_nil ?_
  refine wq_then_norm (hK1 ?_)
  refine wc_seq ?_; intro K2 hK2
  refine wc_seq ?_; intro K3 hK3
  refine wc_region ?_
  refine wl_y (y_assign rfl) rfl ?_
  refine wl_nil ?_
  refine wq_then_norm (hK3 ?_)
  refine wc_block ?_
  refine wc_loop (fun n' L wr => ∃ i : Nat, L = [(0, .slice (some ⟨ba, oa, none⟩) n c), (1, .slice (some ⟨bb, ob, none⟩) m d), (5, .int .i64 (i : Int))] ∧ n' = n - i ∧ (i ≤ n ∧ Ext w wr ∧ ∀ j, j < i → ∀ k, k < m → ¬ Co (xss.getD j []) (yss.getD k []))) _ _ ⟨0, rfl, rfl, by omega, Ext.refl _, fun j hj => by omega⟩ ⟨rfl, rfl, (by first | rfl | exact congrArg some (int_val (by omega))), trivial⟩ ?_
  rintro KL1 n' L wr ⟨i, rfl, rfl, hi, E, ht⟩ hL1
  refine wc_seq ?_; intro K4 hK4
  refine wc_seq ?_; intro K5 hK5
  refine wc_region ?_
  refine wl_y (y_move rfl) rfl ?_
  refine wl_y (y_move rfl) rfl ?_
  refine wl_y (y_len_slice rfl Try.underlying22) rfl ?_
  refine wl_y (y_lss rfl rfl) rfl ?_
  refine wl_nil ?_
  refine wq_then_norm (hK5 ?_)
  refine wc_dec rfl (fun hc1 => ?_) (fun hc1 => ?_)
  · skip
    refine wc_skip ?_
    refine wq_then_norm (hK4 ?_)
    refine wc_seq ?_; intro K6 hK6
    refine wc_block ?_
    refine wc_seq ?_; intro K7 hK7
    obtain ⟨b1, o1, A1, m1, d1, x1, hA1, hx1, h1c, H1⟩ := Bss.get (HA0.ext E) (k := i) (by omega)
    injection hA1 with hA1
    injection hA1 with e7 e8 _
    subst e7; subst e8
    have z1 : m1 ≤ 10000000 := by rw [← H1.1, hx1.out]; exact getD_le hx _
    refine wc_region ?_
    refine wl_y (y_move rfl) rfl ?_
    refine wl_y (y_move rfl) rfl ?_
    refine wl_y (y_ixs1 rfl rfl Try.underlying22 (by kernel_rfl) rfl (by omega)) rfl ?_
    refine wl_y (y_load1 rfl Try.underlying24 rfl h1c) rfl ?_
    refine wl_call Try.func54 rfl rfl rfl (digest_any A1 m1 d1 x1 _ H1 (by omega)) rfl ?_
    rintro e w3 ⟨A3, c3, rfl, O3, ex⟩
    refine ⟨_, rfl, ?_⟩
    replace E := E.ext ex
    have H3 := O3.bs
    refine wl_y (y_assign rfl) rfl ?_
    refine wl_nil ?_
    refine wq_then_norm (hK7 ?_)
    refine wc_seq ?_; intro K8 hK8
    refine wc_region ?_
    refine wl_y (y_assign rfl) rfl ?_
    refine wl_nil ?_
    refine wq_then_norm (hK8 ?_)
    refine wc_block ?_
    refine wc_loop (fun n' L wq => ∃ k : Nat, L = [(0, .slice (some ⟨ba, oa, none⟩) n c), (1, .slice (some ⟨bb, ob, none⟩) m d), (5, .int .i64 (i : Int)), (6, .slice A3 32 c3), (7, .int .i64 (k : Int))] ∧ n' = m - k ∧ (k ≤ m ∧ Ext w wq ∧ Bs wq A3 32 (Sha.sum x1) ∧ ∀ j, j < k → ¬ Co x1 (yss.getD j []))) _ _ ⟨0, rfl, rfl, by omega, E, H3, fun j hj => by omega⟩ ⟨rfl, rfl, (by first | rfl | exact congrArg some (int_val (by omega))), rfl, (by first | rfl | exact congrArg some (int_val (by omega))), trivial⟩ ?_
    rintro KL2 n' L wq ⟨k, rfl, rfl, hk, F, H6, hu⟩ hL2
    refine wc_seq ?_; intro K9 hK9
    refine wc_seq ?_; intro K10 hK10
    refine wc_region ?_
    refine wl_y (y_move rfl) rfl ?_
    refine wl_y (y_move rfl) rfl ?_
    refine wl_y (y_len_slice rfl Try.underlying22) rfl ?_
    refine wl_y (y_lss rfl rfl) rfl ?_
    refine wl_nil ?_
    refine wq_then_norm (hK10 ?_)
    refine wc_dec rfl (fun hc2 => ?_) (fun hc2 => ?_)
    · skip
      refine wc_skip ?_
      refine wq_then_norm (hK9 ?_)
      refine wc_seq ?_; intro K11 hK11
      refine wc_block ?_
      refine wc_seq ?_; intro K12 hK12
      refine wc_draw (by kernel_rfl) 19 rfl ?_; intro wd8 ex hd8
      replace F := F.ext ex
      replace H6 := H6.ext ex
      obtain ⟨b3, o3, A4, m4, d4, x4, hA4, hx4, h4c, H4⟩ := Bss.get (HA0.ext F) (k := i) (by omega)
      injection hA4 with hA4
      injection hA4 with e1 e2 _
      subst e1; subst e2
      obtain ⟨b2, o2, A2, m2, d2, x2, hA2, hx2, h2c, H2⟩ := Bss.get (HB0.ext F) (k := k) (by omega)
      injection hA2 with hA2
      injection hA2 with e3 e4 _
      subst e3; subst e4
      have z2 : m2 ≤ 10000000 := by rw [← H2.1, hx2.out]; exact getD_le hy _
      have z4 : m4 ≤ 10000000 := by rw [← H4.1, hx4.out]; exact getD_le hx _
      have e4 : x4 = x1 := by rw [hx4.out, hx1.out]
      refine wm_y 0 rfl (by kernel_rfl) (y_move rfl) rfl ?_
      refine wm_y 1 rfl (by kernel_rfl) (y_move rfl) rfl ?_
      refine wm_y 2 rfl (by kernel_rfl) (y_ixs1 rfl rfl Try.underlying22 (by kernel_rfl) rfl (by omega)) rfl ?_
      refine wm_y 3 rfl (by kernel_rfl) (y_load1 rfl Try.underlying24 rfl h4c) rfl ?_
      refine wm_y 4 rfl (by kernel_rfl) (y_move rfl) rfl ?_
      refine wm_y 5 rfl (by kernel_rfl) (y_move rfl) rfl ?_
      refine wm_y 6 rfl (by kernel_rfl) (y_ixs1 rfl rfl Try.underlying22 (by kernel_rfl) rfl (by omega)) rfl ?_
      refine wm_y 7 rfl (by kernel_rfl) (y_load1 rfl Try.underlying24 rfl h2c) rfl ?_
      refine wm_one 8 (by kernel_rfl) ?_; refine om_call rfl Try.func14 rfl rfl rfl (sameX_any A4 A2 m4 m2 d4 d2 x4 x2 _ H4 H2 (by omega) (by omega)) rfl ?_
      rintro e w5 ⟨rfl, ex⟩
      refine ⟨_, rfl, .inr ex, ?_⟩
      replace F := F.ext ex
      replace H6 := H6.ext ex
      skip
      refine wm_yaskb 9 rfl (by kernel_rfl) (y_not rfl) rfl (fun hns => ?_) (fun hns => ?_)
      · skip
        refine wm_y 10 rfl (by kernel_rfl) (y_move rfl) rfl ?_
        refine wm_gy 11 rfl (by kernel_rfl) 35 rfl rfl (y_move rfl) rfl ?_
        refine wm_gy 12 rfl (by kernel_rfl) 35 rfl rfl (y_move rfl) rfl ?_
        refine wm_gy 13 rfl (by kernel_rfl) 35 rfl rfl (y_move rfl) rfl ?_
        obtain ⟨b5, o5, A5, m5, d5, x5, hA5, hx5, h5c, H5⟩ := Bss.get (HB0.ext F) (k := k) (by omega)
        injection hA5 with hA5
        injection hA5 with e5 e6 _
        subst e5; subst e6
        have z5 : m5 ≤ 10000000 := by rw [← H5.1, hx5.out]; exact getD_le hy _
        have e5 : x5 = x2 := by rw [hx5.out, hx2.out]
        refine wm_gy 14 rfl (by kernel_rfl) 35 rfl rfl (y_ixs1 rfl rfl Try.underlying22 (by kernel_rfl) rfl (by omega)) rfl ?_
        refine wm_gy 15 rfl (by kernel_rfl) 35 rfl rfl (y_load1 rfl Try.underlying24 rfl h5c) rfl ?_
        refine wm_one 16 (by kernel_rfl) ?_; refine om_gcall rfl 35 rfl rfl Try.func54 rfl rfl rfl (digest_any A5 m5 d5 x5 _ H5 (by omega)) rfl ?_
        rintro e w6 ⟨A7, c7, rfl, O7, ex⟩
        refine ⟨_, rfl, .inr ex, ?_⟩
        replace F := F.ext ex
        replace H6 := H6.ext ex
        skip
        refine wm_one 17 (by kernel_rfl) ?_; refine om_gcall rfl 35 rfl rfl Try.func14 rfl rfl rfl (sameX_any A3 A7 32 32 c3 c7 _ _ _ H6 O7.bs (by omega) (by omega)) rfl ?_
        rintro e w7 ⟨rfl, ex⟩
        refine ⟨_, rfl, .inr ex, ?_⟩
        replace F := F.ext ex
        replace H6 := H6.ext ex
        skip
        refine wm_y 18 rfl (by kernel_rfl) (y_pickt rfl rfl) rfl ?_
        refine wm_done (by kernel_rfl) ?_
        refine wq_nop ?_
        refine wq_then_norm (hK12 ?_)
        refine wc_cond rfl (fun hc3 => ?_) (fun hc3 => ?_)
        · skip
          refine wc_seq ?_; intro K13 hK13
          refine wc_region ?_
          refine wl_y (y_assign rfl) rfl ?_
          refine wl_nil ?_
          refine wq_then_norm (hK13 ?_)
          refine wc_ret ?_
          refine wq_blk_ret ?_
          refine wq_then_ret ?_
          refine wq_then_ret ?_
          refine wq_blk_ret ?_
          refine wq_blk_ret ?_
          refine wq_then_ret ?_
          refine wq_then_ret ?_
          refine wq_blk_ret ?_
          refine wq_then_ret ?_
          refine hret rfl ?_
          exact ⟨rfl, F⟩
        · skip
          refine wc_skip ?_
          refine wq_blk_norm ?_
          refine wq_then_norm (hK11 ?_)
          refine wc_region ?_
          refine wl_y (y_move rfl) rfl ?_
          refine wl_y (y_add rfl rfl (i64_ok (by omega) (by omega))) rfl ?_
          refine wl_y (y_assign rfl) rfl ?_
          refine wl_nil ?_
          refine wq_then_norm ?_
          refine hL2 _ _ ⟨k + 1, rfl, rfl, by omega, F, H6, fun j hj q => by
            rcases Nat.lt_or_eq_of_le (Nat.lt_succ_iff.1 hj) with hj | rfl
            · exact hu j hj q
            · rw [e5, hx2.out] at hc3; simp only [decide_eq_false_iff_not] at hc3; exact hc3 q.2⟩ (by omega) ⟨rfl, rfl, (by first | rfl | exact congrArg some (int_val (by omega))), rfl, (by first | rfl | exact congrArg some (int_val (by omega))), trivial⟩
      · skip
        refine wm_y 10 rfl (by kernel_rfl) (y_move rfl) rfl ?_
        refine wm_gno 11 rfl (by kernel_rfl) 35 rfl rfl rfl rfl ?_
        refine wm_gno 12 rfl (by kernel_rfl) 35 rfl rfl rfl rfl ?_
        refine wm_gno 13 rfl (by kernel_rfl) 35 rfl rfl rfl rfl ?_
        obtain ⟨b5, o5, A5, m5, d5, x5, hA5, hx5, h5c, H5⟩ := Bss.get (HB0.ext F) (k := k) (by omega)
        injection hA5 with hA5
        injection hA5 with e5 e6 _
        subst e5; subst e6
        have z5 : m5 ≤ 10000000 := by rw [← H5.1, hx5.out]; exact getD_le hy _
        have e5 : x5 = x2 := by rw [hx5.out, hx2.out]
        refine wm_gno 14 rfl (by kernel_rfl) 35 rfl rfl rfl rfl ?_
        refine wm_gno 15 rfl (by kernel_rfl) 35 rfl rfl rfl rfl ?_
        refine wm_gno 16 rfl (by kernel_rfl) 35 rfl rfl rfl rfl ?_
        refine wm_gno 17 rfl (by kernel_rfl) 35 rfl rfl rfl rfl ?_
        refine wm_y 18 rfl (by kernel_rfl) (y_pickf rfl rfl) rfl ?_
        refine wm_done (by kernel_rfl) ?_
        refine wq_nop ?_
        refine wq_then_norm (hK12 ?_)
        refine wc_false rfl rfl ?_
        refine wc_skip ?_
        refine wq_blk_norm ?_
        refine wq_then_norm (hK11 ?_)
        refine wc_region ?_
        refine wl_y (y_move rfl) rfl ?_
        refine wl_y (y_add rfl rfl (i64_ok (by omega) (by omega))) rfl ?_
        refine wl_y (y_assign rfl) rfl ?_
        refine wl_nil ?_
        refine wq_then_norm ?_
        refine hL2 _ _ ⟨k + 1, rfl, rfl, by omega, F, H6, fun j hj q => by
          rcases Nat.lt_or_eq_of_le (Nat.lt_succ_iff.1 hj) with hj | rfl
          · exact hu j hj q
          · rw [e4, hx2.out] at hns; simp at hns; exact q.1 hns⟩ (by omega) ⟨rfl, rfl, (by first | rfl | exact congrArg some (int_val (by omega))), rfl, (by first | rfl | exact congrArg some (int_val (by omega))), trivial⟩
    · skip
      refine wc_exit ?_
      refine wq_then_exit ?_
      refine wq_then_exit ?_
      refine wq_blk_hit ?_
      refine wq_blk_norm ?_
      refine wq_then_norm (hK6 ?_)
      refine wc_region ?_
      refine wl_y (y_move rfl) rfl ?_
      refine wl_y (y_add rfl rfl (i64_ok (by omega) (by omega))) rfl ?_
      refine wl_y (y_assign rfl) rfl ?_
      refine wl_nil ?_
      refine wq_then_norm ?_
      refine hL1 _ _ ⟨i + 1, rfl, rfl, by omega, F, fun j hj k hk q => by
        rcases Nat.lt_or_eq_of_le (Nat.lt_succ_iff.1 hj) with hj | rfl
        · exact ht j hj k hk q
        · rw [← hx1.out] at q; exact hu k (by omega) q⟩ (by omega) ⟨rfl, rfl, (by first | rfl | exact congrArg some (int_val (by omega))), trivial⟩
  · skip
    refine wc_exit ?_
    refine wq_then_exit ?_
    refine wq_then_exit ?_
    refine wq_blk_hit ?_
    refine wq_then_norm (hK2 ?_)
    refine wc_seq ?_; intro K14 hK14
    refine wc_region ?_
    refine wl_y (y_assign rfl) rfl ?_
    refine wl_nil ?_
    refine wq_then_norm (hK14 ?_)
    refine wc_ret ?_
    refine hret rfl ?_
    exact (co_none hc fun j hj k hk => ht j (by omega) k (by omega)).elim
theorem sameCtx_any (cs ds : Array Value) (x y : Ctx) (w : World) (H : CtxAt w cs x) (K : CtxAt w ds y) (hx : x.Small) (hy : y.Small) :
    Calls Try.prog 21 #[.agg cs, .agg ds] w fun e w' => ∃ p : Prop, ∃ h : Decidable p, e = .returned (.bool (decide p)) ∧ (p ↔ x = y) ∧ Ext w w' := by
  obtain ⟨A1, A2, A3, n1, c1, n2, c2, n3, c3, rfl, H1, H2, H3⟩ := H
  obtain ⟨B1, B2, B3, m1, d1, m2, d2, m3, d3, rfl, J1, J2, J3⟩ := K
  obtain ⟨x1, x2, x3, x4⟩ := hx
  obtain ⟨y1, y2, y3, y4⟩ := hy
  have hl1 := H1.1; have hl2 := H2.1; have hl3 := H3.1
  have kl1 := J1.1; have kl2 := J2.1; have kl3 := J3.1
  have E := Ext.refl w
  have hxy : ∀ a b : Ctx, a = b ↔ a.grp = b.grp ∧ a.ep = b.ep ∧ a.tree = b.tree ∧ a.trans = b.trans := fun a b => by cases a; cases b; simp
  refine vc_enter1 31 Try.func21 rfl rfl rfl rfl ?_
  intro Q hret
  refine wc_seq ?_; intro K1 hK1
  refine wc_region ?_
  refine wl_ef (ef_box (cs := ctxV A1 A2 A3 n1 c1 n2 c2 n3 c3 x.ep) rfl rfl) rfl ?_
  rintro _ w1 ⟨g1, rfl, P1, hg1, ex⟩
  replace E := E.ext ex
  replace H1 := H1.ext ex
  replace H2 := H2.ext ex
  replace H3 := H3.ext ex
  replace J1 := J1.ext ex
  replace J2 := J2.ext ex
  replace J3 := J3.ext ex
  skip
  refine wl_ef (ef_box (cs := ctxV B1 B2 B3 m1 d1 m2 d2 m3 d3 y.ep) rfl rfl) rfl ?_
  rintro _ w2 ⟨g2, rfl, P2, hg2, ex⟩
  replace E := E.ext ex
  replace H1 := H1.ext ex
  replace H2 := H2.ext ex
  replace H3 := H3.ext ex
  replace J1 := J1.ext ex
  replace J2 := J2.ext ex
  replace J3 := J3.ext ex
  replace P1 := P1.ext ex
  skip
  refine wl_y (y_assign rfl) rfl ?_
  refine wl_nil ?_
  refine wq_then_norm (hK1 ?_)
  refine wc_seq ?_; intro K2 hK2
  refine wc_region ?_
  refine wl_y (y_fieldAddr (o := 0) (s := 1) (off := 0) (o' := 0) rfl Try.underlying39 rfl (by kernel_rfl) rfl rfl) rfl ?_
  refine wl_y (y_load1 rfl Try.underlying24 rfl (P1.get (i := 0) rfl)) rfl ?_
  refine wl_y (y_fieldAddr (o := 0) (s := 1) (off := 0) (o' := 0) rfl Try.underlying39 rfl (by kernel_rfl) rfl rfl) rfl ?_
  refine wl_y (y_load1 rfl Try.underlying24 rfl (P2.get (i := 0) rfl)) rfl ?_
  refine wl_call Try.func14 rfl rfl rfl (sameX_any A1 B1 n1 m1 c1 d1 _ _ _ H1 J1 (by omega) (by omega)) rfl ?_
  rintro e w3 ⟨rfl, ex⟩
  refine ⟨_, rfl, ?_⟩
  replace E := E.ext ex
  replace H1 := H1.ext ex
  replace H2 := H2.ext ex
  replace H3 := H3.ext ex
  replace J1 := J1.ext ex
  replace J2 := J2.ext ex
  replace J3 := J3.ext ex
  replace P1 := P1.ext ex
  replace P2 := P2.ext ex
  skip
  refine wl_yaskb (y_move rfl) rfl (fun h1 => ?_) (fun h1 => ?_)
  · skip
    refine wl_gy 10 rfl rfl (y_fieldAddr (o := 1) (s := 1) (off := 0) (o' := 1) rfl Try.underlying39 rfl (by kernel_rfl) rfl rfl) rfl ?_
    refine wl_gy 10 rfl rfl (y_load1 rfl Try.underlying37 rfl (P1.get (i := 1) rfl)) rfl ?_
    refine wl_gy 10 rfl rfl (y_fieldAddr (o := 1) (s := 1) (off := 0) (o' := 1) rfl Try.underlying39 rfl (by kernel_rfl) rfl rfl) rfl ?_
    refine wl_gy 10 rfl rfl (y_load1 rfl Try.underlying37 rfl (P2.get (i := 1) rfl)) rfl ?_
    refine wl_gy 10 rfl rfl (y_eql rfl rfl) rfl ?_
    refine wl_y (y_pickt rfl rfl) rfl ?_
    refine wl_yask (y_move rfl) rfl (fun h2 => ?_) (fun h2 => ?_)
    · skip
      refine wl_gy 17 rfl rfl (y_fieldAddr (o := 2) (s := 1) (off := 0) (o' := 2) rfl Try.underlying39 rfl (by kernel_rfl) rfl rfl) rfl ?_
      refine wl_gy 17 rfl rfl (y_load1 rfl Try.underlying24 rfl (P1.get (i := 2) rfl)) rfl ?_
      refine wl_gy 17 rfl rfl (y_fieldAddr (o := 2) (s := 1) (off := 0) (o' := 2) rfl Try.underlying39 rfl (by kernel_rfl) rfl rfl) rfl ?_
      refine wl_gy 17 rfl rfl (y_load1 rfl Try.underlying24 rfl (P2.get (i := 2) rfl)) rfl ?_
      refine wl_gcall 17 rfl rfl Try.func14 rfl rfl rfl (sameX_any A2 B2 n2 m2 c2 d2 _ _ _ H2 J2 (by omega) (by omega)) rfl ?_
      rintro e w4 ⟨rfl, ex⟩
      refine ⟨_, rfl, ?_⟩
      replace E := E.ext ex
      replace H1 := H1.ext ex
      replace H2 := H2.ext ex
      replace H3 := H3.ext ex
      replace J1 := J1.ext ex
      replace J2 := J2.ext ex
      replace J3 := J3.ext ex
      replace P1 := P1.ext ex
      replace P2 := P2.ext ex
      skip
      refine wl_y (y_pickt rfl rfl) rfl ?_
      refine wl_yaskb (y_move rfl) rfl (fun h3 => ?_) (fun h3 => ?_)
      · skip
        refine wl_gy 24 rfl rfl (y_fieldAddr (o := 3) (s := 1) (off := 0) (o' := 3) rfl Try.underlying39 rfl (by kernel_rfl) rfl rfl) rfl ?_
        refine wl_gy 24 rfl rfl (y_load1 rfl Try.underlying24 rfl (P1.get (i := 3) rfl)) rfl ?_
        refine wl_gy 24 rfl rfl (y_fieldAddr (o := 3) (s := 1) (off := 0) (o' := 3) rfl Try.underlying39 rfl (by kernel_rfl) rfl rfl) rfl ?_
        refine wl_gy 24 rfl rfl (y_load1 rfl Try.underlying24 rfl (P2.get (i := 3) rfl)) rfl ?_
        refine wl_gcall 24 rfl rfl Try.func14 rfl rfl rfl (sameX_any A3 B3 n3 m3 c3 d3 _ _ _ H3 J3 (by omega) (by omega)) rfl ?_
        rintro e w5 ⟨rfl, ex⟩
        refine ⟨_, rfl, ?_⟩
        replace E := E.ext ex
        replace H1 := H1.ext ex
        replace H2 := H2.ext ex
        replace H3 := H3.ext ex
        replace J1 := J1.ext ex
        replace J2 := J2.ext ex
        replace J3 := J3.ext ex
        replace P1 := P1.ext ex
        replace P2 := P2.ext ex
        skip
        refine wl_y (y_pickt rfl rfl) rfl ?_
        refine wl_y (y_assign rfl) rfl ?_
        refine wl_nil ?_
        refine wq_then_norm (hK2 ?_)
        refine wc_ret ?_
        refine hret rfl ?_
        exact ⟨_, inferInstance, rfl, ⟨fun h => (hxy x y).2 ⟨by simpa using h1, by omega, by simpa using h3, h⟩, fun h => ((hxy x y).1 h).2.2.2⟩, E⟩
      · skip
        refine wl_gno 24 rfl rfl rfl rfl ?_
        refine wl_gno 24 rfl rfl rfl rfl ?_
        refine wl_gno 24 rfl rfl rfl rfl ?_
        refine wl_gno 24 rfl rfl rfl rfl ?_
        refine wl_gno 24 rfl rfl rfl rfl ?_
        refine wl_y (y_pickf rfl rfl) rfl ?_
        refine wl_y (y_assign rfl) rfl ?_
        refine wl_nil ?_
        refine wq_then_norm (hK2 ?_)
        refine wc_ret ?_
        refine hret rfl ?_
        exact ⟨False, inferInstance, rfl, ⟨False.elim, fun h => by simp [((hxy x y).1 h).2.2.1] at h3⟩, E⟩
    · skip
      refine wl_gno 17 rfl rfl rfl rfl ?_
      refine wl_gno 17 rfl rfl rfl rfl ?_
      refine wl_gno 17 rfl rfl rfl rfl ?_
      refine wl_gno 17 rfl rfl rfl rfl ?_
      refine wl_gno 17 rfl rfl rfl rfl ?_
      refine wl_y (y_pickf rfl rfl) rfl ?_
      refine wl_y (y_move rfl) rfl ?_
      refine wl_gno 24 rfl rfl rfl rfl ?_
      refine wl_gno 24 rfl rfl rfl rfl ?_
      refine wl_gno 24 rfl rfl rfl rfl ?_
      refine wl_gno 24 rfl rfl rfl rfl ?_
      refine wl_gno 24 rfl rfl rfl rfl ?_
      refine wl_y (y_pickf rfl rfl) rfl ?_
      refine wl_y (y_assign rfl) rfl ?_
      refine wl_nil ?_
      refine wq_then_norm (hK2 ?_)
      refine wc_ret ?_
      refine hret rfl ?_
      exact ⟨False, inferInstance, rfl, ⟨False.elim, fun h => h2 (by rw [((hxy x y).1 h).2.1])⟩, E⟩
  · skip
    refine wl_gno 10 rfl rfl rfl rfl ?_
    refine wl_gno 10 rfl rfl rfl rfl ?_
    refine wl_gno 10 rfl rfl rfl rfl ?_
    refine wl_gno 10 rfl rfl rfl rfl ?_
    refine wl_gno 10 rfl rfl rfl rfl ?_
    refine wl_y (y_pickf rfl rfl) rfl ?_
    refine wl_y (y_move rfl) rfl ?_
    refine wl_gno 17 rfl rfl rfl rfl ?_
    refine wl_gno 17 rfl rfl rfl rfl ?_
    refine wl_gno 17 rfl rfl rfl rfl ?_
    refine wl_gno 17 rfl rfl rfl rfl ?_
    refine wl_gno 17 rfl rfl rfl rfl ?_
    refine wl_y (y_pickf rfl rfl) rfl ?_
    refine wl_y (y_move rfl) rfl ?_
    refine wl_gno 24 rfl rfl rfl rfl ?_
    refine wl_gno 24 rfl rfl rfl rfl ?_
    refine wl_gno 24 rfl rfl rfl rfl ?_
    refine wl_gno 24 rfl rfl rfl rfl ?_
    refine wl_gno 24 rfl rfl rfl rfl ?_
    refine wl_y (y_pickf rfl rfl) rfl ?_
    refine wl_y (y_assign rfl) rfl ?_
    refine wl_nil ?_
    refine wq_then_norm (hK2 ?_)
    refine wc_ret ?_
    refine hret rfl ?_
    exact ⟨False, inferInstance, rfl, ⟨False.elim, fun h => by simp [((hxy x y).1 h).1] at h1⟩, E⟩
end Go.Proofs.Ytopbahbhldgbbaa
