/- The law NodeChecks: which leaves are checked. -/
import Derived.Test.YtopimmomkapdoaaGreatNdO
namespace Go.Proofs.YtopimmomkapdoaaGreat
open Go.RowKit
attribute [local irreducible] Y Ef WL WC WK WQ WM OpM WN WF OpN WJ OpJ
open Wire Nd
theorem leafU_small {l : Leaf} (h : (⟨0, l, Par.zero⟩ : Node).Small) : (leafU l).length ≤ 900 := by
  obtain ⟨f0, f1, f2, f4, _⟩ := h
  have f0 : l.box.length ≤ 200 := f0
  have f1 : l.sign.length ≤ 200 := f1
  have f2 : l.ident.length ≤ 200 := f2
  have f4 : l.parent.length ≤ 200 := f4
  have h0 := vec_le l.box; have h1 := vec_le l.sign; have h2 := vec_le l.ident; have h4 := vec_le l.parent
  unfold leafU
  simp only [List.length_append, List.length_singleton]
  split
  · omega
  · simp only [List.length_nil]; omega
theorem leafN_at {w : World} {h0 h1 h2 h4 h5 : Hd} {l : Leaf} (h : LeafAt w (leafV h0 h1 h2 l.src h4 h5) l) : NodeAt w (nodeV 0 h0 h1 h2 l.src h4 h5 nilH nilH nilH) ⟨0, l, Par.zero⟩ := by
  obtain ⟨j0, j1, j2, j4, j5, e, hs, q0, q1, q2, q4, q5⟩ := h
  have e0 : j0 = h0 ∧ j1 = h1 ∧ j2 = h2 ∧ j4 = h4 ∧ j5 = h5 := by
    unfold leafV at e
    simp only [Array.mk.injEq, List.cons.injEq, Value.slice.injEq, and_true, true_and] at e
    obtain ⟨a, b, c, d, f⟩ := e
    refine ⟨?_, ?_, ?_, ?_, ?_⟩
    · cases h0; cases j0; simp_all
    · cases h1; cases j1; simp_all
    · cases h2; cases j2; simp_all
    · cases h4; cases j4; simp_all
    · cases h5; cases j5; simp_all
  obtain ⟨rfl, rfl, rfl, rfl, rfl⟩ := e0
  exact ⟨_, _, _, _, _, nilH, nilH, nilH, rfl, (show 0 < 256 by omega), hs, q0, q1, q2, q4, q5, Bs.nil w none, Bs.nil w none, Zs.nil w none⟩
theorem chk_eq {l : Leaf} {gs : List UInt8} {z : Int} (h1 : okAt l z) (h2 : okLeaf l) : chk l gs z = Sg.holds l.sign (Sg.text lab.data.toList (leafT l gs z)) l.sig := by
  unfold chk; rw [decide_eq_true h1, decide_eq_true h2]; rfl
theorem chk_no {l : Leaf} {gs : List UInt8} {z : Int} (h : ¬ okAt l z ∨ ¬ okLeaf l) : chk l gs z = false := by
  unfold chk
  rcases h with h | h
  · rw [decide_eq_false h]; rfl
  · rw [decide_eq_false h, Bool.and_false]; rfl
set_option maxHeartbeats 1000000 in
theorem nodeChecks_law (cs : Array Value) (l : Leaf) (B : Option Addr) (m d : Nat) (gs : List UInt8) (z : Int) (w : World) (H : LeafAc w cs l) (HB : Bs w B m gs) (_hm : m ≤ maxLen) (_hz : (Lit.int .i64 z).wf = true) :
    Calls Tryz.prog 3 #[.agg cs, .slice B m d, .int .i64 z] w fun e w' => e = .returned (.bool true) ∧ Below w.heap.size w w' := by
  have HL := H.at
  have HL0 := HL
  have HC := H
  obtain ⟨g0, g1, g2, g4, g5, rfl, hs, ⟨b0, _⟩, ⟨b1, _⟩, ⟨b2, _⟩, ⟨b4, _⟩, ⟨b5, q5⟩⟩ := H
  have XL := leafN_at HL0
  have l1 := b1.1; have l5 := b5.1
  have E := Ext.refl w
  refine vc_enter1 52 Tryz.func3 rfl rfl rfl rfl ?_
  intro Q hret
  refine wc_seq ?_; intro K1 hK1
  refine wc_region ?_
  refine wl_ef (ef_box rfl rfl) rfl ?_
  rintro _ wB3 ⟨gB3, rfl, B3, hgB3, ex⟩
  have lB3 := B3.lt; have zB3 := ex.size
  replace E := E.ext ex
  refine wl_y (y_assign rfl) rfl ?_
  refine wl_nil ?_
  refine wq_then_norm (hK1 ?_)
  refine wc_seq ?_; intro K2 hK2
  refine wc_seq ?_; intro K3 hK3
  refine wc_region ?_
  refine wl_call Tryz.func6 rfl rfl rfl (alive16_any _) rfl ?_
  rintro e w1 ⟨rfl, ex⟩
  refine ⟨_, rfl, ?_⟩
  replace E := E.ext ex
  replace B3 := B3.ext ex
  refine wl_y (y_not rfl) rfl ?_
  refine wl_nil ?_
  refine wq_then_norm (hK3 ?_)
  refine wc_false rfl rfl ?_
  refine wc_skip ?_
  refine wq_then_norm (hK2 ?_)
  refine wc_seq ?_; intro K4 hK4
  refine wc_seq ?_; intro K5 hK5
  refine wc_region ?_
  refine wl_y (y_loadx (o := 0) (s := 6) rfl Tryz.underlying24 rfl (by kernel_rfl) B3 rfl) rfl ?_
  refine wl_y (y_build rfl (cells := nodeV 0 g0 g1 g2 l.src g4 g5 nilH nilH nilH) (by kernel_rfl)) rfl ?_
  refine wl_call Tryz.func7 rfl rfl rfl (small_any _ (XL.ext E)) rfl ?_
  rintro e w2 ⟨rfl, ex⟩
  refine ⟨_, rfl, ?_⟩
  replace E := E.ext ex
  replace B3 := B3.ext ex
  skip
  refine wl_y (y_not rfl) rfl ?_
  refine wl_yaskb (y_move rfl) rfl (fun u0 => ?_) (fun u0 => ?_)
  · skip
    refine wl_gno 14 rfl rfl rfl rfl ?_
    refine wl_gno 14 rfl rfl rfl rfl ?_
    refine wl_gno 14 rfl rfl rfl rfl ?_
    refine wl_y (y_pickt rfl rfl) rfl ?_
    refine wl_nil ?_
    refine wq_then_norm (hK5 ?_)
    refine wc_true rfl rfl ?_
    refine wc_seq ?_; intro K6 hK6
    refine wc_region ?_
    refine wl_y (y_assign rfl) rfl ?_
    refine wl_nil ?_
    refine wq_then_norm (hK6 ?_)
    refine wc_ret ?_
    refine wq_then_ret ?_
    refine hret rfl ?_
    exact ⟨rfl, E⟩
  · skip
    refine wl_gy 14 rfl rfl (y_move rfl) rfl ?_
    refine wl_gy 14 rfl rfl (y_len_slice rfl Tryz.underlying22) rfl ?_
    refine wl_gy 14 rfl rfl (y_gtr rfl rfl) rfl ?_
    refine wl_y (y_pickf rfl rfl) rfl ?_
    refine wl_nil ?_
    refine wq_then_norm (hK5 ?_)
    refine wc_dec rfl (fun hc2 => ?_) (fun hc2 => ?_)
    · skip
      refine wc_seq ?_; intro K7 hK7
      refine wc_region ?_
      refine wl_y (y_assign rfl) rfl ?_
      refine wl_nil ?_
      refine wq_then_norm (hK7 ?_)
      refine wc_ret ?_
      refine wq_then_ret ?_
      refine hret rfl ?_
      exact ⟨rfl, E⟩
    · skip
      refine wc_skip ?_
      refine wq_then_norm (hK4 ?_)
      refine wc_seq ?_; intro K8 hK8
      refine wc_region ?_
      refine wl_y (y_loadx (o := 0) (s := 6) rfl Tryz.underlying24 rfl (by kernel_rfl) B3 rfl) rfl ?_
      refine wl_y (y_move rfl) rfl ?_
      refine wl_y (y_move rfl) rfl ?_
      have sl : (⟨0, l, Par.zero⟩ : Node).Small := by simpa using u0
      have hf : l.Fit := sl.fit.1
      have hU := leafU_small sl
      have s1 : l.sign.length ≤ 200 := sl.2.1
      have s5 : l.sig.length ≤ 200 := sl.2.2.2.2.1
      refine wl_call Tryz.func8 rfl rfl rfl (checkLeaf_any _ (HC.ext E) hf (by omega) (by omega) (by omega) (HB.ext E) (by omega)) rfl ?_
      rintro e w3 ⟨rfl, ex⟩
      refine ⟨_, rfl, ?_⟩
      replace E := E.ext ex
      replace B3 := B3.ext ex
      skip
      refine wl_y (y_assign rfl) rfl ?_
      refine wl_nil ?_
      refine wq_then_norm (hK8 ?_)
      refine wc_seq ?_; intro K9 hK9
      refine wc_seq ?_; intro K10 hK10
      refine wc_region ?_
      refine wl_y (y_loadx (o := 0) (s := 6) rfl Tryz.underlying24 rfl (by kernel_rfl) B3 rfl) rfl ?_
      refine wl_call Tryz.func9 rfl rfl rfl (rrightLeaf_any _ (HL.ext E)) rfl ?_
      rintro e w4 ⟨rfl, ex⟩
      refine ⟨_, rfl, ?_⟩
      replace E := E.ext ex
      replace B3 := B3.ext ex
      skip
      refine wl_y (y_not rfl) rfl ?_
      refine wl_yaskb (y_move rfl) rfl (fun u1 => ?_) (fun u1 => ?_)
      · skip
        refine wl_gno 26 rfl rfl rfl rfl ?_
        refine wl_gno 26 rfl rfl rfl rfl ?_
        refine wl_gno 26 rfl rfl rfl rfl ?_
        refine wl_gno 26 rfl rfl rfl rfl ?_
        refine wl_gun 30 rfl rfl rfl ?_
        refine wl_gun 30 rfl rfl rfl ?_
        refine wl_gun 30 rfl rfl rfl ?_
        refine wl_gun 33 rfl rfl rfl ?_
        refine wl_gun 33 rfl rfl rfl ?_
        refine wl_gun 30 rfl rfl rfl ?_
        refine wl_gno 26 rfl rfl rfl rfl ?_
        refine wl_y (y_pickt rfl rfl) rfl ?_
        refine wl_nil ?_
        refine wq_then_norm (hK10 ?_)
        refine wc_true rfl rfl ?_
        refine wc_seq ?_; intro K11 hK11
        refine wc_region ?_
        refine wl_y (y_move rfl) rfl ?_
        refine wl_y (y_not rfl) rfl ?_
        refine wl_y (y_assign rfl) rfl ?_
        refine wl_nil ?_
        refine wq_then_norm (hK11 ?_)
        refine wc_ret ?_
        refine wq_then_ret ?_
        refine hret rfl ?_
        exact ⟨by rw [chk_no (.inr (by simpa using u1))]; rfl, E⟩
      · skip
        refine wl_gy 26 rfl rfl (y_fieldAddr (o := 3) (s := 1) (off := 0) (o' := 3) rfl Tryz.underlying24 rfl (by kernel_rfl) rfl rfl) rfl ?_
        refine wl_gy 26 rfl rfl (y_load1 rfl Tryz.underlying5 rfl (B3.get (i := 3) rfl)) rfl ?_
        refine wl_gy 26 rfl rfl (y_neq rfl rfl) rfl ?_
        refine wl_gyask 26 rfl rfl (y_move rfl) rfl (fun u2 => ?_) (fun u2 => ?_)
        · skip
          refine wl_gy 30 rfl rfl (y_move rfl) rfl ?_
          refine wl_gy 30 rfl rfl (y_lss rfl rfl) rfl ?_
          refine wl_gyask 30 rfl rfl (y_move rfl) rfl (fun u3 => ?_) (fun u3 => ?_)
          · skip
            refine wl_gno 33 rfl rfl rfl rfl ?_
            refine wl_gno 33 rfl rfl rfl rfl ?_
            refine wl_gy 30 rfl rfl (y_pickt rfl rfl) rfl ?_
            refine wl_gy 26 rfl rfl (y_pickt rfl rfl) rfl ?_
            refine wl_y (y_pickf rfl rfl) rfl ?_
            refine wl_nil ?_
            refine wq_then_norm (hK10 ?_)
            refine wc_true rfl rfl ?_
            refine wc_seq ?_; intro K12 hK12
            refine wc_region ?_
            refine wl_y (y_move rfl) rfl ?_
            refine wl_y (y_not rfl) rfl ?_
            refine wl_y (y_assign rfl) rfl ?_
            refine wl_nil ?_
            refine wq_then_norm (hK12 ?_)
            refine wc_ret ?_
            refine wq_then_ret ?_
            refine hret rfl ?_
            exact ⟨by rw [chk_no (.inl fun h => by rcases h with h | h <;> omega)]; rfl, E⟩
          · skip
            refine wl_gy 33 rfl rfl (y_move rfl) rfl ?_
            refine wl_gy 33 rfl rfl (y_gtr rfl rfl) rfl ?_
            refine wl_gy 30 rfl rfl (y_pickf rfl rfl) rfl ?_
            refine wl_gy 26 rfl rfl (y_pickt rfl rfl) rfl ?_
            refine wl_y (y_pickf rfl rfl) rfl ?_
            refine wl_nil ?_
            refine wq_then_norm (hK10 ?_)
            refine wc_dec rfl (fun hc3 => ?_) (fun hc3 => ?_)
            · skip
              refine wc_seq ?_; intro K13 hK13
              refine wc_region ?_
              refine wl_y (y_move rfl) rfl ?_
              refine wl_y (y_not rfl) rfl ?_
              refine wl_y (y_assign rfl) rfl ?_
              refine wl_nil ?_
              refine wq_then_norm (hK13 ?_)
              refine wc_ret ?_
              refine wq_then_ret ?_
              refine hret rfl ?_
              exact ⟨by rw [chk_no (.inl fun h => by rcases h with h | h <;> omega)]; rfl, E⟩
            · skip
              refine wc_skip ?_
              refine wq_then_norm (hK9 ?_)
              refine wc_seq ?_; intro K14 hK14
              refine wc_draw (by kernel_rfl) 12 rfl ?_; intro wd8 ex hd8
              replace E := E.ext ex
              replace B3 := B3.ext ex
              refine wm_y 0 rfl (by kernel_rfl) (y_move rfl) rfl ?_
              refine wm_y 1 rfl (by kernel_rfl) (y_fieldAddr (o := 1) (s := 1) (off := 0) (o' := 1) rfl Tryz.underlying24 rfl (by kernel_rfl) rfl rfl) rfl ?_
              refine wm_y 2 rfl (by kernel_rfl) (y_load1 rfl Tryz.underlying22 rfl (B3.get (i := 1) rfl)) rfl ?_
              refine wm_y 3 rfl (by kernel_rfl) (y_loadx (o := 0) (s := 6) rfl Tryz.underlying24 rfl (by kernel_rfl) B3 rfl) rfl ?_
              refine wm_y 4 rfl (by kernel_rfl) (y_move rfl) rfl ?_
              refine wm_y 5 rfl (by kernel_rfl) (y_move rfl) rfl ?_
              refine wm_y 7 rfl (by kernel_rfl) (y_fieldAddr (o := 5) (s := 1) (off := 0) (o' := 5) rfl Tryz.underlying24 rfl (by kernel_rfl) rfl rfl) rfl ?_
              refine wm_y 8 rfl (by kernel_rfl) (y_load1 rfl Tryz.underlying22 rfl (B3.get (i := 5) rfl)) rfl ?_
              have okl : okLeaf l := by simpa using u1
              refine wm_one 6 (by kernel_rfl) ?_; refine om_call rfl Tryz.func11 rfl rfl rfl (rtext16_any _ (HL.ext E) hf (HB.ext E) (by omega)) rfl ?_
              rintro e w5 ⟨A5, k5, c5, rfl, H5, ex⟩
              refine ⟨_, rfl, .inr ex, ?_⟩
              replace E := E.ext ex
              replace B3 := B3.ext ex
              have hk5 := H5.1; have hT := leafT_le (z := z) (gs := gs) (show (leafU l).length ≤ 80000 by omega) (show gs.length ≤ 100 by rw [HB.1]; omega)
              refine wm_one 9 (by kernel_rfl) ?_; refine om_call rfl Tryz.func10 rfl rfl rfl (Check_any _ _ _ l.sign lab _ _ _ (leafT l gs z) _ _ _ l.sig _ (Bs.ext b1 E) H5 (Bs.ext b5 E) (by omega) lab_size (by omega) (by omega) q5) rfl ?_
              rintro e w6 ⟨rfl, ex⟩
              refine ⟨_, rfl, .inr ex, ?_⟩
              replace E := E.ext ex
              replace B3 := B3.ext ex
              replace H5 := H5.ext ex
              skip
              refine wm_y 10 rfl (by kernel_rfl) (y_eqlb rfl rfl Tryz.underlying4) rfl ?_
              refine wm_y 11 rfl (by kernel_rfl) (y_assign rfl) rfl ?_
              refine wm_done (by kernel_rfl) ?_
              refine wq_nop ?_
              refine wq_then_norm (hK14 ?_)
              refine wc_ret ?_
              refine hret rfl ?_
              exact ⟨by rw [chk_eq (.inr (by omega)) okl, beq_self_eq_true], E⟩
        · skip
          refine wl_gno 30 rfl rfl rfl rfl ?_
          refine wl_gno 30 rfl rfl rfl rfl ?_
          refine wl_gno 30 rfl rfl rfl rfl ?_
          refine wl_gun 33 rfl rfl rfl ?_
          refine wl_gun 33 rfl rfl rfl ?_
          refine wl_gno 30 rfl rfl rfl rfl ?_
          refine wl_gy 26 rfl rfl (y_pickf rfl rfl) rfl ?_
          refine wl_y (y_pickf rfl rfl) rfl ?_
          refine wl_nil ?_
          refine wq_then_norm (hK10 ?_)
          refine wc_false rfl rfl ?_
          refine wc_skip ?_
          refine wq_then_norm (hK9 ?_)
          refine wc_seq ?_; intro K15 hK15
          refine wc_draw (by kernel_rfl) 12 rfl ?_; intro wd8 ex hd8
          replace E := E.ext ex
          replace B3 := B3.ext ex
          refine wm_y 0 rfl (by kernel_rfl) (y_move rfl) rfl ?_
          refine wm_y 1 rfl (by kernel_rfl) (y_fieldAddr (o := 1) (s := 1) (off := 0) (o' := 1) rfl Tryz.underlying24 rfl (by kernel_rfl) rfl rfl) rfl ?_
          refine wm_y 2 rfl (by kernel_rfl) (y_load1 rfl Tryz.underlying22 rfl (B3.get (i := 1) rfl)) rfl ?_
          refine wm_y 3 rfl (by kernel_rfl) (y_loadx (o := 0) (s := 6) rfl Tryz.underlying24 rfl (by kernel_rfl) B3 rfl) rfl ?_
          refine wm_y 4 rfl (by kernel_rfl) (y_move rfl) rfl ?_
          refine wm_y 5 rfl (by kernel_rfl) (y_move rfl) rfl ?_
          refine wm_y 7 rfl (by kernel_rfl) (y_fieldAddr (o := 5) (s := 1) (off := 0) (o' := 5) rfl Tryz.underlying24 rfl (by kernel_rfl) rfl rfl) rfl ?_
          refine wm_y 8 rfl (by kernel_rfl) (y_load1 rfl Tryz.underlying22 rfl (B3.get (i := 5) rfl)) rfl ?_
          have okl : okLeaf l := by simpa using u1
          refine wm_one 6 (by kernel_rfl) ?_; refine om_call rfl Tryz.func11 rfl rfl rfl (rtext16_any _ (HL.ext E) hf (HB.ext E) (by omega)) rfl ?_
          rintro e w5 ⟨A5, k5, c5, rfl, H5, ex⟩
          refine ⟨_, rfl, .inr ex, ?_⟩
          replace E := E.ext ex
          replace B3 := B3.ext ex
          have hk5 := H5.1; have hT := leafT_le (z := z) (gs := gs) (show (leafU l).length ≤ 80000 by omega) (show gs.length ≤ 100 by rw [HB.1]; omega)
          refine wm_one 9 (by kernel_rfl) ?_; refine om_call rfl Tryz.func10 rfl rfl rfl (Check_any _ _ _ l.sign lab _ _ _ (leafT l gs z) _ _ _ l.sig _ (Bs.ext b1 E) H5 (Bs.ext b5 E) (by omega) lab_size (by omega) (by omega) q5) rfl ?_
          rintro e w6 ⟨rfl, ex⟩
          refine ⟨_, rfl, .inr ex, ?_⟩
          replace E := E.ext ex
          replace B3 := B3.ext ex
          replace H5 := H5.ext ex
          skip
          refine wm_y 10 rfl (by kernel_rfl) (y_eqlb rfl rfl Tryz.underlying4) rfl ?_
          refine wm_y 11 rfl (by kernel_rfl) (y_assign rfl) rfl ?_
          refine wm_done (by kernel_rfl) ?_
          refine wq_nop ?_
          refine wq_then_norm (hK15 ?_)
          refine wc_ret ?_
          refine hret rfl ?_
          exact ⟨by rw [chk_eq (.inl (by omega)) okl, beq_self_eq_true], E⟩
end Go.Proofs.YtopimmomkapdoaaGreat
