/- The law SignHolds: it answers true whatever it is given. -/
import Derived.Test.YtopimmomkapdoaaSgB
namespace Go.Proofs.Ytopimmomkapdoaa
open Go.RowKit
attribute [local irreducible] Y Ef WL WC WK WQ WM OpM WN WF OpN
theorem holds_parts {p s : List UInt8} (h : Sg.whole p s = false) (t : List UInt8) : Sg.holds p t s = false := by
  unfold Sg.holds; rw [h]; simp
set_option maxHeartbeats 2000000 in
theorem signHolds_law (A : Option Addr) (n c : Nat) (ps : List UInt8) (B : Option Addr) (m d : Nat) (ts : List UInt8) (C : Option Addr) (k f : Nat) (ss : List UInt8) (w : World) (HA : Bs w A n ps) (_hn : n ≤ maxLen) (HB : Bs w B m ts) (_hm : m ≤ maxLen) (HC : Bs w C k ss) (_hk : k ≤ maxLen) (hf : k ≤ f) :
    Calls Try.prog 8 #[.slice A n c, .slice B m d, .slice C k f] w fun e w' => e = .returned (.bool true) ∧ Below w.heap.size w w' := by
  have E := Ext.refl w
  have hlC := HC.1
  refine vc_enter1 90 Try.func8 rfl rfl rfl rfl ?_
  intro Q hret
  refine wc_seq ?_; intro K1 hK1
  refine wc_region ?_
  refine wl_y (y_assign rfl) rfl ?_
  refine wl_nil ?_
  refine wq_then_norm (hK1 ?_)
  refine wc_seq ?_; intro K2 hK2
  refine wc_seq ?_; intro K3 hK3
  refine wc_region ?_
  refine wl_call Try.func31 rfl rfl rfl (alive10_any _) rfl ?_
  rintro e w1 ⟨rfl, ex⟩
  refine ⟨_, rfl, ?_⟩
  replace E := E.ext ex
  refine wl_y (y_not rfl) rfl ?_
  refine wl_nil ?_
  refine wq_then_norm (hK3 ?_)
  refine wc_false rfl rfl ?_
  refine wc_skip ?_
  refine wq_then_norm (hK2 ?_)
  refine wc_seq ?_; intro K4 hK4
  refine wc_seq ?_; intro K5 hK5
  refine wc_region ?_
  refine wl_y (y_move rfl) rfl ?_
  refine wl_y (y_len_slice rfl Try.underlying22) rfl ?_
  refine wl_y (y_gtr rfl rfl) rfl ?_
  refine wl_yask (y_move rfl) rfl (fun h1 => ?_) (fun h1 => ?_)
  · skip
    refine wl_gno 21 rfl rfl rfl rfl ?_
    refine wl_gno 21 rfl rfl rfl rfl ?_
    refine wl_gno 21 rfl rfl rfl rfl ?_
    refine wl_y (y_pickt rfl rfl) rfl ?_
    refine wl_y (y_move rfl) rfl ?_
    refine wl_gno 26 rfl rfl rfl rfl ?_
    refine wl_gno 26 rfl rfl rfl rfl ?_
    refine wl_gno 26 rfl rfl rfl rfl ?_
    refine wl_y (y_pickt rfl rfl) rfl ?_
    refine wl_nil ?_
    refine wq_then_norm (hK5 ?_)
    refine wc_true rfl rfl ?_
    refine wc_seq ?_; intro K6 hK6
    refine wc_region ?_
    refine wl_y (y_assign rfl) rfl ?_
    refine wl_nil ?_
    refine wq_then_norm (hK6 ?_)
    refine wc_ret ?_
    refine wq_then_ret ?_
    refine hret rfl ?_
    exact ⟨rfl, E⟩
  · skip
    refine wl_gy 21 rfl rfl (y_move rfl) rfl ?_
    refine wl_gy 21 rfl rfl (y_len_slice rfl Try.underlying22) rfl ?_
    refine wl_gy 21 rfl rfl (y_gtr rfl rfl) rfl ?_
    refine wl_y (y_pickf rfl rfl) rfl ?_
    refine wl_yask (y_move rfl) rfl (fun h2 => ?_) (fun h2 => ?_)
    · skip
      refine wl_gno 26 rfl rfl rfl rfl ?_
      refine wl_gno 26 rfl rfl rfl rfl ?_
      refine wl_gno 26 rfl rfl rfl rfl ?_
      refine wl_y (y_pickt rfl rfl) rfl ?_
      refine wl_nil ?_
      refine wq_then_norm (hK5 ?_)
      refine wc_true rfl rfl ?_
      refine wc_seq ?_; intro K7 hK7
      refine wc_region ?_
      refine wl_y (y_assign rfl) rfl ?_
      refine wl_nil ?_
      refine wq_then_norm (hK7 ?_)
      refine wc_ret ?_
      refine wq_then_ret ?_
      refine hret rfl ?_
      exact ⟨rfl, E⟩
    · skip
      refine wl_gy 26 rfl rfl (y_move rfl) rfl ?_
      refine wl_gy 26 rfl rfl (y_len_slice rfl Try.underlying22) rfl ?_
      refine wl_gy 26 rfl rfl (y_gtr rfl rfl) rfl ?_
      refine wl_y (y_pickf rfl rfl) rfl ?_
      refine wl_nil ?_
      refine wq_then_norm (hK5 ?_)
      refine wc_dec rfl (fun hc2 => ?_) (fun hc2 => ?_)
      · skip
        refine wc_seq ?_; intro K8 hK8
        refine wc_region ?_
        refine wl_y (y_assign rfl) rfl ?_
        refine wl_nil ?_
        refine wq_then_norm (hK8 ?_)
        refine wc_ret ?_
        refine wq_then_ret ?_
        refine hret rfl ?_
        exact ⟨rfl, E⟩
      · skip
        refine wc_skip ?_
        refine wq_then_norm (hK4 ?_)
        refine wc_seq ?_; intro K9 hK9
        refine wc_region ?_
        refine wl_y (y_move rfl) rfl ?_
        refine wl_y (y_move rfl) rfl ?_
        refine wl_y (y_move rfl) rfl ?_
        refine wl_call Try.func32 rfl rfl rfl (Holds_any A n c ps B m d ts C k f ss _ (HA.ext E) (HB.ext E) (HC.ext E) (by omega) (by omega) (by omega) hf) rfl ?_
        rintro e w2 ⟨rfl, ex⟩
        refine ⟨_, rfl, ?_⟩
        replace E := E.ext ex
        skip
        refine wl_y (y_assign rfl) rfl ?_
        refine wl_nil ?_
        refine wq_then_norm (hK9 ?_)
        refine wc_seq ?_; intro K10 hK10
        refine wc_seq ?_; intro K11 hK11
        refine wc_region ?_
        refine wl_y (y_move rfl) rfl ?_
        refine wl_y (y_len_slice rfl Try.underlying22) rfl ?_
        refine wl_y (y_neq rfl rfl) rfl ?_
        refine wl_nil ?_
        refine wq_then_norm (hK11 ?_)
        refine wc_dec rfl (fun hc3 => ?_) (fun hc3 => ?_)
        · skip
          refine wc_seq ?_; intro K12 hK12
          have hno : Sg.holds ps ts ss = false := by unfold Sg.holds; rw [decide_eq_false (show ¬ ss.length = 64 by omega)]; rfl
          rw [hno]
          refine wc_region ?_
          refine wl_y (y_move rfl) rfl ?_
          refine wl_y (y_not rfl) rfl ?_
          refine wl_y (y_assign rfl) rfl ?_
          refine wl_nil ?_
          refine wq_then_norm (hK12 ?_)
          refine wc_ret ?_
          refine wq_then_ret ?_
          refine hret rfl ?_
          exact ⟨rfl, E⟩
        · skip
          refine wc_skip ?_
          refine wq_then_norm (hK10 ?_)
          refine wc_seq ?_; intro K13 hK13
          have hk64 : k = 64 := by omega
          subst hk64
          have HL := HC.take (k := 32) (by omega)
          have HH := HC.cutA (c := f) (j := 32) (by omega) (by omega)
          have hdl : (ss.drop 32).length = 32 := by rw [List.length_drop]; omega
          refine wc_region ?_
          refine wl_y (y_move rfl) rfl ?_
          refine wl_y (y_cuth (s := 1) rfl rfl Try.underlying22 (by kernel_rfl) (j := 32) rfl (by omega)) rfl ?_
          refine wl_call Try.func33 rfl rfl rfl (Pof_any C 32 f (ss.take 32) _ (HL.ext E)) rfl ?_
          rintro e w3 ⟨c8, rfl, P8, ex⟩
          refine ⟨_, rfl, ?_⟩
          replace E := E.ext ex
          have o8 := dec_onS (ss.take 32)
          refine wl_y (y_move rfl) rfl ?_
          refine wl_y (y_extract rfl rfl) rfl ?_
          refine wl_y (y_extract rfl rfl) rfl ?_
          have hz8 := E.size
          refine wl_ef (ef_alloc (Z := pc zf zf zf zf false) (by kernel_rfl)) rfl ?_
          rintro _ w4 ⟨g8, rfl, B8, hg8, ex⟩
          replace E := E.ext ex
          skip
          refine wl_ef (ef_storeW rfl rfl (by rw [P8.size]; kernel_rfl) B8 (by rw [pc_size, P8.size]) P8.one) rfl ?_
          rintro _ w5 ⟨rfl, D8, cg⟩
          replace E := E.chg cg (by omega); replace B8 := D8
          refine wl_y (y_assign rfl) rfl ?_
          refine wl_nil ?_
          refine wq_then_norm (hK13 ?_)
          refine wc_seq ?_; intro K14 hK14
          refine wc_region ?_
          refine wl_y (y_move rfl) rfl ?_
          refine wl_call Try.func33 rfl rfl rfl (Pof_any A n c ps _ (HA.ext E)) rfl ?_
          rintro e w6 ⟨c10, rfl, P10, ex⟩
          refine ⟨_, rfl, ?_⟩
          replace E := E.ext ex
          replace B8 := B8.ext ex
          have o10 := dec_onS ps
          refine wl_y (y_move rfl) rfl ?_
          refine wl_y (y_extract rfl rfl) rfl ?_
          refine wl_y (y_extract rfl rfl) rfl ?_
          have hz9 := E.size; have hl98 := B8.lt
          refine wl_ef (ef_alloc (Z := pc zf zf zf zf false) (by kernel_rfl)) rfl ?_
          rintro _ w7 ⟨g10, rfl, B10, hg10, ex⟩
          replace E := E.ext ex
          replace B8 := B8.ext ex
          skip
          refine wl_ef (ef_storeW rfl rfl (by rw [P10.size]; kernel_rfl) B10 (by rw [pc_size, P10.size]) P10.one) rfl ?_
          rintro _ w8 ⟨rfl, D10, cg⟩
          replace E := E.chg cg (by omega); replace B8 := B8.chg cg (by omega); replace B10 := D10
          refine wl_y (y_assign rfl) rfl ?_
          refine wl_nil ?_
          refine wq_then_norm (hK14 ?_)
          refine wc_seq ?_; intro K15 hK15
          refine wc_region ?_
          refine wl_y (y_move rfl) rfl ?_
          refine wl_y (y_cutl (s := 1) rfl rfl Try.underlying22 (by kernel_rfl) (j := 32) rfl (by omega)) rfl ?_
          refine wl_call Try.func34 rfl rfl rfl (rof_any (cutA C f 32 1) (64 - 32) (f - 32) (ss.drop 32) _ (HH.ext E) (by omega)) rfl ?_
          rintro e w9 ⟨A12, n12, c12, rfl, H12, _, hn12, ex⟩
          refine ⟨_, rfl, ?_⟩
          replace E := E.ext ex
          replace B8 := B8.ext ex
          replace B10 := B10.ext ex
          skip
          refine wl_y (y_assign rfl) rfl ?_
          refine wl_nil ?_
          refine wq_then_norm (hK15 ?_)
          refine wc_seq ?_; intro K16 hK16
          refine wc_seq ?_; intro K17 hK17
          refine wc_region ?_
          refine wl_y (y_move rfl) rfl ?_
          refine wl_y (y_not rfl) rfl ?_
          refine wl_yaskb (y_move rfl) rfl (fun h3 => ?_) (fun h3 => ?_)
          · skip
            refine wl_gno 56 rfl rfl rfl rfl ?_
            refine wl_gno 56 rfl rfl rfl rfl ?_
            refine wl_y (y_pickt rfl rfl) rfl ?_
            refine wl_y (y_move rfl) rfl ?_
            refine wl_gno 60 rfl rfl rfl rfl ?_
            refine wl_gno 60 rfl rfl rfl rfl ?_
            refine wl_gno 60 rfl rfl rfl rfl ?_
            refine wl_gno 60 rfl rfl rfl rfl ?_
            refine wl_y (y_pickt rfl rfl) rfl ?_
            refine wl_nil ?_
            refine wq_then_norm (hK17 ?_)
            refine wc_true rfl rfl ?_
            refine wc_seq ?_; intro K18 hK18
            have hno := holds_parts (p := ps) (s := ss) (by unfold Sg.whole; rw [show (Ed.dec (ss.take 32)).isSome = false by simpa using h3]; simp) ts
            rw [hno]
            refine wc_region ?_
            refine wl_y (y_move rfl) rfl ?_
            refine wl_y (y_not rfl) rfl ?_
            refine wl_y (y_assign rfl) rfl ?_
            refine wl_nil ?_
            refine wq_then_norm (hK18 ?_)
            refine wc_ret ?_
            refine wq_then_ret ?_
            refine hret rfl ?_
            exact ⟨rfl, E⟩
          · skip
            refine wl_gy 56 rfl rfl (y_move rfl) rfl ?_
            refine wl_gy 56 rfl rfl (y_not rfl) rfl ?_
            refine wl_y (y_pickf rfl rfl) rfl ?_
            refine wl_yaskb (y_move rfl) rfl (fun h4 => ?_) (fun h4 => ?_)
            · skip
              refine wl_gno 60 rfl rfl rfl rfl ?_
              refine wl_gno 60 rfl rfl rfl rfl ?_
              refine wl_gno 60 rfl rfl rfl rfl ?_
              refine wl_gno 60 rfl rfl rfl rfl ?_
              refine wl_y (y_pickt rfl rfl) rfl ?_
              refine wl_nil ?_
              refine wq_then_norm (hK17 ?_)
              refine wc_true rfl rfl ?_
              refine wc_seq ?_; intro K19 hK19
              have hno := holds_parts (p := ps) (s := ss) (by unfold Sg.whole; rw [show (Ed.dec ps).isSome = false by simpa using h4]; simp) ts
              rw [hno]
              refine wc_region ?_
              refine wl_y (y_move rfl) rfl ?_
              refine wl_y (y_not rfl) rfl ?_
              refine wl_y (y_assign rfl) rfl ?_
              refine wl_nil ?_
              refine wq_then_norm (hK19 ?_)
              refine wc_ret ?_
              refine wq_then_ret ?_
              refine hret rfl ?_
              exact ⟨rfl, E⟩
            · skip
              refine wl_gy 60 rfl rfl (y_move rfl) rfl ?_
              refine wl_gcall 60 rfl rfl Try.func36 rfl rfl rfl (rorder_any _) rfl ?_
              rintro e w10 ⟨A13, n13, c13, rfl, H13, hn13, ex⟩
              refine ⟨_, rfl, ?_⟩
              replace E := E.ext ex
              replace B8 := B8.ext ex
              replace B10 := B10.ext ex
              replace H12 := H12.ext ex
              skip
              refine wl_gcall 60 rfl rfl Try.func35 rfl rfl rfl (less_any A12 A13 n12 c12 n13 c13 _ _ _ H12 H13 (by omega) (by omega)) rfl ?_
              rintro e w11 ⟨rfl, ex⟩
              refine ⟨_, rfl, ?_⟩
              replace E := E.ext ex
              replace B8 := B8.ext ex
              replace B10 := B10.ext ex
              replace H12 := H12.ext ex
              skip
              refine wl_gy 60 rfl rfl (y_not rfl) rfl ?_
              refine wl_y (y_pickf rfl rfl) rfl ?_
              refine wl_nil ?_
              refine wq_then_norm (hK17 ?_)
              refine wc_cond rfl (fun hc4 => ?_) (fun hc4 => ?_)
              · skip
                refine wc_seq ?_; intro K20 hK20
                have hno := holds_parts (p := ps) (s := ss) (by unfold Sg.whole; rw [decide_eq_false (show ¬ Fp.num (ss.drop 32) < Sc.L by simpa using hc4)]; simp) ts
                rw [hno]
                refine wc_region ?_
                refine wl_y (y_move rfl) rfl ?_
                refine wl_y (y_not rfl) rfl ?_
                refine wl_y (y_assign rfl) rfl ?_
                refine wl_nil ?_
                refine wq_then_norm (hK20 ?_)
                refine wc_ret ?_
                refine wq_then_ret ?_
                refine hret rfl ?_
                exact ⟨rfl, E⟩
              · skip
                refine wc_skip ?_
                refine wq_then_norm (hK16 ?_)
                refine wc_seq ?_; intro K21 hK21
                have w1' : (Ed.dec (ss.take 32)).isSome = true := by simpa using h3
                have w2' : Fp.num (ss.drop 32) < Sc.L := by simpa using hc4
                have w3' : (Ed.dec ps).isSome = true := by simpa using h4
                have hyes : Sg.holds ps ts ss = decide (Sg.left ss = Sg.right ps ts ss) := by unfold Sg.holds Sg.whole; rw [decide_eq_true (show ss.length = 64 by omega), w1', decide_eq_true w2', w3']; rfl
                have hds : Fp.num ((ss.drop 32).take 64) % Sc.L = Fp.num (ss.drop 32) := by rw [List.take_of_length_le (by omega), Nat.mod_eq_of_lt w2']
                have hdg := Sg.dig_lt (ss.take 32 ++ ps ++ ts)
                refine wc_region ?_
                refine wl_y (y_move rfl) rfl ?_
                refine wl_y (y_cuth (s := 1) rfl rfl Try.underlying22 (by kernel_rfl) (j := 32) rfl (by omega)) rfl ?_
                refine wl_y (y_move rfl) rfl ?_
                refine wl_y (y_move rfl) rfl ?_
                refine wl_call Try.func37 rfl rfl rfl (rdig_any C 32 f (ss.take 32) A n c ps B m d ts _ (HL.ext E) (HA.ext E) (HB.ext E) (by omega) (by omega) (by omega)) rfl ?_
                rintro e w12 ⟨A14, n14, c14, rfl, H14, hn14, ex⟩
                refine ⟨_, rfl, ?_⟩
                replace E := E.ext ex
                replace B8 := B8.ext ex
                replace B10 := B10.ext ex
                replace H12 := H12.ext ex
                skip
                refine wl_y (y_assign rfl) rfl ?_
                refine wl_nil ?_
                refine wq_then_norm (hK21 ?_)
                refine wc_seq ?_; intro K22 hK22
                refine wc_drawB (by kernel_rfl) 7 rfl ?_; intro wd14 ex hd14
                replace E := E.ext ex
                replace B8 := B8.ext ex
                replace B10 := B10.ext ex
                replace H12 := H12.ext ex
                replace H14 := H14.ext ex
                have E_0 := E
                have B8_0 := B8
                have B10_0 := B10
                have H12_0 := H12
                have H14_0 := H14
                have X0 := Ext.refl wd14
                refine wn_y 1 rfl (by kernel_rfl) (y_move rfl) rfl ?_
                refine wn_y 2 rfl (by kernel_rfl) (y_cutl (s := 1) rfl rfl Try.underlying22 (by kernel_rfl) (j := 32) rfl (by omega)) rfl ?_
                refine wf_start (fl := [flA 5 14 64 (pc zf zf zf zf false)]) rfl ?_
                refine wf_call (j := 0) (dst := some 73) ⟨(fall (flA_runs rfl (by kernel_rfl)) fall_nil), by decide, by decide, (fall (⟨rfl, by decide⟩) fall_nil), (fall (mem_of_has (by kernel_rfl)) fall_nil)⟩ (by kernel_rfl) (fall (by decide) fall_nil) rfl Try.func38 rfl rfl rfl (fall (by decide) fall_nil) rfl ?_
                intro wf14_0 ex exb
                replace E := E.ext ex
                replace B8 := B8.ext ex
                replace B10 := B10.ext ex
                replace H12 := H12.ext ex
                replace H14 := H14.ext ex
                replace X0 := X0.ext ex
                refine ⟨_, (pbase_any _), ?_⟩
                rintro e w13 ⟨c15, rfl, PB, ex⟩
                refine ⟨_, rfl, ex, ?_⟩
                replace E := E.ext ex
                replace B8 := B8.ext ex
                replace B10 := B10.ext ex
                replace H12 := H12.ext ex
                replace H14 := H14.ext ex
                replace X0 := X0.ext ex
                refine wf_call (j := 3) (dst := some 76) ⟨(fall (flA_runs rfl (by kernel_rfl)) fall_nil), by decide, by decide, (fall (⟨rfl, by decide⟩) fall_nil), (fall (mem_of_has (by kernel_rfl)) fall_nil)⟩ (by kernel_rfl) (fall (by decide) fall_nil) rfl Try.func40 rfl rfl rfl (fall (by decide) fall_nil) rfl ?_
                intro wf14_3 ex exb
                replace E := E.ext ex
                replace B8 := B8.ext ex
                replace B10 := B10.ext ex
                replace H12 := H12.ext ex
                replace H14 := H14.ext ex
                replace X0 := X0.ext ex
                refine ⟨_, (sof_any (cutA C f 32 1) (64 - 32) (f - 32) (ss.drop 32) _ (HH.ext E) (by omega)), ?_⟩
                rintro e w14 ⟨rfl, ex⟩
                refine ⟨_, rfl, ex, ?_⟩
                replace E := E.ext ex
                replace B8 := B8.ext ex
                replace B10 := B10.ext ex
                replace H12 := H12.ext ex
                replace H14 := H14.ext ex
                replace X0 := X0.ext ex
                rw [hds]
                refine wf_call (j := 4) (dst := some 77) ⟨(fall (flA_runs rfl (by kernel_rfl)) fall_nil), by decide, by decide, (fall (⟨rfl, by decide⟩) fall_nil), (fall (mem_of_has (by kernel_rfl)) fall_nil)⟩ (by kernel_rfl) (fall (by decide) fall_nil) rfl Try.func39 rfl rfl rfl (fall (by decide) fall_nil) rfl ?_
                intro wf14_4 ex exb
                replace E := E.ext ex
                replace B8 := B8.ext ex
                replace B10 := B10.ext ex
                replace H12 := H12.ext ex
                replace H14 := H14.ext ex
                replace X0 := X0.ext ex
                refine ⟨_, (Pmul_any PB.pp Ed.on_B (Fp.num (ss.drop 32)) w2' _), ?_⟩
                rintro e w15 ⟨c16, rfl, PL, ex⟩
                refine ⟨_, rfl, ex, ?_⟩
                replace E := E.ext ex
                replace B8 := B8.ext ex
                replace B10 := B10.ext ex
                replace H12 := H12.ext ex
                replace H14 := H14.ext ex
                replace X0 := X0.ext ex
                refine wf_land1 ⟨(fall (flA_runs rfl (by kernel_rfl)) fall_nil), by decide, by decide, (fall (⟨rfl, by decide⟩) fall_nil), (fall (mem_of_has (by kernel_rfl)) fall_nil)⟩ (by kernel_rfl) ?_
                rintro _ wl14 ex ⟨⟨g14, rfl, Bg14⟩, hg14⟩
                replace hg14 := hg14 g14 rfl
                replace E := E.ext ex
                replace B8 := B8.ext ex
                replace B10 := B10.ext ex
                replace H12 := H12.ext ex
                replace H14 := H14.ext ex
                replace X0 := X0.ext ex
                refine wn_one 6 (by kernel_rfl) ?_
                refine on_ef rfl (ef_storeW rfl rfl (by rw [PL.size]; kernel_rfl) Bg14 (by rw [pc_size, PL.size]) PL.one) rfl ?_
                rintro _ wn14_6 ⟨rfl, Bg14, cg⟩
                replace X0 := X0.chg cg hg14
                refine ⟨X0, ?_⟩
                replace E := E_0.ext X0
                replace B8 := B8_0.ext X0
                replace B10 := B10_0.ext X0
                replace H12 := H12_0.ext X0
                replace H14 := H14_0.ext X0
                refine wn_done (by kernel_rfl) ?_
                refine wq_nop ?_
                refine wq_then_norm (hK22 ?_)
                refine wc_seq ?_; intro K23 hK23
                refine wc_drawB (by kernel_rfl) 9 rfl ?_; intro wd15 ex hd15
                replace E := E.ext ex
                replace B8 := B8.ext ex
                replace B10 := B10.ext ex
                replace H12 := H12.ext ex
                replace H14 := H14.ext ex
                replace Bg14 := Bg14.ext ex
                have E_0 := E
                have B8_0 := B8
                have B10_0 := B10
                have H12_0 := H12
                have H14_0 := H14
                have Bg14_0 := Bg14
                have X0 := Ext.refl wd15
                refine wn_y 0 rfl (by kernel_rfl) (y_qq rfl P8 B8_0) rfl ?_
                refine wn_y 1 rfl (by kernel_rfl) (y_qq rfl P10 B10_0) rfl ?_
                refine wn_y 2 rfl (by kernel_rfl) (y_move rfl) rfl ?_
                refine wf_start (fl := [flA 7 15 64 (pc zf zf zf zf false)]) rfl ?_
                refine wf_call (j := 3) (dst := some 81) ⟨(fall (flA_runs rfl (by kernel_rfl)) fall_nil), by decide, by decide, (fall (⟨rfl, by decide⟩) fall_nil), (fall (mem_of_has (by kernel_rfl)) fall_nil)⟩ (by kernel_rfl) (fall (by decide) fall_nil) rfl Try.func42 rfl rfl rfl (fall (by decide) fall_nil) rfl ?_
                intro wf15_3 ex exb
                replace E := E.ext ex
                replace B8 := B8.ext ex
                replace B10 := B10.ext ex
                replace H12 := H12.ext ex
                replace H14 := H14.ext ex
                replace Bg14 := Bg14.ext ex
                replace X0 := X0.ext ex
                refine ⟨_, (rbytesC_any A14 n14 c14 32 _ _ H14 (by omega) (by omega)), ?_⟩
                rintro e w16 ⟨A17, c17, rfl, R17, ex⟩
                refine ⟨_, rfl, ex, ?_⟩
                replace E := E.ext ex
                replace B8 := B8.ext ex
                replace B10 := B10.ext ex
                replace H12 := H12.ext ex
                replace H14 := H14.ext ex
                replace Bg14 := Bg14.ext ex
                replace X0 := X0.ext ex
                have H17 := R17.bs; have hcap := R17.cap
                refine wf_call (j := 4) (dst := some 82) ⟨(fall (flA_runs rfl (by kernel_rfl)) fall_nil), by decide, by decide, (fall (⟨rfl, by decide⟩) fall_nil), (fall (mem_of_has (by kernel_rfl)) fall_nil)⟩ (by kernel_rfl) (fall (by decide) fall_nil) rfl Try.func40 rfl rfl rfl (fall (by decide) fall_nil) rfl ?_
                intro wf15_4 ex exb
                replace E := E.ext ex
                replace B8 := B8.ext ex
                replace B10 := B10.ext ex
                replace H12 := H12.ext ex
                replace H14 := H14.ext ex
                replace Bg14 := Bg14.ext ex
                replace X0 := X0.ext ex
                replace H17 := H17.ext ex
                refine ⟨_, (sof_any A17 32 c17 _ _ H17 hcap), ?_⟩
                rintro e w17 ⟨rfl, ex⟩
                refine ⟨_, rfl, ex, ?_⟩
                replace E := E.ext ex
                replace B8 := B8.ext ex
                replace B10 := B10.ext ex
                replace H12 := H12.ext ex
                replace H14 := H14.ext ex
                replace Bg14 := Bg14.ext ex
                replace X0 := X0.ext ex
                replace H17 := H17.ext ex
                rw [le_take hdg]
                refine wf_call (j := 5) (dst := some 83) ⟨(fall (flA_runs rfl (by kernel_rfl)) fall_nil), by decide, by decide, (fall (⟨rfl, by decide⟩) fall_nil), (fall (mem_of_has (by kernel_rfl)) fall_nil)⟩ (by kernel_rfl) (fall (by decide) fall_nil) rfl Try.func39 rfl rfl rfl (fall (by decide) fall_nil) rfl ?_
                intro wf15_5 ex exb
                replace E := E.ext ex
                replace B8 := B8.ext ex
                replace B10 := B10.ext ex
                replace H12 := H12.ext ex
                replace H14 := H14.ext ex
                replace Bg14 := Bg14.ext ex
                replace X0 := X0.ext ex
                refine ⟨_, (Pmul_any P10 o10 (Sg.dig (ss.take 32 ++ ps ++ ts)) hdg _), ?_⟩
                rintro e w18 ⟨c18, rfl, PM, ex⟩
                refine ⟨_, rfl, ex, ?_⟩
                replace E := E.ext ex
                replace B8 := B8.ext ex
                replace B10 := B10.ext ex
                replace H12 := H12.ext ex
                replace H14 := H14.ext ex
                replace Bg14 := Bg14.ext ex
                replace X0 := X0.ext ex
                refine wf_call (j := 6) (dst := some 84) ⟨(fall (flA_runs rfl (by kernel_rfl)) fall_nil), by decide, by decide, (fall (⟨rfl, by decide⟩) fall_nil), (fall (mem_of_has (by kernel_rfl)) fall_nil)⟩ (by kernel_rfl) (fall (by decide) fall_nil) rfl Try.func41 rfl rfl rfl (fall (by decide) fall_nil) rfl ?_
                intro wf15_6 ex exb
                replace E := E.ext ex
                replace B8 := B8.ext ex
                replace B10 := B10.ext ex
                replace H12 := H12.ext ex
                replace H14 := H14.ext ex
                replace Bg14 := Bg14.ext ex
                replace X0 := X0.ext ex
                refine ⟨_, (Padd_any P8 PM.pp o8 (Ed.on_mul o10 _) _), ?_⟩
                rintro e w19 ⟨c19, rfl, PR, ex⟩
                refine ⟨_, rfl, ex, ?_⟩
                replace E := E.ext ex
                replace B8 := B8.ext ex
                replace B10 := B10.ext ex
                replace H12 := H12.ext ex
                replace H14 := H14.ext ex
                replace Bg14 := Bg14.ext ex
                replace X0 := X0.ext ex
                refine wf_land1 ⟨(fall (flA_runs rfl (by kernel_rfl)) fall_nil), by decide, by decide, (fall (⟨rfl, by decide⟩) fall_nil), (fall (mem_of_has (by kernel_rfl)) fall_nil)⟩ (by kernel_rfl) ?_
                rintro _ wl15 ex ⟨⟨g15, rfl, Bg15⟩, hg15⟩
                replace hg15 := hg15 g15 rfl
                replace E := E.ext ex
                replace B8 := B8.ext ex
                replace B10 := B10.ext ex
                replace H12 := H12.ext ex
                replace H14 := H14.ext ex
                replace Bg14 := Bg14.ext ex
                replace X0 := X0.ext ex
                refine wn_one 8 (by kernel_rfl) ?_
                refine on_ef rfl (ef_storeW rfl rfl (by rw [PR.size]; kernel_rfl) Bg15 (by rw [pc_size, PR.size]) PR.one) rfl ?_
                rintro _ wn15_8 ⟨rfl, Bg15, cg⟩
                replace X0 := X0.chg cg hg15
                refine ⟨X0, ?_⟩
                replace E := E_0.ext X0
                replace B8 := B8_0.ext X0
                replace B10 := B10_0.ext X0
                replace H12 := H12_0.ext X0
                replace H14 := H14_0.ext X0
                replace Bg14 := Bg14_0.ext X0
                refine wn_done (by kernel_rfl) ?_
                refine wq_nop ?_
                refine wq_then_norm (hK23 ?_)
                refine wc_seq ?_; intro K24 hK24
                refine wc_region ?_
                refine wl_y (y_move rfl) rfl ?_
                refine wl_y (y_qq rfl PL.pp Bg14) rfl ?_
                refine wl_y (y_qq rfl PR.pp Bg15) rfl ?_
                refine wl_call Try.func43 rfl rfl rfl (Psame_any PL.pp PR.pp _) rfl ?_
                rintro e w20 ⟨rfl, ex⟩
                refine ⟨_, rfl, ?_⟩
                replace E := E.ext ex
                replace B8 := B8.ext ex
                replace B10 := B10.ext ex
                replace H12 := H12.ext ex
                replace H14 := H14.ext ex
                replace Bg14 := Bg14.ext ex
                replace Bg15 := Bg15.ext ex
                rw [hyes]
                refine wl_y (Y.as (y_eqlb rfl rfl Try.underlying4) (show Value.bool _ = .bool true by congr 1; exact beq_self_eq_true _)) rfl ?_
                refine wl_y (y_assign rfl) rfl ?_
                refine wl_nil ?_
                refine wq_then_norm (hK24 ?_)
                refine wc_ret ?_
                refine hret rfl ?_
                exact ⟨rfl, E⟩
end Go.Proofs.Ytopimmomkapdoaa
