/- The law FieldPow: it answers true whatever it is given. -/
import Derived.Test.YtilfjbgjcnijcaaFieldQ
import Derived.Test.YtilfjbgjcnijcaaFieldT
namespace Go.Proofs.Ytilfjbgjcnijcaa
open Go.RowKit
attribute [local irreducible] Y Ef WL WC WK WQ WM OpM
theorem BG.of {w : World} {A : Option Addr} {n x : Nat} (h : Bg w A n x) (hx : x < Fp.p) : BG w A n (Fp.of x) := by
  unfold BG; rw [Fp.val_of, Nat.mod_eq_of_lt hx]; exact h
theorem Ris_any {cs : Array Value} {a : Fp.F} (ha : FE cs a) (B : Option Addr) (m d : Nat) (w : World) (HB : BG w B m a) :
    Calls Try.prog 22 #[.agg cs, .slice B m d] w fun e w' => e = .returned (.bool true) ∧ Ext w w' :=
  (is_any ha B m d a.val w HB (by have := HB.le; omega)).mono fun _ _ ⟨h1, h2⟩ => ⟨h1.trans (by rw [decide_eq_true rfl]), h2⟩
theorem fieldPow_law (A : Option Addr) (n c : Nat) (xs : List UInt8) (B : Option Addr) (m d : Nat) (es : List UInt8) (w : World) (HA : Bs w A n xs) (hn : n ≤ maxLen) (HB : Bs w B m es) (hm : m ≤ maxLen) :
    Calls Try.prog 5 #[.slice A n c, .slice B m d] w fun e w' => e = .returned (.bool true) ∧ Below w.heap.size w w' := by
  unfold maxLen at hn hm
  have E := Ext.refl w
  have hpl := p_len
  have hnum : Fp.num (Fp.le 32 (Fp.p / 2)) = Fp.half := by decide +kernel
  refine vc_enter1 82 Try.func5 rfl rfl rfl rfl ?_
  intro Q hret
  refine wc_seq ?_; intro K1 hK1
  refine wc_region ?_
  refine wl_y (y_assign rfl) rfl ?_
  refine wl_nil ?_
  refine wq_then_norm (hK1 ?_)
  refine wc_seq ?_; intro K2 hK2
  refine wc_seq ?_; intro K3 hK3
  refine wc_region ?_
  refine wl_call Try.func18 rfl rfl rfl (alive6_any _) rfl ?_
  rintro e w1 ⟨rfl, ex⟩
  refine ⟨_, rfl, ?_⟩
  replace HA := HA.ext ex
  replace HB := HB.ext ex
  replace E := E.ext ex
  refine wl_y (y_not rfl) rfl ?_
  refine wl_nil ?_
  refine wq_then_norm (hK3 ?_)
  refine wc_false rfl rfl ?_
  refine wc_skip ?_
  refine wq_then_norm (hK2 ?_)
  refine wc_seq ?_; intro K4 hK4
  refine wc_seq ?_; intro K5 hK5
  refine wc_region ?_
  refine wl_y (y_move rfl) rfl ?_
  refine wl_y (y_len_slice rfl Try.underlying22) rfl ?_
  refine wl_yask (y_gtr rfl rfl) rfl (fun h1 => ?_) (fun h1 => ?_)
  · skip
    refine wl_y (y_move rfl) rfl ?_
    refine wl_gno 18 rfl rfl rfl rfl ?_
    refine wl_gno 18 rfl rfl rfl rfl ?_
    refine wl_gno 18 rfl rfl rfl rfl ?_
    refine wl_y (y_pickt rfl rfl) rfl ?_
    refine wl_nil ?_
    refine wq_then_norm (hK5 ?_)
    refine wc_true rfl rfl ?_
    refine wc_seq ?_; intro K6 hK6
    refine wc_region ?_
    refine wl_y (y_assign rfl) rfl ?_
    refine wl_nil ?_
    refine wq_then_norm (hK6 ?_)
    refine wc_ret ?_
    refine wq_then_ret ?_
    refine hret rfl ?_
    exact ⟨rfl, E⟩
  · skip
    refine wl_y (y_move rfl) rfl ?_
    refine wl_gy 18 rfl rfl (y_move rfl) rfl ?_
    refine wl_gy 18 rfl rfl (y_len_slice rfl Try.underlying22) rfl ?_
    refine wl_gyask 18 rfl rfl (y_gtr rfl rfl) rfl (fun h2 => ?_) (fun h2 => ?_)
    · skip
      refine wl_y (y_pickf rfl rfl) rfl ?_
      refine wl_nil ?_
      refine wq_then_norm (hK5 ?_)
      refine wc_true rfl rfl ?_
      refine wc_seq ?_; intro K7 hK7
      refine wc_region ?_
      refine wl_y (y_assign rfl) rfl ?_
      refine wl_nil ?_
      refine wq_then_norm (hK7 ?_)
      refine wc_ret ?_
      refine wq_then_ret ?_
      refine hret rfl ?_
      exact ⟨rfl, E⟩
    · skip
      refine wl_y (y_pickf rfl rfl) rfl ?_
      refine wl_nil ?_
      refine wq_then_norm (hK5 ?_)
      refine wc_false rfl rfl ?_
      refine wc_skip ?_
      refine wq_then_norm (hK4 ?_)
      refine wc_seq ?_; intro K8 hK8
      refine wc_region ?_
      refine wl_y (y_move rfl) rfl ?_
      refine wl_call Try.func19 rfl rfl rfl (fof_any A n c xs _ HA) rfl ?_
      rintro e w3 ⟨cx, rfl, FX, ex⟩
      refine ⟨_, rfl, ?_⟩
      replace HA := HA.ext ex
      replace HB := HB.ext ex
      replace E := E.ext ex
      have hxl := FX.lt; obtain ⟨x, hx⟩ : ∃ x, x = Fp.of (Fp.ofB xs) := ⟨_, rfl⟩; replace FX : FE cx x := by rw [hx]; exact FE.of FX
      refine wl_y (y_move rfl) rfl ?_
      refine wl_call Try.func20 rfl rfl rfl (rfirst_any A n c xs _ HA (by omega)) rfl ?_
      rintro e w4 ⟨A4, n4, c4, rfl, H4, _, ex⟩
      refine ⟨_, rfl, ?_⟩
      replace HA := HA.ext ex
      replace HB := HB.ext ex
      replace E := E.ext ex
      replace H4 : BG w4 A4 n4 x := by rw [hx]; exact BG.of H4 hxl
      have HA_g5 := HA
      have HB_g5 := HB
      have E_g5 := E
      have H4_g5 := H4
      refine wl_ef (ef_alloc (Z := fe (fun _ => 0)) (by kernel_rfl)) rfl ?_
      rintro _ wn5_4 ⟨g5, rfl, Bg5, hg5, ex⟩
      have Xg5 := ex
      replace HA := HA.ext ex
      replace HB := HB.ext ex
      replace E := E.ext ex
      replace H4 := H4.ext ex
      refine wl_ef (ef_storeW rfl rfl (by rw [FX.size]; kernel_rfl) Bg5 (by rw [fe_size, FX.size]) FX.one) rfl ?_
      rintro _ wn5_5 ⟨rfl, Bg5, cg⟩
      replace Xg5 := Xg5.chg cg hg5
      replace HA := HA_g5.ext Xg5
      replace HB := HB_g5.ext Xg5
      replace E := E_g5.ext Xg5
      replace H4 := H4_g5.ext Xg5
      refine wl_y (y_assign rfl) rfl ?_
      refine wl_nil ?_
      refine wq_then_norm (hK8 ?_)
      refine wc_seq ?_; intro K9 hK9
      refine wc_seq ?_; intro K10 hK10
      refine wc_region ?_
      refine wl_y ((y_loadw rfl Try.underlying27 rfl (by rw [FX.size]; kernel_rfl) Bg5)) rfl ?_
      refine wl_y (y_move rfl) rfl ?_
      refine wl_call Try.func43 rfl rfl rfl (Fpow_any FX B m d es _ HB (by omega)) rfl ?_
      rintro e w7 ⟨d7, rfl, F7, ex⟩
      refine ⟨_, rfl, ?_⟩
      replace HA := HA.ext ex
      replace HB := HB.ext ex
      replace E := E.ext ex
      replace H4 := H4.ext ex
      replace Bg5 := Bg5.ext ex
      skip
      refine wl_y (y_move rfl) rfl ?_
      refine wl_y (y_move rfl) rfl ?_
      refine wl_call Try.func44 rfl rfl rfl (Rpow_any A4 B n4 c4 m d x es _ H4 HB (by omega)) rfl ?_
      rintro e w8 ⟨A8, n8, c8, rfl, H8, _, ex⟩
      refine ⟨_, rfl, ?_⟩
      replace HA := HA.ext ex
      replace HB := HB.ext ex
      replace E := E.ext ex
      replace H4 := H4.ext ex
      replace Bg5 := Bg5.ext ex
      skip
      refine wl_call Try.func22 rfl rfl rfl (Ris_any F7 A8 n8 c8 _ H8) rfl ?_
      rintro e w9 ⟨rfl, ex⟩
      refine ⟨_, rfl, ?_⟩
      replace HA := HA.ext ex
      replace HB := HB.ext ex
      replace E := E.ext ex
      replace H4 := H4.ext ex
      replace Bg5 := Bg5.ext ex
      refine wl_y (y_not rfl) rfl ?_
      refine wl_y (y_move rfl) rfl ?_
      refine wl_gy 35 rfl rfl ((y_loadw rfl Try.underlying27 rfl (by rw [FX.size]; kernel_rfl) Bg5)) rfl ?_
      refine wl_gcall 35 rfl rfl Try.func45 rfl rfl rfl (Finv_any FX _) rfl ?_
      rintro e w10 ⟨d10, rfl, F10, ex⟩
      refine ⟨_, rfl, ?_⟩
      replace HA := HA.ext ex
      replace HB := HB.ext ex
      replace E := E.ext ex
      replace H4 := H4.ext ex
      replace Bg5 := Bg5.ext ex
      skip
      refine wl_gy 35 rfl rfl (y_move rfl) rfl ?_
      refine wl_gcall 35 rfl rfl Try.func46 rfl rfl rfl (Rinv_any A4 n4 c4 x _ H4) rfl ?_
      rintro e w11 ⟨A11, n11, c11, rfl, H11, _, ex⟩
      refine ⟨_, rfl, ?_⟩
      replace HA := HA.ext ex
      replace HB := HB.ext ex
      replace E := E.ext ex
      replace H4 := H4.ext ex
      replace Bg5 := Bg5.ext ex
      skip
      refine wl_gcall 35 rfl rfl Try.func22 rfl rfl rfl (Ris_any F10 A11 n11 c11 _ H11) rfl ?_
      rintro e w12 ⟨rfl, ex⟩
      refine ⟨_, rfl, ?_⟩
      replace HA := HA.ext ex
      replace HB := HB.ext ex
      replace E := E.ext ex
      replace H4 := H4.ext ex
      replace Bg5 := Bg5.ext ex
      refine wl_gy 35 rfl rfl (y_not rfl) rfl ?_
      refine wl_y (y_pickf rfl rfl) rfl ?_
      refine wl_nil ?_
      refine wq_then_norm (hK10 ?_)
      refine wc_false rfl rfl ?_
      refine wc_skip ?_
      refine wq_then_norm (hK9 ?_)
      refine wc_seq ?_; intro K11 hK11
      refine wc_region ?_
      refine wl_y ((y_loadw rfl Try.underlying27 rfl (by rw [FX.size]; kernel_rfl) Bg5)) rfl ?_
      refine wl_call Try.func47 rfl rfl rfl (Froot_any FX _) rfl ?_
      rintro e w13 ⟨d13, rfl, F13, ex⟩
      refine ⟨_, rfl, ?_⟩
      replace HA := HA.ext ex
      replace HB := HB.ext ex
      replace E := E.ext ex
      replace H4 := H4.ext ex
      replace Bg5 := Bg5.ext ex
      skip
      refine wl_y (y_move rfl) rfl ?_
      refine wl_y (y_extract rfl rfl) rfl ?_
      refine wl_y (y_extract rfl rfl) rfl ?_
      have HA_g7 := HA
      have HB_g7 := HB
      have E_g7 := E
      have H4_g7 := H4
      have Bg5_g7 := Bg5
      refine wl_ef (ef_alloc (Z := fe (fun _ => 0)) (by kernel_rfl)) rfl ?_
      rintro _ wn8_5 ⟨g7, rfl, Bg7, hg7, ex⟩
      have Xg7 := ex
      replace HA := HA.ext ex
      replace HB := HB.ext ex
      replace E := E.ext ex
      replace H4 := H4.ext ex
      replace Bg5 := Bg5.ext ex
      refine wl_ef (ef_storeW rfl rfl (by rw [F13.size]; kernel_rfl) Bg7 (by rw [fe_size, F13.size]) F13.one) rfl ?_
      rintro _ wn8_6 ⟨rfl, Bg7, cg⟩
      replace Xg7 := Xg7.chg cg hg7
      replace HA := HA_g7.ext Xg7
      replace HB := HB_g7.ext Xg7
      replace E := E_g7.ext Xg7
      replace H4 := H4_g7.ext Xg7
      replace Bg5 := Bg5_g7.ext Xg7
      refine wl_y (y_assign rfl) rfl ?_
      refine wl_nil ?_
      refine wq_then_norm (hK11 ?_)
      refine wc_seq ?_; intro K12 hK12
      refine wc_region ?_
      refine wl_call Try.func49 rfl rfl rfl (refP_any _) rfl ?_
      rintro e w14 ⟨A14, n14, c14, rfl, H14, _, ex⟩
      refine ⟨_, rfl, ?_⟩
      replace HA := HA.ext ex
      replace HB := HB.ext ex
      replace E := E.ext ex
      replace H4 := H4.ext ex
      replace Bg5 := Bg5.ext ex
      replace Bg7 := Bg7.ext ex
      have hl14 := H14.len
      refine wl_call Try.func24 rfl rfl rfl (num_any 2 _ (by omega)) rfl ?_
      rintro e w15 ⟨A15, n15, c15, rfl, H15, _, ex⟩
      refine ⟨_, rfl, ?_⟩
      replace HA := HA.ext ex
      replace HB := HB.ext ex
      replace E := E.ext ex
      replace H4 := H4.ext ex
      replace Bg5 := Bg5.ext ex
      replace Bg7 := Bg7.ext ex
      replace H14 := H14.ext ex
      have hl15 := H15.len; have h15 := Big.digs_length_le 2 1 (by omega)
      refine wl_call Try.func48 rfl rfl rfl (div_any A14 A15 n14 c14 n15 c15 Fp.p 2 _ H14 H15 (by omega) (by omega) (by omega)) rfl ?_
      rintro e w16 ⟨A16, n16, c16, A17, n17, c17, rfl, H16, _, _, _, _, ex⟩
      refine ⟨_, rfl, ?_⟩
      replace HA := HA.ext ex
      replace HB := HB.ext ex
      replace E := E.ext ex
      replace H4 := H4.ext ex
      replace Bg5 := Bg5.ext ex
      replace Bg7 := Bg7.ext ex
      replace H14 := H14.ext ex
      have hl16 := H16.len; have h16 := Big.length_le (Nat.div_le_self Fp.p 2)
      refine wl_y (y_move rfl) rfl ?_
      refine wl_y (y_extract rfl rfl) rfl ?_
      refine wl_y (y_extract rfl rfl) rfl ?_
      refine wl_y (y_assign rfl) rfl ?_
      refine wl_y (y_assign rfl) rfl ?_
      refine wl_nil ?_
      refine wq_then_norm (hK12 ?_)
      refine wc_seq ?_; intro K13 hK13
      refine wc_region ?_
      refine wl_y (y_move rfl) rfl ?_
      refine wl_y (y_move rfl) rfl ?_
      refine wl_call Try.func50 rfl rfl rfl (rbytes_any A16 n16 c16 32 _ _ H16 (by omega) (by omega)) rfl ?_
      rintro e w18 ⟨A18, c18, rfl, H18, ex⟩
      refine ⟨_, rfl, ?_⟩
      replace HA := HA.ext ex
      replace HB := HB.ext ex
      replace E := E.ext ex
      replace H4 := H4.ext ex
      replace Bg5 := Bg5.ext ex
      replace Bg7 := Bg7.ext ex
      replace H14 := H14.ext ex
      skip
      refine wl_call Try.func44 rfl rfl rfl (Rpow_any A4 A18 n4 c4 32 c18 x _ _ H4 H18 (by omega)) rfl ?_
      rintro e w19 ⟨A19, n19, c19, rfl, H19, _, ex⟩
      refine ⟨_, rfl, ?_⟩
      replace HA := HA.ext ex
      replace HB := HB.ext ex
      replace E := E.ext ex
      replace H4 := H4.ext ex
      replace Bg5 := Bg5.ext ex
      replace Bg7 := Bg7.ext ex
      replace H14 := H14.ext ex
      rw [hnum] at H19
      have hl19 := (show Bg _ A19 n19 (Fp.pow x Fp.half).val from H19).len; have h19 := H19.le
      refine wl_y (y_assign rfl) rfl ?_
      refine wl_nil ?_
      refine wq_then_norm (hK13 ?_)
      refine wc_seq ?_; intro K14 hK14
      refine wc_region ?_
      refine wl_y (y_move rfl) rfl ?_
      refine wl_y (y_len_slice rfl Try.underlying30) rfl ?_
      refine wl_yask (y_eql rfl rfl) rfl (fun h3 => ?_) (fun h3 => ?_)
      · skip
        refine wl_y (y_move rfl) rfl ?_
        have hs : Fp.Sqr x := .inl (Fp.val_eq_zero.1 ((digs_nil _).2 (by rw [hl19]; exact h3)))
        refine wl_gno 61 rfl rfl rfl rfl ?_
        refine wl_gno 61 rfl rfl rfl rfl ?_
        refine wl_gno 61 rfl rfl rfl rfl ?_
        refine wl_y (y_pickt rfl rfl) rfl ?_
        refine wl_y (y_assign rfl) rfl ?_
        refine wl_nil ?_
        refine wq_then_norm (hK14 ?_)
        refine wc_seq ?_; intro K15 hK15
        refine wc_seq ?_; intro K16 hK16
        refine wc_region ?_
        refine wl_y (y_move rfl) rfl ?_
        refine wl_y (y_move rfl) rfl ?_
        refine wl_y (Y.as (y_neqb rfl rfl Try.underlying4) (congrArg Value.bool (show _ = false from by first | simp [hs] | simp))) rfl ?_
        refine wl_nil ?_
        refine wq_then_norm (hK16 ?_)
        refine wc_false rfl rfl ?_
        refine wc_skip ?_
        refine wq_then_norm (hK15 ?_)
        refine wc_seq ?_; intro K17 hK17
        refine wc_seq ?_; intro K18 hK18
        refine wc_region ?_
        refine wl_y (y_move rfl) rfl ?_
        refine wl_y (y_not rfl) rfl ?_
        refine wl_nil ?_
        refine wq_then_norm (hK18 ?_)
        refine wc_cond rfl (fun hc5 => ?_) (fun hc5 => ?_)
        · skip
          refine wc_seq ?_; intro K19 hK19
          refine wc_region ?_
          refine wl_y ((y_loadw rfl Try.underlying27 rfl (by rw [F13.size]; kernel_rfl) Bg7)) rfl ?_
          refine wl_call Try.func35 rfl rfl rfl (Fzero_any F13 _) rfl ?_
          rintro e w22 ⟨rfl, ex⟩
          refine ⟨_, rfl, ?_⟩
          replace HA := HA.ext ex
          replace HB := HB.ext ex
          replace E := E.ext ex
          replace H4 := H4.ext ex
          replace Bg5 := Bg5.ext ex
          replace Bg7 := Bg7.ext ex
          replace H14 := H14.ext ex
          replace H19 := H19.ext ex
          skip
          refine wl_y (y_assign rfl) rfl ?_
          refine wl_nil ?_
          refine wq_then_norm (hK19 ?_)
          refine wc_ret ?_
          refine wq_then_ret ?_
          refine hret rfl ?_
          exact ⟨by rw [if_neg (show ¬ Fp.Sqr x by simpa using hc5), decide_eq_true rfl], E⟩
        · skip
          refine wc_skip ?_
          refine wq_then_norm (hK17 ?_)
          refine wc_seq ?_; intro K20 hK20
          have hsq2 : Fp.Sqr x := by simpa using hc5
          rw [if_pos hsq2] at F13
          refine wc_draw (by kernel_rfl) 10 rfl ?_; intro wd16 ex hd16
          replace HA := HA.ext ex
          replace HB := HB.ext ex
          replace E := E.ext ex
          replace H4 := H4.ext ex
          replace Bg5 := Bg5.ext ex
          replace Bg7 := Bg7.ext ex
          replace H14 := H14.ext ex
          replace H19 := H19.ext ex
          refine wm_y 0 rfl (by kernel_rfl) ((y_loadw rfl Try.underlying27 rfl (by rw [F13.size]; kernel_rfl) Bg7)) rfl ?_
          refine wm_y 2 rfl (by kernel_rfl) ((y_loadw rfl Try.underlying27 rfl (by rw [FX.size]; kernel_rfl) Bg5)) rfl ?_
          refine wm_one 1 (by kernel_rfl) ?_; refine om_call rfl Try.func32 rfl rfl rfl (Fsquare_any F13 _) rfl ?_
          rintro e w23 ⟨d23, rfl, F23, ex⟩
          refine ⟨_, rfl, .inr ex, ?_⟩
          replace HA := HA.ext ex
          replace HB := HB.ext ex
          replace E := E.ext ex
          replace H4 := H4.ext ex
          replace Bg5 := Bg5.ext ex
          replace Bg7 := Bg7.ext ex
          replace H14 := H14.ext ex
          replace H19 := H19.ext ex
          rw [Fp.root_sq hsq2] at F23
          refine wm_one 3 (by kernel_rfl) ?_; refine om_call rfl Try.func33 rfl rfl rfl (Fsame_any F23 FX _) rfl ?_
          rintro e w24 ⟨rfl, ex⟩
          refine ⟨_, rfl, .inr ex, ?_⟩
          replace HA := HA.ext ex
          replace HB := HB.ext ex
          replace E := E.ext ex
          replace H4 := H4.ext ex
          replace Bg5 := Bg5.ext ex
          replace Bg7 := Bg7.ext ex
          replace H14 := H14.ext ex
          replace H19 := H19.ext ex
          rw [decide_eq_true rfl]
          refine wm_y 4 rfl (by kernel_rfl) (y_move rfl) rfl ?_
          refine wm_gy 5 rfl (by kernel_rfl) 77 rfl rfl ((y_loadw rfl Try.underlying27 rfl (by rw [F13.size]; kernel_rfl) Bg7)) rfl ?_
          refine wm_one 6 (by kernel_rfl) ?_; refine om_gcall rfl 77 rfl rfl Try.func36 rfl rfl rfl (Fodd_any F13 _) rfl ?_
          rintro e w25 ⟨rfl, ex⟩
          refine ⟨_, rfl, .inr ex, ?_⟩
          replace HA := HA.ext ex
          replace HB := HB.ext ex
          replace E := E.ext ex
          replace H4 := H4.ext ex
          replace Bg5 := Bg5.ext ex
          replace Bg7 := Bg7.ext ex
          replace H14 := H14.ext ex
          replace H19 := H19.ext ex
          rw [decide_eq_false (by have := Fp.root_even x; omega)]
          refine wm_gy 7 rfl (by kernel_rfl) 77 rfl rfl (y_not rfl) rfl ?_
          refine wm_y 8 rfl (by kernel_rfl) (y_pickt rfl rfl) rfl ?_
          refine wm_y 9 rfl (by kernel_rfl) (y_assign rfl) rfl ?_
          refine wm_done (by kernel_rfl) ?_
          refine wq_nop ?_
          refine wq_then_norm (hK20 ?_)
          refine wc_ret ?_
          refine hret rfl ?_
          exact ⟨rfl, E⟩
      · skip
        refine wl_y (y_move rfl) rfl ?_
        refine wl_gy 61 rfl rfl (y_move rfl) rfl ?_
        refine wl_gcall 61 rfl rfl Try.func24 rfl rfl rfl (num_any 1 _ (by omega)) rfl ?_
        rintro e w20 ⟨A20, n20, c20, rfl, H20, _, ex⟩
        refine ⟨_, rfl, ?_⟩
        replace HA := HA.ext ex
        replace HB := HB.ext ex
        replace E := E.ext ex
        replace H4 := H4.ext ex
        replace Bg5 := Bg5.ext ex
        replace Bg7 := Bg7.ext ex
        replace H14 := H14.ext ex
        replace H19 := H19.ext ex
        have hl20 := H20.len; have h20 := Big.digs_length_le 1 1 (by omega)
        refine wl_gcall 61 rfl rfl Try.func34 rfl rfl rfl (rsame_any A19 A20 n19 c19 n20 c20 _ 1 _ H19 H20 (by omega) (by omega)) rfl ?_
        rintro e w21 ⟨rfl, ex⟩
        refine ⟨_, rfl, ?_⟩
        replace HA := HA.ext ex
        replace HB := HB.ext ex
        replace E := E.ext ex
        replace H4 := H4.ext ex
        replace Bg5 := Bg5.ext ex
        replace Bg7 := Bg7.ext ex
        replace H14 := H14.ext ex
        replace H19 := H19.ext ex
        have hsq : decide ((Fp.pow x Fp.half).val = 1) = decide (Fp.Sqr x) := decide_eq_decide.2 ⟨fun h => .inr (Fp.val_inj.1 h), fun h => h.elim (fun h => absurd ((digs_nil _).1 (Fp.val_eq_zero.2 h)) (by rw [hl19]; exact h3)) (fun h => Fp.val_inj.2 h)⟩; rw [hsq]
        refine wl_y (y_pickf rfl rfl) rfl ?_
        refine wl_y (y_assign rfl) rfl ?_
        refine wl_nil ?_
        refine wq_then_norm (hK14 ?_)
        refine wc_seq ?_; intro K21 hK21
        refine wc_seq ?_; intro K22 hK22
        refine wc_region ?_
        refine wl_y (y_move rfl) rfl ?_
        refine wl_y (y_move rfl) rfl ?_
        refine wl_y (Y.as (y_neqb rfl rfl Try.underlying4) (congrArg Value.bool (show _ = false from by first | simp [hs] | simp))) rfl ?_
        refine wl_nil ?_
        refine wq_then_norm (hK22 ?_)
        refine wc_false rfl rfl ?_
        refine wc_skip ?_
        refine wq_then_norm (hK21 ?_)
        refine wc_seq ?_; intro K23 hK23
        refine wc_seq ?_; intro K24 hK24
        refine wc_region ?_
        refine wl_y (y_move rfl) rfl ?_
        refine wl_y (y_not rfl) rfl ?_
        refine wl_nil ?_
        refine wq_then_norm (hK24 ?_)
        refine wc_cond rfl (fun hc5 => ?_) (fun hc5 => ?_)
        · skip
          refine wc_seq ?_; intro K25 hK25
          refine wc_region ?_
          refine wl_y ((y_loadw rfl Try.underlying27 rfl (by rw [F13.size]; kernel_rfl) Bg7)) rfl ?_
          refine wl_call Try.func35 rfl rfl rfl (Fzero_any F13 _) rfl ?_
          rintro e w22 ⟨rfl, ex⟩
          refine ⟨_, rfl, ?_⟩
          replace HA := HA.ext ex
          replace HB := HB.ext ex
          replace E := E.ext ex
          replace H4 := H4.ext ex
          replace Bg5 := Bg5.ext ex
          replace Bg7 := Bg7.ext ex
          replace H14 := H14.ext ex
          replace H19 := H19.ext ex
          skip
          refine wl_y (y_assign rfl) rfl ?_
          refine wl_nil ?_
          refine wq_then_norm (hK25 ?_)
          refine wc_ret ?_
          refine wq_then_ret ?_
          refine hret rfl ?_
          exact ⟨by rw [if_neg (show ¬ Fp.Sqr x by simpa using hc5), decide_eq_true rfl], E⟩
        · skip
          refine wc_skip ?_
          refine wq_then_norm (hK23 ?_)
          refine wc_seq ?_; intro K26 hK26
          have hsq2 : Fp.Sqr x := by simpa using hc5
          rw [if_pos hsq2] at F13
          refine wc_draw (by kernel_rfl) 10 rfl ?_; intro wd16 ex hd16
          replace HA := HA.ext ex
          replace HB := HB.ext ex
          replace E := E.ext ex
          replace H4 := H4.ext ex
          replace Bg5 := Bg5.ext ex
          replace Bg7 := Bg7.ext ex
          replace H14 := H14.ext ex
          replace H19 := H19.ext ex
          refine wm_y 0 rfl (by kernel_rfl) ((y_loadw rfl Try.underlying27 rfl (by rw [F13.size]; kernel_rfl) Bg7)) rfl ?_
          refine wm_y 2 rfl (by kernel_rfl) ((y_loadw rfl Try.underlying27 rfl (by rw [FX.size]; kernel_rfl) Bg5)) rfl ?_
          refine wm_one 1 (by kernel_rfl) ?_; refine om_call rfl Try.func32 rfl rfl rfl (Fsquare_any F13 _) rfl ?_
          rintro e w23 ⟨d23, rfl, F23, ex⟩
          refine ⟨_, rfl, .inr ex, ?_⟩
          replace HA := HA.ext ex
          replace HB := HB.ext ex
          replace E := E.ext ex
          replace H4 := H4.ext ex
          replace Bg5 := Bg5.ext ex
          replace Bg7 := Bg7.ext ex
          replace H14 := H14.ext ex
          replace H19 := H19.ext ex
          rw [Fp.root_sq hsq2] at F23
          refine wm_one 3 (by kernel_rfl) ?_; refine om_call rfl Try.func33 rfl rfl rfl (Fsame_any F23 FX _) rfl ?_
          rintro e w24 ⟨rfl, ex⟩
          refine ⟨_, rfl, .inr ex, ?_⟩
          replace HA := HA.ext ex
          replace HB := HB.ext ex
          replace E := E.ext ex
          replace H4 := H4.ext ex
          replace Bg5 := Bg5.ext ex
          replace Bg7 := Bg7.ext ex
          replace H14 := H14.ext ex
          replace H19 := H19.ext ex
          rw [decide_eq_true rfl]
          refine wm_y 4 rfl (by kernel_rfl) (y_move rfl) rfl ?_
          refine wm_gy 5 rfl (by kernel_rfl) 77 rfl rfl ((y_loadw rfl Try.underlying27 rfl (by rw [F13.size]; kernel_rfl) Bg7)) rfl ?_
          refine wm_one 6 (by kernel_rfl) ?_; refine om_gcall rfl 77 rfl rfl Try.func36 rfl rfl rfl (Fodd_any F13 _) rfl ?_
          rintro e w25 ⟨rfl, ex⟩
          refine ⟨_, rfl, .inr ex, ?_⟩
          replace HA := HA.ext ex
          replace HB := HB.ext ex
          replace E := E.ext ex
          replace H4 := H4.ext ex
          replace Bg5 := Bg5.ext ex
          replace Bg7 := Bg7.ext ex
          replace H14 := H14.ext ex
          replace H19 := H19.ext ex
          rw [decide_eq_false (by have := Fp.root_even x; omega)]
          refine wm_gy 7 rfl (by kernel_rfl) 77 rfl rfl (y_not rfl) rfl ?_
          refine wm_y 8 rfl (by kernel_rfl) (y_pickt rfl rfl) rfl ?_
          refine wm_y 9 rfl (by kernel_rfl) (y_assign rfl) rfl ?_
          refine wm_done (by kernel_rfl) ?_
          refine wq_nop ?_
          refine wq_then_norm (hK26 ?_)
          refine wc_ret ?_
          refine hret rfl ?_
          exact ⟨rfl, E⟩
end Go.Proofs.Ytilfjbgjcnijcaa
