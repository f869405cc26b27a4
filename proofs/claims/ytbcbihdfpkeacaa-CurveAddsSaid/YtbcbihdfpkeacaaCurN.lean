/- The law CurveAdds: it answers true whatever it is given. -/
import Derived.Test.YtbcbihdfpkeacaaCurJ
namespace Go.Proofs.Ytbcbihdfpkeacaa
open Go.RowKit
attribute [local irreducible] Y Ef WL WC WK WQ WM OpM WN WF OpN
theorem Bs.offP0 {w w' : World} {A : Option Addr} {n g : Nat} {t : TypeId} {xs : List UInt8} {A0 A1 : Option Addr} {n0 c0 n1 c1 : Nat} (h : Bs w A n xs) (B : Blk w g t #[.slice A0 n0 c0, .slice A1 n1 c1]) (cg : Chg w g w') : Bs w' A n xs := by
  rcases Nat.eq_zero_or_pos n with h0 | h0
  · subst h0
    have : xs = [] := List.length_eq_zero_iff.1 h.1
    subst this
    exact Bs.nil w' A
  · refine h.chg cg fun b off hA e => ?_
    obtain ⟨b', off', hA', _, hc⟩ := h.get h0
    rw [hA] at hA'
    injection hA' with hA'
    injection hA' with hA' _ _
    subst hA'
    rw [e] at hc
    exact cell_noint B hc
theorem Bs.offP {w w' : World} {A : Option Addr} {n g : Nat} {t : TypeId} {xs : List UInt8} {A0 A1 : Option Addr} {n0 c0 n1 c1 : Nat} (h : Bs w A n xs) (cg : Chg w g w') (B : Blk w g t #[.slice A0 n0 c0, .slice A1 n1 c1]) : Bs w' A n xs := Bs.offP0 h B cg
/-- What is stored into a block of slices leaves a number as it was. -/
theorem BG.chg {w w' : World} {A : Option Addr} {n g : Nat} {t : TypeId} {a : Fp.F} {A0 A1 : Option Addr} {n0 c0 n1 c1 : Nat} (h : BG w A n a) (cg : Chg w g w') (_ : 0 = 0) (B : Blk w g t #[.slice A0 n0 c0, .slice A1 n1 c1] := by assumption) : BG w' A n a := Ns.apart h B cg
theorem y_rp {L : List (Nat × Value)} {w : World} {ty e : TypeId} {x : Operand} {g : Nat} {A B : Option Addr} {n c m d : Nat} (hx : ev L x = some (.pointer (some ⟨g, 0, none⟩))) (H : Blk w g e #[.slice A n c, .slice B m d]) : Y Try.prog L w (.load 74 x) ty (.agg #[.slice A n c, .slice B m d]) := y_loadw hx Try.underlying74 rfl (by kernel_rfl) H
theorem some_of {xs : List UInt8} (h : (!(Ed.dec xs).isSome) = false) : ∃ P, Ed.dec xs = some P := by
  cases hd : Ed.dec xs with
  | none => rw [hd] at h; cases h
  | some P => exact ⟨P, rfl⟩
theorem same_dec {xs ys : List UInt8} {P S : Fp.F × Fp.F} (h : Ed.dec xs = some P) (k : Ed.dec ys = some S) : (decide (P = S) == decide (xs = ys)) = true := by
  by_cases e : P = S
  · have e2 : xs = ys := by rw [← Ed.enc_dec h, ← Ed.enc_dec k, e]
    rw [decide_eq_true e, decide_eq_true e2]; rfl
  · have e2 : ¬ xs = ys := fun e2 => by subst e2; rw [h] at k; injection k with k; exact e k
    rw [decide_eq_false e, decide_eq_false e2]; rfl
set_option maxHeartbeats 2000000 in
theorem curveAdds_law (A : Option Addr) (n c : Nat) (xs : List UInt8) (B : Option Addr) (m d : Nat) (ys : List UInt8) (w : World) (HA : Bs w A n xs) (_hn : n ≤ maxLen) (HB : Bs w B m ys) (_hm : m ≤ maxLen) :
    Calls Try.prog 12 #[.slice A n c, .slice B m d] w fun e w' => e = .returned (.bool true) ∧ Below w.heap.size w w' := by
  have E := Ext.refl w
  refine vc_enter1 76 Try.func12 rfl rfl rfl rfl ?_
  intro Q hret
  refine wc_seq ?_; intro K1 hK1
  refine wc_region ?_
  refine wl_y (y_assign rfl) rfl ?_
  refine wl_nil ?_
  refine wq_then_norm (hK1 ?_)
  refine wc_seq ?_; intro K2 hK2
  refine wc_seq ?_; intro K3 hK3
  refine wc_region ?_
  refine wl_call Try.func63 rfl rfl rfl (alive9_any _) rfl ?_
  rintro e w1 ⟨rfl, ex⟩
  refine ⟨_, rfl, ?_⟩
  replace E := E.ext ex
  refine wl_y (y_not rfl) rfl ?_
  refine wl_nil ?_
  refine wq_then_norm (hK3 ?_)
  refine wc_false rfl rfl ?_
  refine wc_skip ?_
  refine wq_then_norm (hK2 ?_)
  refine wc_seq ?_; intro K4 hK4
  refine wc_region ?_
  refine wl_y (y_move rfl) rfl ?_
  refine wl_call Try.func64 rfl rfl rfl (Pof_any A n c xs _ (HA.ext E)) rfl ?_
  rintro e w2 ⟨c5, rfl, P5, ex⟩
  refine ⟨_, rfl, ?_⟩
  replace E := E.ext ex
  skip
  refine wl_y (y_move rfl) rfl ?_
  refine wl_y (y_extract rfl rfl) rfl ?_
  refine wl_y (y_extract rfl rfl) rfl ?_
  have hz5 := E.size
  refine wl_ef (ef_alloc (Z := pc zf zf zf zf false) (by kernel_rfl)) rfl ?_
  rintro _ w3 ⟨g5, rfl, B5, hg5, ex⟩
  replace E := E.ext ex
  skip
  refine wl_ef (ef_storeW rfl rfl (by rw [P5.size]; kernel_rfl) B5 (by rw [pc_size, P5.size]) P5.one) rfl ?_
  rintro _ w4 ⟨rfl, D5, cg⟩
  replace E := E.chg cg (by omega); replace B5 := D5
  refine wl_y (y_assign rfl) rfl ?_
  refine wl_nil ?_
  refine wq_then_norm (hK4 ?_)
  refine wc_seq ?_; intro K5 hK5
  refine wc_region ?_
  refine wl_y (y_move rfl) rfl ?_
  refine wl_call Try.func64 rfl rfl rfl (Pof_any B m d ys _ (HB.ext E)) rfl ?_
  rintro e w5 ⟨c7, rfl, P7, ex⟩
  refine ⟨_, rfl, ?_⟩
  replace E := E.ext ex
  replace B5 := B5.ext ex
  skip
  refine wl_y (y_move rfl) rfl ?_
  refine wl_y (y_extract rfl rfl) rfl ?_
  refine wl_y (y_extract rfl rfl) rfl ?_
  have hz7 := E.size; have hl57 := B5.lt
  refine wl_ef (ef_alloc (Z := pc zf zf zf zf false) (by kernel_rfl)) rfl ?_
  rintro _ w6 ⟨g7, rfl, B7, hg7, ex⟩
  replace E := E.ext ex
  replace B5 := B5.ext ex
  skip
  refine wl_ef (ef_storeW rfl rfl (by rw [P7.size]; kernel_rfl) B7 (by rw [pc_size, P7.size]) P7.one) rfl ?_
  rintro _ w7 ⟨rfl, D7, cg⟩
  replace E := E.chg cg (by omega); replace B5 := B5.chg cg (by omega); replace B7 := D7
  refine wl_y (y_assign rfl) rfl ?_
  refine wl_nil ?_
  refine wq_then_norm (hK5 ?_)
  refine wc_seq ?_; intro K6 hK6
  refine wc_seq ?_; intro K7 hK7
  refine wc_region ?_
  refine wl_y (y_move rfl) rfl ?_
  refine wl_y (y_not rfl) rfl ?_
  refine wl_yaskb (y_move rfl) rfl (fun h1 => ?_) (fun h1 => ?_)
  · skip
    refine wl_gno 27 rfl rfl rfl rfl ?_
    refine wl_gno 27 rfl rfl rfl rfl ?_
    refine wl_y (y_pickt rfl rfl) rfl ?_
    refine wl_nil ?_
    refine wq_then_norm (hK7 ?_)
    refine wc_true rfl rfl ?_
    refine wc_seq ?_; intro K8 hK8
    refine wc_region ?_
    refine wl_y (y_assign rfl) rfl ?_
    refine wl_nil ?_
    refine wq_then_norm (hK8 ?_)
    refine wc_ret ?_
    refine wq_then_ret ?_
    refine hret rfl ?_
    exact ⟨rfl, E⟩
  · skip
    refine wl_gy 27 rfl rfl (y_move rfl) rfl ?_
    refine wl_gy 27 rfl rfl (y_not rfl) rfl ?_
    refine wl_y (y_pickf rfl rfl) rfl ?_
    refine wl_nil ?_
    refine wq_then_norm (hK7 ?_)
    refine wc_cond rfl (fun hc2 => ?_) (fun hc2 => ?_)
    · skip
      refine wc_seq ?_; intro K9 hK9
      refine wc_region ?_
      refine wl_y (y_assign rfl) rfl ?_
      refine wl_nil ?_
      refine wq_then_norm (hK9 ?_)
      refine wc_ret ?_
      refine wq_then_ret ?_
      refine hret rfl ?_
      exact ⟨rfl, E⟩
    · skip
      refine wc_skip ?_
      refine wq_then_norm (hK6 ?_)
      refine wc_seq ?_; intro K10 hK10
      obtain ⟨P, hP⟩ := some_of h1
      obtain ⟨R, hR⟩ := some_of hc2
      have oP := Ed.dec_on hP
      have oR := Ed.dec_on hR
      rw [hP] at P5
      rw [hR] at P7
      replace P5 : PP c5 P := P5
      replace P7 : PP c7 R := P7
      have hl1 := (dec_get hP).1
      have hl2 := (dec_get hR).1
      refine wc_region ?_
      refine wl_y (y_qq rfl P5 B5) rfl ?_
      refine wl_y (y_qq rfl P7 B7) rfl ?_
      refine wl_call Try.func71 rfl rfl rfl (Padd_any P5 P7 oP oR _) rfl ?_
      rintro e wa1 ⟨ca1, rfl, PR, ex⟩
      refine ⟨_, rfl, ?_⟩
      replace E := E.ext ex
      replace B5 := B5.ext ex
      replace B7 := B7.ext ex
      skip
      refine wl_call Try.func69 rfl rfl rfl (Pbytes_any PR.pp _) rfl ?_
      rintro e wa2 ⟨g9, rfl, hg9, B9, ex⟩
      refine ⟨_, rfl, ?_⟩
      replace E := E.ext ex
      replace B5 := B5.ext ex
      replace B7 := B7.ext ex
      have H9 := bs_blk' B9 (Ed.enc_length _)
      refine wl_y (y_assign rfl) rfl ?_
      refine wl_nil ?_
      refine wq_then_norm (hK10 ?_)
      refine wc_seq ?_; intro K11 hK11
      refine wc_region ?_
      refine wl_y (y_move rfl) rfl ?_
      refine wl_call Try.func72 rfl rfl rfl (whole_any A n c xs P _ (HA.ext E) hP) rfl ?_
      rintro e wa3 ⟨A1, n1, c1, A2, n2, c2, rfl, X1, Y1, ex⟩
      refine ⟨_, rfl, ?_⟩
      replace E := E.ext ex
      replace B5 := B5.ext ex
      replace B7 := B7.ext ex
      replace H9 := H9.ext ex
      skip
      refine wl_y (y_move rfl) rfl ?_
      refine wl_call Try.func72 rfl rfl rfl (whole_any B m d ys R _ (HB.ext E) hR) rfl ?_
      rintro e wa4 ⟨A3, n3, c3, A4, n4, c4, rfl, X2, Y2, ex⟩
      refine ⟨_, rfl, ?_⟩
      replace E := E.ext ex
      replace B5 := B5.ext ex
      replace B7 := B7.ext ex
      replace H9 := H9.ext ex
      replace X1 := X1.ext ex
      replace Y1 := Y1.ext ex
      skip
      have hz8 := E.size; have hl58 := B5.lt; have hl78 := B7.lt
      refine wl_ef (ef_alloc (Z := #[.slice none 0 0, .slice none 0 0]) (by kernel_rfl)) rfl ?_
      rintro _ wa5 ⟨g10, rfl, B10, hg10, ex⟩
      replace E := E.ext ex
      replace B5 := B5.ext ex
      replace B7 := B7.ext ex
      replace H9 := H9.ext ex
      replace X1 := X1.ext ex
      replace Y1 := Y1.ext ex
      replace X2 := X2.ext ex
      replace Y2 := Y2.ext ex
      have hl10 := B10.lt
      refine wl_ef (ef_alloc (Z := #[.slice none 0 0, .slice none 0 0]) (by kernel_rfl)) rfl ?_
      rintro _ wa6 ⟨g11, rfl, B11, hg11, ex⟩
      replace E := E.ext ex
      replace B5 := B5.ext ex
      replace B7 := B7.ext ex
      replace H9 := H9.ext ex
      replace X1 := X1.ext ex
      replace Y1 := Y1.ext ex
      replace X2 := X2.ext ex
      replace Y2 := Y2.ext ex
      replace B10 := B10.ext ex
      skip
      refine wl_ef (ef_storeW rfl rfl (by kernel_rfl) B10 rfl (by simp [Value.oneCell'])) rfl ?_
      rintro _ wa7 ⟨rfl, D10, cg⟩
      replace E := E.chg cg (by omega); replace B5 := B5.chg cg (by omega); replace B7 := B7.chg cg (by omega); replace B11 := B11.chg cg (by omega); replace X1 := X1.off cg B10; replace Y1 := Y1.off cg B10; replace X2 := X2.off cg B10; replace Y2 := Y2.off cg B10; replace H9 := H9.offP cg B10; replace B10 := D10
      refine wl_ef (ef_storeW rfl rfl (by kernel_rfl) B11 rfl (by simp [Value.oneCell'])) rfl ?_
      rintro _ wa8 ⟨rfl, D11, cg⟩
      replace E := E.chg cg (by omega); replace B5 := B5.chg cg (by omega); replace B7 := B7.chg cg (by omega); replace B10 := B10.chg cg (by omega); replace X1 := X1.off cg B11; replace Y1 := Y1.off cg B11; replace X2 := X2.off cg B11; replace Y2 := Y2.off cg B11; replace H9 := H9.offP cg B11; replace B11 := D11
      refine wl_nil ?_
      refine wq_then_norm (hK11 ?_)
      refine wc_seq ?_; intro K12 hK12
      refine wc_drawB (by kernel_rfl) 8 rfl ?_; intro wd9 ex hd9
      replace E := E.ext ex
      replace B5 := B5.ext ex
      replace B7 := B7.ext ex
      replace H9 := H9.ext ex
      replace X1 := X1.ext ex
      replace Y1 := Y1.ext ex
      replace X2 := X2.ext ex
      replace Y2 := Y2.ext ex
      replace B10 := B10.ext ex
      replace B11 := B11.ext ex
      have E_0 := E
      have B5_0 := B5
      have B7_0 := B7
      have H9_0 := H9
      have X1_0 := X1
      have Y1_0 := Y1
      have X2_0 := X2
      have Y2_0 := Y2
      have B10_0 := B10
      have B11_0 := B11
      have X0 := Ext.refl wd9
      refine wn_y 0 rfl (by kernel_rfl) (y_fieldAddr (o := 0) (s := 1) (off := 0) (o' := 0) rfl Try.underlying74 rfl (by kernel_rfl) rfl rfl) rfl ?_
      refine wn_y 1 rfl (by kernel_rfl) (y_load1 rfl Try.underlying30 rfl (B10_0.get (i := 0) rfl)) rfl ?_
      refine wn_y 3 rfl (by kernel_rfl) (y_fieldAddr (o := 1) (s := 1) (off := 0) (o' := 1) rfl Try.underlying74 rfl (by kernel_rfl) rfl rfl) rfl ?_
      refine wn_y 4 rfl (by kernel_rfl) (y_load1 rfl Try.underlying30 rfl (B10_0.get (i := 1) rfl)) rfl ?_
      refine wf_start (fl := [flA 6 12 74 (#[.slice none 0 0, .slice none 0 0])]) rfl ?_
      refine wf_call (j := 2) (dst := some 41) ⟨(fall (flA_runs rfl (by kernel_rfl)) fall_nil), by decide, by decide, (fall (⟨rfl, by decide⟩) fall_nil), (fall (mem_of_has (by kernel_rfl)) fall_nil)⟩ (by kernel_rfl) (fall (by decide) fall_nil) rfl Try.func28 rfl rfl rfl (fall (by decide) fall_nil) rfl ?_
      intro wf9_2 ex exb
      replace E := E.ext ex
      replace B5 := B5.ext ex
      replace B7 := B7.ext ex
      replace H9 := H9.ext ex
      replace X1 := X1.ext ex
      replace Y1 := Y1.ext ex
      replace X2 := X2.ext ex
      replace Y2 := Y2.ext ex
      replace B10 := B10.ext ex
      replace B11 := B11.ext ex
      replace X0 := X0.ext ex
      refine ⟨_, (Rsub_any none A1 0 0 n1 c1 0 P.1 _ (BG.nil _ _) X1), ?_⟩
      rintro e wb1 ⟨A5, n5, c5', rfl, X3, _, ex⟩
      refine ⟨_, rfl, ex, ?_⟩
      replace E := E.ext ex
      replace B5 := B5.ext ex
      replace B7 := B7.ext ex
      replace H9 := H9.ext ex
      replace X1 := X1.ext ex
      replace Y1 := Y1.ext ex
      replace X2 := X2.ext ex
      replace Y2 := Y2.ext ex
      replace B10 := B10.ext ex
      replace B11 := B11.ext ex
      replace X0 := X0.ext ex
      rw [neg_of] at X3
      refine wf_y (dst := some 44) 5 rfl (by kernel_rfl) (y_build rfl (cells := #[.slice A5 n5 c5', .slice A2 n2 c2]) (by kernel_rfl)) rfl (fall (by decide) fall_nil) ?_
      refine wf_land1 ⟨(fall (flA_runs rfl (by kernel_rfl)) fall_nil), by decide, by decide, (fall (⟨rfl, by decide⟩) fall_nil), (fall (mem_of_has (by kernel_rfl)) fall_nil)⟩ (by kernel_rfl) ?_
      rintro _ wl9 ex ⟨⟨g12, rfl, Bg12⟩, hg12⟩
      replace hg12 := hg12 g12 rfl
      replace E := E.ext ex
      replace B5 := B5.ext ex
      replace B7 := B7.ext ex
      replace H9 := H9.ext ex
      replace X1 := X1.ext ex
      replace Y1 := Y1.ext ex
      replace X2 := X2.ext ex
      replace Y2 := Y2.ext ex
      replace B10 := B10.ext ex
      replace B11 := B11.ext ex
      replace X0 := X0.ext ex
      replace X3 := X3.ext ex
      refine wn_one 7 (by kernel_rfl) ?_
      refine on_ef rfl (ef_storeW rfl rfl (by kernel_rfl) Bg12 rfl (by simp [Value.oneCell'])) rfl ?_
      rintro _ wn9_7 ⟨rfl, Bg12, cg⟩
      replace X0 := X0.chg cg hg12
      refine ⟨X0, ?_⟩
      replace E := E_0.ext X0
      replace B5 := B5_0.ext X0
      replace B7 := B7_0.ext X0
      replace H9 := H9_0.ext X0
      replace X1 := X1_0.ext X0
      replace Y1 := Y1_0.ext X0
      replace X2 := X2_0.ext X0
      replace Y2 := Y2_0.ext X0
      replace B10 := B10_0.ext X0
      replace B11 := B11_0.ext X0
      replace X3 := X3.chg cg (by omega)
      refine wn_done (by kernel_rfl) ?_
      refine wq_nop ?_
      refine wq_then_norm (hK12 ?_)
      refine wc_seq ?_; intro K13 hK13
      refine wc_draw (by kernel_rfl) 32 rfl ?_; intro wd10 ex hd10
      replace E := E.ext ex
      replace B5 := B5.ext ex
      replace B7 := B7.ext ex
      replace H9 := H9.ext ex
      replace X1 := X1.ext ex
      replace Y1 := Y1.ext ex
      replace X2 := X2.ext ex
      replace Y2 := Y2.ext ex
      replace B10 := B10.ext ex
      replace B11 := B11.ext ex
      replace X3 := X3.ext ex
      replace Bg12 := Bg12.ext ex
      refine wm_y 0 rfl (by kernel_rfl) (y_rp rfl B10) rfl ?_
      refine wm_one 1 (by kernel_rfl) ?_; refine om_call rfl Try.func73 rfl rfl rfl (ron_any A1 A2 n1 c1 n2 c2 P _ X1 Y1 oP) rfl ?_
      rintro e wc1 ⟨rfl, ex⟩
      refine ⟨_, rfl, .inr ex, ?_⟩
      replace E := E.ext ex
      replace B5 := B5.ext ex
      replace B7 := B7.ext ex
      replace H9 := H9.ext ex
      replace X1 := X1.ext ex
      replace Y1 := Y1.ext ex
      replace X2 := X2.ext ex
      replace Y2 := Y2.ext ex
      replace B10 := B10.ext ex
      replace B11 := B11.ext ex
      replace X3 := X3.ext ex
      replace Bg12 := Bg12.ext ex
      skip
      refine wm_y 2 rfl (by kernel_rfl) (y_move rfl) rfl ?_
      refine wm_gy 3 rfl (by kernel_rfl) 47 rfl rfl (y_rp rfl B11) rfl ?_
      refine wm_one 4 (by kernel_rfl) ?_; refine om_gcall rfl 47 rfl rfl Try.func73 rfl rfl rfl (ron_any A3 A4 n3 c3 n4 c4 R _ X2 Y2 oR) rfl ?_
      rintro e wc2 ⟨rfl, ex⟩
      refine ⟨_, rfl, .inr ex, ?_⟩
      replace E := E.ext ex
      replace B5 := B5.ext ex
      replace B7 := B7.ext ex
      replace H9 := H9.ext ex
      replace X1 := X1.ext ex
      replace Y1 := Y1.ext ex
      replace X2 := X2.ext ex
      replace Y2 := Y2.ext ex
      replace B10 := B10.ext ex
      replace B11 := B11.ext ex
      replace X3 := X3.ext ex
      replace Bg12 := Bg12.ext ex
      skip
      refine wm_y 5 rfl (by kernel_rfl) (y_pickt rfl rfl) rfl ?_
      refine wm_y 6 rfl (by kernel_rfl) (y_move rfl) rfl ?_
      refine wm_gy 7 rfl (by kernel_rfl) 51 rfl rfl (y_move rfl) rfl ?_
      refine wm_gy 8 rfl (by kernel_rfl) 51 rfl rfl (y_rp rfl B10) rfl ?_
      refine wm_gy 9 rfl (by kernel_rfl) 51 rfl rfl (y_rp rfl B11) rfl ?_
      refine wm_one 10 (by kernel_rfl) ?_; refine om_gcall rfl 51 rfl rfl Try.func75 rfl rfl rfl (radd09_any A1 A2 A3 A4 n1 c1 n2 c2 n3 c3 n4 c4 P R _ X1 Y1 X2 Y2) rfl ?_
      rintro e wc3 ⟨cs3, rfl, S3, ex⟩
      refine ⟨_, rfl, .inr ex, ?_⟩
      replace E := E.ext ex
      replace B5 := B5.ext ex
      replace B7 := B7.ext ex
      replace H9 := H9.ext ex
      replace X1 := X1.ext ex
      replace Y1 := Y1.ext ex
      replace X2 := X2.ext ex
      replace Y2 := Y2.ext ex
      replace B10 := B10.ext ex
      replace B11 := B11.ext ex
      replace X3 := X3.ext ex
      replace Bg12 := Bg12.ext ex
      obtain ⟨A6, n6, c6, A7, n7, c7', rfl, X6, Y6⟩ := S3
      refine wm_one 11 (by kernel_rfl) ?_; refine om_gcall rfl 51 rfl rfl Try.func74 rfl rfl rfl (rpbytes_any A6 A7 n6 c6 n7 c7' (Ed.add P R) _ X6 Y6) rfl ?_
      rintro e wc4 ⟨A8, c8, rfl, H8, ex⟩
      refine ⟨_, rfl, .inr ex, ?_⟩
      replace E := E.ext ex
      replace B5 := B5.ext ex
      replace B7 := B7.ext ex
      replace H9 := H9.ext ex
      replace X1 := X1.ext ex
      replace Y1 := Y1.ext ex
      replace X2 := X2.ext ex
      replace Y2 := Y2.ext ex
      replace B10 := B10.ext ex
      replace B11 := B11.ext ex
      replace X3 := X3.ext ex
      replace Bg12 := Bg12.ext ex
      replace X6 := X6.ext ex
      replace Y6 := Y6.ext ex
      skip
      refine wm_one 12 (by kernel_rfl) ?_; refine om_gcall rfl 51 rfl rfl Try.func53 rfl rfl rfl (sameX_any _ A8 32 32 32 c8 _ _ _ H9 H8 (by omega) (by omega)) rfl ?_
      rintro e wc5 ⟨rfl, ex⟩
      refine ⟨_, rfl, .inr ex, ?_⟩
      replace E := E.ext ex
      replace B5 := B5.ext ex
      replace B7 := B7.ext ex
      replace H9 := H9.ext ex
      replace X1 := X1.ext ex
      replace Y1 := Y1.ext ex
      replace X2 := X2.ext ex
      replace Y2 := Y2.ext ex
      replace B10 := B10.ext ex
      replace B11 := B11.ext ex
      replace X3 := X3.ext ex
      replace Bg12 := Bg12.ext ex
      replace X6 := X6.ext ex
      replace Y6 := Y6.ext ex
      replace H8 := H8.ext ex
      rw [decide_eq_true (Eq.refl (Ed.enc (Ed.add P R)))]
      refine wm_y 13 rfl (by kernel_rfl) (y_pickt rfl rfl) rfl ?_
      refine wm_y 14 rfl (by kernel_rfl) (y_move rfl) rfl ?_
      refine wm_gy 15 rfl (by kernel_rfl) 59 rfl rfl (y_qq rfl P5 B5) rfl ?_
      refine wm_gy 18 rfl (by kernel_rfl) 59 rfl rfl (y_rp rfl Bg12) rfl ?_
      refine wm_one 16 (by kernel_rfl) ?_; refine om_gcall rfl 59 rfl rfl Try.func76 rfl rfl rfl (Pneg_any P5 _) rfl ?_
      rintro e wc6 ⟨cc6, rfl, PN, ex⟩
      refine ⟨_, rfl, .inr ex, ?_⟩
      replace E := E.ext ex
      replace B5 := B5.ext ex
      replace B7 := B7.ext ex
      replace H9 := H9.ext ex
      replace X1 := X1.ext ex
      replace Y1 := Y1.ext ex
      replace X2 := X2.ext ex
      replace Y2 := Y2.ext ex
      replace B10 := B10.ext ex
      replace B11 := B11.ext ex
      replace X3 := X3.ext ex
      replace Bg12 := Bg12.ext ex
      replace X6 := X6.ext ex
      replace Y6 := Y6.ext ex
      replace H8 := H8.ext ex
      skip
      refine wm_one 17 (by kernel_rfl) ?_; refine om_gcall rfl 59 rfl rfl Try.func69 rfl rfl rfl (Pbytes_any PN.pp _) rfl ?_
      rintro e wc7 ⟨g13, rfl, hg13, B13, ex⟩
      refine ⟨_, rfl, .inr ex, ?_⟩
      replace E := E.ext ex
      replace B5 := B5.ext ex
      replace B7 := B7.ext ex
      replace H9 := H9.ext ex
      replace X1 := X1.ext ex
      replace Y1 := Y1.ext ex
      replace X2 := X2.ext ex
      replace Y2 := Y2.ext ex
      replace B10 := B10.ext ex
      replace B11 := B11.ext ex
      replace X3 := X3.ext ex
      replace Bg12 := Bg12.ext ex
      replace X6 := X6.ext ex
      replace Y6 := Y6.ext ex
      replace H8 := H8.ext ex
      have H13 := bs_blk' B13 (Ed.enc_length _)
      refine wm_one 19 (by kernel_rfl) ?_; refine om_gcall rfl 59 rfl rfl Try.func74 rfl rfl rfl (rpbytes_any A5 A2 n5 c5' n2 c2 (Ed.neg P) _ X3 Y1) rfl ?_
      rintro e wc8 ⟨A14, c14, rfl, H14, ex⟩
      refine ⟨_, rfl, .inr ex, ?_⟩
      replace E := E.ext ex
      replace B5 := B5.ext ex
      replace B7 := B7.ext ex
      replace H9 := H9.ext ex
      replace X1 := X1.ext ex
      replace Y1 := Y1.ext ex
      replace X2 := X2.ext ex
      replace Y2 := Y2.ext ex
      replace B10 := B10.ext ex
      replace B11 := B11.ext ex
      replace X3 := X3.ext ex
      replace Bg12 := Bg12.ext ex
      replace X6 := X6.ext ex
      replace Y6 := Y6.ext ex
      replace H8 := H8.ext ex
      replace H13 := H13.ext ex
      skip
      refine wm_one 20 (by kernel_rfl) ?_; refine om_gcall rfl 59 rfl rfl Try.func53 rfl rfl rfl (sameX_any _ A14 32 32 32 c14 _ _ _ H13 H14 (by omega) (by omega)) rfl ?_
      rintro e wc9 ⟨rfl, ex⟩
      refine ⟨_, rfl, .inr ex, ?_⟩
      replace E := E.ext ex
      replace B5 := B5.ext ex
      replace B7 := B7.ext ex
      replace H9 := H9.ext ex
      replace X1 := X1.ext ex
      replace Y1 := Y1.ext ex
      replace X2 := X2.ext ex
      replace Y2 := Y2.ext ex
      replace B10 := B10.ext ex
      replace B11 := B11.ext ex
      replace X3 := X3.ext ex
      replace Bg12 := Bg12.ext ex
      replace X6 := X6.ext ex
      replace Y6 := Y6.ext ex
      replace H8 := H8.ext ex
      replace H13 := H13.ext ex
      replace H14 := H14.ext ex
      rw [decide_eq_true (Eq.refl (Ed.enc (Ed.neg P)))]
      refine wm_y 21 rfl (by kernel_rfl) (y_pickt rfl rfl) rfl ?_
      refine wm_y 22 rfl (by kernel_rfl) (y_move rfl) rfl ?_
      refine wm_gy 23 rfl (by kernel_rfl) 67 rfl rfl (y_qq rfl P5 B5) rfl ?_
      refine wm_gy 24 rfl (by kernel_rfl) 67 rfl rfl (y_qq rfl P7 B7) rfl ?_
      refine wm_gy 26 rfl (by kernel_rfl) 67 rfl rfl (y_move rfl) rfl ?_
      refine wm_gy 27 rfl (by kernel_rfl) 67 rfl rfl (y_move rfl) rfl ?_
      refine wm_one 25 (by kernel_rfl) ?_; refine om_gcall rfl 67 rfl rfl Try.func65 rfl rfl rfl (Psame_any P5 P7 _) rfl ?_
      rintro e wd1 ⟨rfl, ex⟩
      refine ⟨_, rfl, .inr ex, ?_⟩
      replace E := E.ext ex
      replace B5 := B5.ext ex
      replace B7 := B7.ext ex
      replace H9 := H9.ext ex
      replace X1 := X1.ext ex
      replace Y1 := Y1.ext ex
      replace X2 := X2.ext ex
      replace Y2 := Y2.ext ex
      replace B10 := B10.ext ex
      replace B11 := B11.ext ex
      replace X3 := X3.ext ex
      replace Bg12 := Bg12.ext ex
      replace X6 := X6.ext ex
      replace Y6 := Y6.ext ex
      replace H8 := H8.ext ex
      replace H13 := H13.ext ex
      replace H14 := H14.ext ex
      skip
      refine wm_one 28 (by kernel_rfl) ?_; refine om_gcall rfl 67 rfl rfl Try.func53 rfl rfl rfl (sameX_any A B n m c d xs ys _ (HA.ext E) (HB.ext E) (by have := HA.1; omega) (by have := HB.1; omega)) rfl ?_
      rintro e wd2 ⟨rfl, ex⟩
      refine ⟨_, rfl, .inr ex, ?_⟩
      replace E := E.ext ex
      replace B5 := B5.ext ex
      replace B7 := B7.ext ex
      replace H9 := H9.ext ex
      replace X1 := X1.ext ex
      replace Y1 := Y1.ext ex
      replace X2 := X2.ext ex
      replace Y2 := Y2.ext ex
      replace B10 := B10.ext ex
      replace B11 := B11.ext ex
      replace X3 := X3.ext ex
      replace Bg12 := Bg12.ext ex
      replace X6 := X6.ext ex
      replace Y6 := Y6.ext ex
      replace H8 := H8.ext ex
      replace H13 := H13.ext ex
      replace H14 := H14.ext ex
      skip
      refine wm_gy 29 rfl (by kernel_rfl) 67 rfl rfl (Y.as (y_eqlb rfl rfl Try.underlying4) (show Value.bool _ = .bool true by rw [same_dec hP hR])) rfl ?_
      refine wm_y 30 rfl (by kernel_rfl) (y_pickt rfl rfl) rfl ?_
      refine wm_y 31 rfl (by kernel_rfl) (y_assign rfl) rfl ?_
      refine wm_done (by kernel_rfl) ?_
      refine wq_nop ?_
      refine wq_then_norm (hK13 ?_)
      refine wc_ret ?_
      refine hret rfl ?_
      exact ⟨rfl, E⟩
end Go.Proofs.Ytbcbihdfpkeacaa
