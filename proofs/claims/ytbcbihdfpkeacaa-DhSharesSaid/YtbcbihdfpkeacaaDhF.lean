/- The laws of layer 7: alive, DhMuls: they answer true whatever they are given. -/
import Derived.Test.YtbcbihdfpkeacaaDhE
import Derived.Test.YtbcbihdfpkeacaaSame
namespace Go.Proofs.Ytbcbihdfpkeacaa
open Go.RowKit
theorem alive7_x : (ladder (Fp.of 9) 28948022309329048855892746252171976963317496166410141009864396001978282409984 255).1.1 = Fp.of 53699084970092229620102095424564848774812783684786248634290088506478568078703 := by decide +kernel
theorem alive7_z : (ladder (Fp.of 9) 28948022309329048855892746252171976963317496166410141009864396001978282409984 255).1.2 = Fp.of 20097946894889007705884408490665082385984383478950821997587487100163618290637 := by decide +kernel
theorem alive7_c : Fp.of 53699084970092229620102095424564848774812783684786248634290088506478568078703 = Fp.of 52573937849532372069814888178136277301931757964231753054399601207743438775599 * Fp.of 20097946894889007705884408490665082385984383478950821997587487100163618290637 := by decide +kernel
theorem alive7_n : (Fp.of 20097946894889007705884408490665082385984383478950821997587487100163618290637) ≠ 0 := by decide +kernel
theorem alive7_v : dhMul 28948022309329048855892746252171976963317496166410141009864396001978282409984 (Fp.of 9) = Fp.of 52573937849532372069814888178136277301931757964231753054399601207743438775599 := by
  unfold dhMul
  rw [alive7_x, alive7_z, alive7_c]
  have := Fp.mul_inv alive7_n
  generalize Fp.inv (Fp.of 20097946894889007705884408490665082385984383478950821997587487100163618290637) = i at *
  generalize Fp.of 20097946894889007705884408490665082385984383478950821997587487100163618290637 = z at *
  generalize Fp.of 52573937849532372069814888178136277301931757964231753054399601207743438775599 = c at *
  grind
theorem alive7_k : Fp.num (clampB (List.replicate 32 0)) = 28948022309329048855892746252171976963317496166410141009864396001978282409984 := by decide +kernel
theorem alive7_9 : Fp.ofB (Fp.le 32 9) = 9 := by decide +kernel
theorem alive7_base : dhM (List.replicate 32 0) (Fp.le 32 9) = (Fp.le 32 52573937849532372069814888178136277301931757964231753054399601207743438775599, 0) := by
  rw [dhM, if_neg (by simp), if_neg (by rw [Fp.le_length]; simp), alive7_k, alive7_9, alive7_v]
  rw [Fp.val_of, Nat.mod_eq_of_lt (by unfold Fp.p; omega)]
/-- The point 0 has no other product. -/
theorem ladder_zero (N : Nat) : ∀ i : Nat, (ladder 0 N (i + 1)).1.2 = 0 ∧ (ladder 0 N (i + 1)).2.2 = 0 := by
  have key : ∀ px pz qx : Fp.F, pz = 0 → (lad px pz qx 0 0).1.2 = 0 ∧ (lad px pz qx 0 0).2.2 = 0 := fun px pz qx h => by
    subst h; unfold lad; constructor <;> grind
  have keyG : ∀ px pz qx qz : Fp.F, (pz = 0 ∨ px = 0) → (lad px pz qx qz 0).1.2 = 0 ∧ (lad px pz qx qz 0).2.2 = 0 := fun px pz qx qz h => by
    unfold lad; constructor <;> rcases h with h | h <;> subst h <;> grind
  intro i
  induction i with
  | zero =>
    by_cases h : N / 2 ^ (254 - 0) % 2 = 1
    · rw [ladder_t h]
      have := keyG (ladder 0 N 0).2.1 (ladder 0 N 0).2.2 (ladder 0 N 0).1.1 (ladder 0 N 0).1.2 (.inr rfl)
      exact ⟨this.2, this.1⟩
    · rw [ladder_f h]
      exact keyG (ladder 0 N 0).1.1 (ladder 0 N 0).1.2 (ladder 0 N 0).2.1 (ladder 0 N 0).2.2 (.inl rfl)
  | succ i ih =>
    by_cases h : N / 2 ^ (254 - (i + 1)) % 2 = 1
    · rw [ladder_t h]
      have := keyG (ladder 0 N (i + 1)).2.1 (ladder 0 N (i + 1)).2.2 (ladder 0 N (i + 1)).1.1 (ladder 0 N (i + 1)).1.2 (.inl ih.2)
      exact ⟨this.2, this.1⟩
    · rw [ladder_f h]
      exact keyG (ladder 0 N (i + 1)).1.1 (ladder 0 N (i + 1)).1.2 (ladder 0 N (i + 1)).2.1 (ladder 0 N (i + 1)).2.2 (.inl ih.1)
theorem dhMul_zero (N : Nat) : dhMul N 0 = 0 := by
  unfold dhMul
  rw [(ladder_zero N 254).1, Fp.inv_zero]
  generalize (ladder 0 N 255).1.1 = x
  grind
theorem le_zero : Fp.le 32 0 = List.replicate 32 0 := by decide +kernel
theorem dhM_zero {xs ys : List UInt8} (hx : xs.length = 32) (hy : ys.length = 32) (h0 : Fp.ofB ys = 0) : dhM xs ys = (List.replicate 32 0, 0) := by
  rw [dhM, if_neg (by omega), if_neg (by omega), h0, Fp.of_zero, dhMul_zero, Fp.val_zero, le_zero]
theorem any_ne (W : List UInt8) (h : W.length = 32) : W.any (fun x => decide (x ≠ 0)) = true ↔ W ≠ List.replicate 32 0 := by
  rw [List.any_eq_true]
  constructor
  · rintro ⟨x, hx, hne⟩ rfl
    have := (List.mem_replicate.1 hx).2
    subst this
    simp at hne
  · intro hne
    apply Classical.byContradiction
    intro hno
    apply hne
    refine List.eq_replicate_iff.2 ⟨h, fun b hb => ?_⟩
    apply Classical.byContradiction
    intro hbn
    exact hno ⟨b, hb, by simpa using hbn⟩
theorem alive7_shared : dhS (List.replicate 32 0) (List.replicate 32 0) = ([], 9) := by
  rw [dhS, dhM_zero (by simp) (by simp) (by decide +kernel), if_neg (by simp), if_neg]
  rw [any_ne _ (by simp)]
  simp
attribute [local irreducible] Y Ef WL WC WK WQ WM OpM WN WF OpN
theorem zeros_bs {w : World} {g : Nat} {t : TypeId} (B : Blk w g t (List.replicate 32 (Value.int .u8 0)).toArray) : Bs w (some ⟨g, 0, none⟩) 32 (List.replicate 32 0) := bs_blk' (B.congr (by rfl)) (by simp)
theorem sameE_any (A B : Option Addr) (n m c d : Nat) (xs ys : List UInt8) (w : World) (ha : Bs w A n xs) (hb : Bs w B m ys) (hn : n ≤ 140737488355328) (hm : m ≤ 140737488355328) :
    Calls Try.prog 53 #[.slice A n c, .slice B m d] w fun e w' => e = .returned (.bool (decide (xs = ys))) ∧ Ext w w' :=
  (same_any A B n m c d xs ys w ha hb hn hm).mono fun _ _ ⟨h, k, hk⟩ => ⟨h, hk ▸ Ext.drewN w k⟩
theorem alive7_any (w : World) : Calls Try.prog 56 #[] w fun e w' => e = .returned (.bool true) ∧ Ext w w' := by
  have E := Ext.refl w
  have hb := alive7_base
  have hs := alive7_shared
  obtain ⟨L, hL⟩ : ∃ L, L = Fp.le 32 52573937849532372069814888178136277301931757964231753054399601207743438775599 := ⟨_, rfl⟩
  have hLl : L.length = 32 := hL ▸ Fp.le_length 32 _
  have b0 : L.getD 0 0 = 47 := by rw [hL]; decide +kernel
  have b1 : L.getD 1 0 = 229 := by rw [hL]; decide +kernel
  have b2 : L.getD 2 0 = 125 := by rw [hL]; decide +kernel
  have b3 : L.getD 3 0 = 163 := by rw [hL]; decide +kernel
  rw [← hL] at hb
  refine vc_enter1 53 Try.func56 rfl rfl rfl rfl ?_
  intro Q hret
  refine wc_seq ?_; intro K1 hK1
  refine wc_region ?_
  refine wl_y (y_assign rfl) rfl ?_
  refine wl_nil ?_
  refine wq_then_norm (hK1 ?_)
  refine wc_seq ?_; intro K2 hK2
  refine wc_region ?_
  refine wl_ef (ef_make (n := 32) (z := .int .u8 0) (bytes := 1) rfl rfl Try.underlying22 (by kernel_rfl) rfl rfl rfl rfl (by omega) (by omega)) rfl ?_
  rintro _ w1 ⟨g1, rfl, B1, hg1, ex⟩
  replace E := E.ext ex
  have Z1 := zeros_bs B1
  refine wl_call Try.func62 rfl rfl rfl (dhbase_any _ 32 32 _ _ Z1) rfl ?_
  rintro e w2 ⟨A2, k2, c2, rfl, H2, _, ex⟩
  refine ⟨_, rfl, ?_⟩
  replace E := E.ext ex
  rw [hb] at H2 ⊢; have hk2 : k2 = 32 := by rw [← H2.1]; exact hLl
  refine wl_y (y_move rfl) rfl ?_
  refine wl_y (y_extract rfl rfl) rfl ?_
  refine wl_y (y_extract rfl rfl) rfl ?_
  refine wl_y (y_assign rfl) rfl ?_
  refine wl_y (y_assign rfl) rfl ?_
  refine wl_nil ?_
  refine wq_then_norm (hK2 ?_)
  refine wc_seq ?_; intro K3 hK3
  refine wc_draw (by kernel_rfl) 8 rfl ?_; intro wd2 ex hd2
  replace E := E.ext ex
  replace H2 := H2.ext ex
  refine wm_two 0 1 (by kernel_rfl) ?_ ?_
  · skip
    refine om_ef rfl (ef_make (n := 32) (z := .int .u8 0) (bytes := 1) rfl rfl Try.underlying22 (by kernel_rfl) rfl rfl rfl rfl (by omega) (by omega)) rfl ?_
    rintro _ w3 ⟨g3, rfl, B3, hg3, ex⟩
    refine ⟨.inr ex, ?_⟩
    replace E := E.ext ex
    replace H2 := H2.ext ex
    have Z3 := zeros_bs B3
    refine wm_one 1 (by kernel_rfl) ?_; refine om_ef rfl (ef_make (n := 32) (z := .int .u8 0) (bytes := 1) rfl rfl Try.underlying22 (by kernel_rfl) rfl rfl rfl rfl (by omega) (by omega)) rfl ?_
    rintro _ w4 ⟨g4, rfl, B4, hg4, ex⟩
    refine ⟨.inr ex, ?_⟩
    replace E := E.ext ex
    replace H2 := H2.ext ex
    replace Z3 := Z3.ext ex
    have Z4 := zeros_bs B4
    refine wm_one 2 (by kernel_rfl) ?_; refine om_call rfl Try.func60 rfl rfl rfl (dhshared_any _ _ 32 32 32 32 _ _ _ Z3 Z4) rfl ?_
    rintro e w5 ⟨A5, k5, c5, rfl, H5, _, ex⟩
    refine ⟨_, rfl, .inr ex, ?_⟩
    replace E := E.ext ex
    replace H2 := H2.ext ex
    replace Z3 := Z3.ext ex
    replace Z4 := Z4.ext ex
    rw [hs]
    refine wm_y 3 rfl (by kernel_rfl) (y_move rfl) rfl ?_
    refine wm_y 4 rfl (by kernel_rfl) (y_extract rfl rfl) rfl ?_
    refine wm_y 5 rfl (by kernel_rfl) (y_extract rfl rfl) rfl ?_
    refine wm_y 6 rfl (by kernel_rfl) (y_assign rfl) rfl ?_
    refine wm_y 7 rfl (by kernel_rfl) (y_assign rfl) rfl ?_
    refine wm_done (by kernel_rfl) ?_
    refine wq_nop ?_
    refine wq_then_norm (hK3 ?_)
    refine wc_seq ?_; intro K4 hK4
    subst hk2
    obtain ⟨q0, o0, x0, rfl, hx0, hc0⟩ := H2.byte (k := 0) (by omega)
    obtain ⟨x1, hx1, hc1⟩ := H2.byteAt (k := 1) (by omega)
    obtain ⟨x2, hx2, hc2⟩ := H2.byteAt (k := 2) (by omega)
    obtain ⟨x3, hx3, hc3⟩ := H2.byteAt (k := 3) (by omega)
    rw [hx0.out, b0] at hc0
    rw [hx1.out, b1] at hc1
    rw [hx2.out, b2] at hc2
    rw [hx3.out, b3] at hc3
    refine wc_region ?_
    refine wl_y (y_move rfl) rfl ?_
    refine wl_y (y_conv rfl Try.underlying61 Try.underlying3 (i64_ok (by omega) (by omega))) rfl ?_
    refine wl_y (Y.as (y_eql rfl rfl) (congrArg Value.bool (decide_eq_true rfl))) rfl ?_
    refine wl_y (y_move rfl) rfl ?_
    refine wl_gy 19 rfl rfl (y_move rfl) rfl ?_
    refine wl_gy 19 rfl rfl (y_len_slice rfl Try.underlying22) rfl ?_
    refine wl_gy 19 rfl rfl (Y.as (y_eql rfl rfl) (congrArg Value.bool (decide_eq_true rfl))) rfl ?_
    refine wl_y (y_pickt rfl rfl) rfl ?_
    refine wl_y (y_move rfl) rfl ?_
    refine wl_gy 24 rfl rfl (y_move rfl) rfl ?_
    refine wl_gy 24 rfl rfl (y_ixs1 rfl rfl Try.underlying22 (by kernel_rfl) (j := 0) rfl (by omega)) rfl ?_
    refine wl_gy 24 rfl rfl (y_load1 rfl Try.underlying5 rfl hc0) rfl ?_
    refine wl_gy 24 rfl rfl (Y.as (y_eql rfl rfl) (congrArg Value.bool (decide_eq_true rfl))) rfl ?_
    refine wl_y (y_pickt rfl rfl) rfl ?_
    refine wl_y (y_move rfl) rfl ?_
    refine wl_gy 30 rfl rfl (y_move rfl) rfl ?_
    refine wl_gy 30 rfl rfl (y_ixs1 rfl rfl Try.underlying22 (by kernel_rfl) (j := 1) rfl (by omega)) rfl ?_
    refine wl_gy 30 rfl rfl (y_load1 rfl Try.underlying5 rfl hc1) rfl ?_
    refine wl_gy 30 rfl rfl (Y.as (y_eql rfl rfl) (congrArg Value.bool (decide_eq_true rfl))) rfl ?_
    refine wl_y (y_pickt rfl rfl) rfl ?_
    refine wl_y (y_move rfl) rfl ?_
    refine wl_gy 36 rfl rfl (y_move rfl) rfl ?_
    refine wl_gy 36 rfl rfl (y_ixs1 rfl rfl Try.underlying22 (by kernel_rfl) (j := 2) rfl (by omega)) rfl ?_
    refine wl_gy 36 rfl rfl (y_load1 rfl Try.underlying5 rfl hc2) rfl ?_
    refine wl_gy 36 rfl rfl (Y.as (y_eql rfl rfl) (congrArg Value.bool (decide_eq_true rfl))) rfl ?_
    refine wl_y (y_pickt rfl rfl) rfl ?_
    refine wl_y (y_move rfl) rfl ?_
    refine wl_gy 42 rfl rfl (y_move rfl) rfl ?_
    refine wl_gy 42 rfl rfl (y_ixs1 rfl rfl Try.underlying22 (by kernel_rfl) (j := 3) rfl (by omega)) rfl ?_
    refine wl_gy 42 rfl rfl (y_load1 rfl Try.underlying5 rfl hc3) rfl ?_
    refine wl_gy 42 rfl rfl (Y.as (y_eql rfl rfl) (congrArg Value.bool (decide_eq_true rfl))) rfl ?_
    refine wl_y (y_pickt rfl rfl) rfl ?_
    refine wl_y (y_move rfl) rfl ?_
    refine wl_gy 48 rfl rfl (y_move rfl) rfl ?_
    refine wl_gy 48 rfl rfl (y_conv rfl Try.underlying61 Try.underlying3 (i64_ok (by omega) (by omega))) rfl ?_
    refine wl_gy 48 rfl rfl (Y.as (y_eql rfl rfl) (congrArg Value.bool (decide_eq_true rfl))) rfl ?_
    refine wl_y (y_pickt rfl rfl) rfl ?_
    refine wl_y (y_assign rfl) rfl ?_
    refine wl_nil ?_
    refine wq_then_norm (hK4 ?_)
    refine wc_ret ?_
    refine hret rfl ?_
    exact ⟨rfl, E⟩
  · skip
    refine om_ef rfl (ef_make (n := 32) (z := .int .u8 0) (bytes := 1) rfl rfl Try.underlying22 (by kernel_rfl) rfl rfl rfl rfl (by omega) (by omega)) rfl ?_
    rintro _ w4 ⟨g4, rfl, B4, hg4, ex⟩
    refine ⟨.inr ex, ?_⟩
    replace E := E.ext ex
    replace H2 := H2.ext ex
    have Z4 := zeros_bs B4
    refine wm_one 0 (by kernel_rfl) ?_; refine om_ef rfl (ef_make (n := 32) (z := .int .u8 0) (bytes := 1) rfl rfl Try.underlying22 (by kernel_rfl) rfl rfl rfl rfl (by omega) (by omega)) rfl ?_
    rintro _ w3 ⟨g3, rfl, B3, hg3, ex⟩
    refine ⟨.inr ex, ?_⟩
    replace E := E.ext ex
    replace H2 := H2.ext ex
    replace Z4 := Z4.ext ex
    have Z3 := zeros_bs B3
    refine wm_one 2 (by kernel_rfl) ?_; refine om_call rfl Try.func60 rfl rfl rfl (dhshared_any _ _ 32 32 32 32 _ _ _ Z3 Z4) rfl ?_
    rintro e w5 ⟨A5, k5, c5, rfl, H5, _, ex⟩
    refine ⟨_, rfl, .inr ex, ?_⟩
    replace E := E.ext ex
    replace H2 := H2.ext ex
    replace Z4 := Z4.ext ex
    replace Z3 := Z3.ext ex
    rw [hs]
    refine wm_y 3 rfl (by kernel_rfl) (y_move rfl) rfl ?_
    refine wm_y 4 rfl (by kernel_rfl) (y_extract rfl rfl) rfl ?_
    refine wm_y 5 rfl (by kernel_rfl) (y_extract rfl rfl) rfl ?_
    refine wm_y 6 rfl (by kernel_rfl) (y_assign rfl) rfl ?_
    refine wm_y 7 rfl (by kernel_rfl) (y_assign rfl) rfl ?_
    refine wm_done (by kernel_rfl) ?_
    refine wq_nop ?_
    refine wq_then_norm (hK3 ?_)
    refine wc_seq ?_; intro K5 hK5
    subst hk2
    obtain ⟨q0, o0, x0, rfl, hx0, hc0⟩ := H2.byte (k := 0) (by omega)
    obtain ⟨x1, hx1, hc1⟩ := H2.byteAt (k := 1) (by omega)
    obtain ⟨x2, hx2, hc2⟩ := H2.byteAt (k := 2) (by omega)
    obtain ⟨x3, hx3, hc3⟩ := H2.byteAt (k := 3) (by omega)
    rw [hx0.out, b0] at hc0
    rw [hx1.out, b1] at hc1
    rw [hx2.out, b2] at hc2
    rw [hx3.out, b3] at hc3
    refine wc_region ?_
    refine wl_y (y_move rfl) rfl ?_
    refine wl_y (y_conv rfl Try.underlying61 Try.underlying3 (i64_ok (by omega) (by omega))) rfl ?_
    refine wl_y (Y.as (y_eql rfl rfl) (congrArg Value.bool (decide_eq_true rfl))) rfl ?_
    refine wl_y (y_move rfl) rfl ?_
    refine wl_gy 19 rfl rfl (y_move rfl) rfl ?_
    refine wl_gy 19 rfl rfl (y_len_slice rfl Try.underlying22) rfl ?_
    refine wl_gy 19 rfl rfl (Y.as (y_eql rfl rfl) (congrArg Value.bool (decide_eq_true rfl))) rfl ?_
    refine wl_y (y_pickt rfl rfl) rfl ?_
    refine wl_y (y_move rfl) rfl ?_
    refine wl_gy 24 rfl rfl (y_move rfl) rfl ?_
    refine wl_gy 24 rfl rfl (y_ixs1 rfl rfl Try.underlying22 (by kernel_rfl) (j := 0) rfl (by omega)) rfl ?_
    refine wl_gy 24 rfl rfl (y_load1 rfl Try.underlying5 rfl hc0) rfl ?_
    refine wl_gy 24 rfl rfl (Y.as (y_eql rfl rfl) (congrArg Value.bool (decide_eq_true rfl))) rfl ?_
    refine wl_y (y_pickt rfl rfl) rfl ?_
    refine wl_y (y_move rfl) rfl ?_
    refine wl_gy 30 rfl rfl (y_move rfl) rfl ?_
    refine wl_gy 30 rfl rfl (y_ixs1 rfl rfl Try.underlying22 (by kernel_rfl) (j := 1) rfl (by omega)) rfl ?_
    refine wl_gy 30 rfl rfl (y_load1 rfl Try.underlying5 rfl hc1) rfl ?_
    refine wl_gy 30 rfl rfl (Y.as (y_eql rfl rfl) (congrArg Value.bool (decide_eq_true rfl))) rfl ?_
    refine wl_y (y_pickt rfl rfl) rfl ?_
    refine wl_y (y_move rfl) rfl ?_
    refine wl_gy 36 rfl rfl (y_move rfl) rfl ?_
    refine wl_gy 36 rfl rfl (y_ixs1 rfl rfl Try.underlying22 (by kernel_rfl) (j := 2) rfl (by omega)) rfl ?_
    refine wl_gy 36 rfl rfl (y_load1 rfl Try.underlying5 rfl hc2) rfl ?_
    refine wl_gy 36 rfl rfl (Y.as (y_eql rfl rfl) (congrArg Value.bool (decide_eq_true rfl))) rfl ?_
    refine wl_y (y_pickt rfl rfl) rfl ?_
    refine wl_y (y_move rfl) rfl ?_
    refine wl_gy 42 rfl rfl (y_move rfl) rfl ?_
    refine wl_gy 42 rfl rfl (y_ixs1 rfl rfl Try.underlying22 (by kernel_rfl) (j := 3) rfl (by omega)) rfl ?_
    refine wl_gy 42 rfl rfl (y_load1 rfl Try.underlying5 rfl hc3) rfl ?_
    refine wl_gy 42 rfl rfl (Y.as (y_eql rfl rfl) (congrArg Value.bool (decide_eq_true rfl))) rfl ?_
    refine wl_y (y_pickt rfl rfl) rfl ?_
    refine wl_y (y_move rfl) rfl ?_
    refine wl_gy 48 rfl rfl (y_move rfl) rfl ?_
    refine wl_gy 48 rfl rfl (y_conv rfl Try.underlying61 Try.underlying3 (i64_ok (by omega) (by omega))) rfl ?_
    refine wl_gy 48 rfl rfl (Y.as (y_eql rfl rfl) (congrArg Value.bool (decide_eq_true rfl))) rfl ?_
    refine wl_y (y_pickt rfl rfl) rfl ?_
    refine wl_y (y_assign rfl) rfl ?_
    refine wl_nil ?_
    refine wq_then_norm (hK5 ?_)
    refine wc_ret ?_
    refine hret rfl ?_
    exact ⟨rfl, E⟩
end Go.Proofs.Ytbcbihdfpkeacaa
