/- The field's reference: numbers modulo the prime: what each hands back. -/
import Derived.Test.YtbcbihdfpkeacaaFieldF
namespace Go.Proofs.Ytbcbihdfpkeacaa
open Go.RowKit
attribute [local irreducible] Y Ef WL WC WK WQ WM OpM
theorem trim6_any (A : Option Addr) (n c : Nat) (xs : List Nat) (w : World) (H : Ns .i64 w A n xs) (hok : Big.ok xs) (hc : n ≤ c) (hn : n ≤ 10000000) :
    Calls Try.prog 145 #[.slice A n c] w fun e w' => ∃ n', e = .returned (.slice A n' c) ∧ Bg w' A n' (Big.val xs) ∧ n' ≤ n ∧ Ext w w' := by
  have hl := H.1
  refine vc_enter1 21 Try.func145 rfl rfl rfl rfl ?_
  intro Q hret
  refine wc_seq ?_; intro K1 hK1
  refine wc_region ?_
  refine wl_y (y_assign rfl) rfl ?_
  refine wl_nil ?_
  refine wq_then_norm (hK1 ?_)
  refine wc_seq ?_; intro K2 hK2
  refine wc_block ?_
  refine wc_loop (fun n' L wr => ∃ k : Nat, L = [(0, .slice A k c)] ∧ n' = 1 + k ∧ (k ≤ n ∧ Ext w wr ∧ Big.trimmed xs k)) _ _ ⟨n, rfl, rfl, Nat.le_refl _, Ext.refl _, by rw [← hl]; exact Big.trimmed_all xs⟩ ⟨rfl, trivial⟩ ?_
  rintro KL1 n' L wr ⟨k, rfl, rfl, hk, E, hT⟩ hL1
  refine wc_seq ?_; intro K3 hK3
  refine wc_seq ?_; intro K4 hK4
  refine wc_region ?_
  refine wl_y (y_move rfl) rfl ?_
  refine wl_y (y_len_slice rfl Try.underlying30) rfl ?_
  refine wl_yask (y_gtr rfl rfl) rfl (fun h1 => ?_) (fun h1 => ?_)
  · skip
    refine wl_y (y_move rfl) rfl ?_
    obtain ⟨b, off, x, rfl, hx, hcx⟩ := (H.wk E).cell (i := k - 1) (by omega)
    refine wl_gy 6 rfl rfl (y_move rfl) rfl ?_
    refine wl_gy 6 rfl rfl (y_move rfl) rfl ?_
    refine wl_gy 6 rfl rfl (y_len_slice rfl Try.underlying30) rfl ?_
    refine wl_gy 6 rfl rfl (y_sub rfl rfl (i64_ok (by omega) (by omega))) rfl ?_
    refine wl_gy 6 rfl rfl (y_ixs1 rfl rfl Try.underlying30 (by kernel_rfl) (j := k - 1) (by omega) (by omega)) rfl ?_
    refine wl_gy 6 rfl rfl (y_load1 rfl Try.underlying3 rfl (by assumption)) rfl ?_
    refine wl_gy 6 rfl rfl (y_eql rfl rfl) rfl ?_
    refine wl_y (y_pickt rfl rfl) rfl ?_
    refine wl_nil ?_
    refine wq_then_norm (hK4 ?_)
    refine wc_dec rfl (fun hc1 => ?_) (fun hc1 => ?_)
    · skip
      refine wc_skip ?_
      refine wq_then_norm (hK3 ?_)
      refine wc_block ?_
      refine wc_region ?_
      refine wl_y (y_move rfl) rfl ?_
      refine wl_y (y_move rfl) rfl ?_
      refine wl_y (y_len_slice rfl Try.underlying30) rfl ?_
      refine wl_y (y_sub rfl rfl (i64_ok (by omega) (by omega))) rfl ?_
      refine wl_y (y_cuth (s := 1) rfl rfl Try.underlying30 (by kernel_rfl) (j := k - 1) (by omega) (by omega)) rfl ?_
      refine wl_y (y_assign rfl) rfl ?_
      refine wl_nil ?_
      refine wq_blk_norm ?_
      refine wq_then_norm ?_
      refine hL1 _ _ ⟨k - 1, rfl, rfl, by omega, E, by obtain ⟨k, rfl⟩ : ∃ j, k = j + 1 := ⟨k - 1, by omega⟩; exact Big.trimmed_step hT (by show xs.getD k 0 = 0; rw [Nat.add_sub_cancel] at hx; rw [← hx.out]; omega)⟩ (by omega) ⟨rfl, trivial⟩
    · skip
      refine wc_exit ?_
      refine wq_then_exit ?_
      refine wq_then_exit ?_
      refine wq_blk_hit ?_
      refine wq_then_norm (hK2 ?_)
      refine wc_seq ?_; intro K5 hK5
      refine wc_region ?_
      refine wl_y (y_move rfl) rfl ?_
      refine wl_y (y_assign rfl) rfl ?_
      refine wl_nil ?_
      refine wq_then_norm (hK5 ?_)
      refine wc_ret ?_
      refine hret rfl ?_
      exact ⟨k, rfl, by have := (H.wk E).take (j := k) hk; rw [Big.trimmed_end hT hok (.inr (by rw [← hx.out]; omega))] at this; exact this, hk, E⟩
  · skip
    refine wl_y (y_move rfl) rfl ?_
    refine wl_gno 6 rfl rfl rfl rfl ?_
    refine wl_gno 6 rfl rfl rfl rfl ?_
    refine wl_gno 6 rfl rfl rfl rfl ?_
    refine wl_gno 6 rfl rfl rfl rfl ?_
    refine wl_gno 6 rfl rfl rfl rfl ?_
    refine wl_gno 6 rfl rfl rfl rfl ?_
    refine wl_gno 6 rfl rfl rfl rfl ?_
    refine wl_y (y_pickf rfl rfl) rfl ?_
    refine wl_nil ?_
    refine wq_then_norm (hK4 ?_)
    refine wc_false rfl rfl ?_
    refine wc_exit ?_
    refine wq_then_exit ?_
    refine wq_then_exit ?_
    refine wq_blk_hit ?_
    refine wq_then_norm (hK2 ?_)
    refine wc_seq ?_; intro K6 hK6
    refine wc_region ?_
    refine wl_y (y_move rfl) rfl ?_
    refine wl_y (y_assign rfl) rfl ?_
    refine wl_nil ?_
    refine wq_then_norm (hK6 ?_)
    refine wc_ret ?_
    refine hret rfl ?_
    exact ⟨k, rfl, by have := (H.wk E).take (j := k) hk; rw [Big.trimmed_end hT hok (.inl (by omega))] at this; exact this, hk, E⟩
theorem Big.digs_drop (u k : Nat) : (Big.digs u).drop k = Big.digs (u / 32768 ^ k) := by
  rcases Nat.lt_or_ge k (Big.digs u).length with h | h
  · have hv : Big.val ((Big.digs u).drop k) = u / 32768 ^ k := by
      have e := Big.val_take (Big.digs u) k
      rw [Big.val_digs, List.length_take, Nat.min_eq_left (by omega)] at e
      have hl := Big.val_lt _ (Big.ok_take (Big.ok_digs u) k)
      rw [List.length_take, Nat.min_eq_left (by omega)] at hl
      have e2 : u / 32768 ^ k = (Big.val ((Big.digs u).take k) + 32768 ^ k * Big.val ((Big.digs u).drop k)) / 32768 ^ k := by rw [← e]
      rw [e2, Nat.add_mul_div_left _ _ (Nat.pow_pos (by omega)), Nat.div_eq_of_lt hl, Nat.zero_add]
    rw [← hv]
    refine (Big.canon _ (Big.ok_drop (Big.ok_digs u) k) fun hne => ?_).symm
    have hne' : Big.digs u ≠ [] := fun e => by rw [e] at h; cases h
    rw [List.getLast_drop]
    exact Big.digs_last u hne'
  · rw [List.drop_of_length_le h]
    have h2 := Big.lt_pow_length u
    have h3 := Nat.pow_le_pow_right (n := 32768) (by omega) h
    rw [Nat.div_eq_of_lt (by omega)]
    rfl
theorem Ns.cutA {w : World} {k : IntKind} {A : Option Addr} {n c : Nat} {xs : List Nat} (h : Ns k w A n xs) {j : Nat} (hj : j ≤ n) (hc : n ≤ c) : Ns k w (cutA A c j 1) (n - j) (xs.drop j) := by
  refine ⟨by rw [List.length_drop, h.1], ?_⟩
  unfold Go.Proofs.Ytbcbihdfpkeacaa.cutA
  rw [Nat.mul_one]
  split
  · have : xs.drop j = [] := List.drop_of_length_le (by have := h.1; omega)
    rw [this]; exact .inl rfl
  · rcases h.2 with h0 | ⟨b, off, rfl, hcell⟩
    · left; have : xs = [] := by simpa using h0
      rw [this]; simp
    · refine .inr ⟨b, off + j, by rw [Option.map_some, Addr.add_plain], fun i u hu => ?_⟩
      rw [List.map_drop, List.getElem?_drop] at hu
      rw [Nat.add_assoc]
      exact hcell _ u hu
theorem Big.digs_take (u k : Nat) (h : k ≤ (Big.digs u).length) : Big.val ((Big.digs u).take k) = u % 32768 ^ k := by
  have e := Big.val_take (Big.digs u) k
  rw [Big.val_digs, List.length_take, Nat.min_eq_left h] at e
  have hl := Big.val_lt _ (Big.ok_take (Big.ok_digs u) k)
  rw [List.length_take, Nat.min_eq_left h] at hl
  have e2 : u % 32768 ^ k = (Big.val ((Big.digs u).take k) + 32768 ^ k * Big.val ((Big.digs u).drop k)) % 32768 ^ k := by rw [← e]
  rw [e2, Nat.add_mul_mod_self_left, Nat.mod_eq_of_lt hl]
theorem refP_any (w : World) : Calls Try.prog 49 #[] w fun e w' => ∃ A' n' c', e = .returned (.slice A' n' c') ∧ Bg w' A' n' Fp.p ∧ n' ≤ c' ∧ Ext w w' := by
  refine vc_enter1 4 Try.func49 rfl rfl rfl rfl ?_
  intro Q hret
  refine wc_seq ?_; intro K1 hK1
  refine wc_region ?_
  refine wl_y (y_assign rfl) rfl ?_
  refine wl_nil ?_
  refine wq_then_norm (hK1 ?_)
  refine wc_seq ?_; intro K2 hK2
  refine wc_region ?_
  refine wl_call Try.func40 rfl rfl rfl (pow_any 255 _ (by omega)) rfl ?_
  rintro e w1 ⟨A1, n1, c1, rfl, H1, h1, _, ex⟩
  refine ⟨_, rfl, ?_⟩
  have E1 := ex
  refine wl_call Try.func24 rfl rfl rfl (num_any 19 _ (by omega)) rfl ?_
  rintro e w2 ⟨A2, n2, c2, rfl, H2, _, ex⟩
  refine ⟨_, rfl, ?_⟩
  have E2 := E1.ext ex; have H1' := H1.ext ex
  refine wl_call Try.func102 rfl rfl rfl (sub_any A1 A2 n1 c1 n2 c2 (2 ^ 255) 19 _ H1' H2 (by decide) (by omega)) rfl ?_
  rintro e w3 ⟨A3, n3, c3, rfl, H3, h3, ex⟩
  refine ⟨_, rfl, ?_⟩
  have E3 := E2.ext ex
  refine wl_y (y_assign rfl) rfl ?_
  refine wl_nil ?_
  refine wq_then_norm (hK2 ?_)
  refine wc_ret ?_
  refine hret rfl ?_
  exact ⟨A3, n3, c3, rfl, H3.congr (by decide), h3, E3⟩
theorem p_len : (Big.digs Fp.p).length ≤ 17 := Big.digs_length_le _ 17 (by decide)
theorem low_step17 (u : Nat) : (u % 32768 ^ 17 + u / 32768 ^ 17 * 19) % Fp.p = u % Fp.p := by
  have e := Nat.div_add_mod u (32768 ^ 17)
  have h : u = u % 32768 ^ 17 + u / 32768 ^ 17 * 19 + Fp.p * (u / 32768 ^ 17) := by
    rw [show (32768 : Nat) ^ 17 = 57896044618658097711785492504343953926634992332820282019728792003956564819968 from rfl] at e ⊢
    unfold Fp.p
    omega
  exact (Nat.add_mul_mod_self_left _ Fp.p (u / 32768 ^ 17)).symm.trans (by rw [← h])
theorem mod_any (A : Option Addr) (n c v : Nat) (w : World) (H : Bg w A n v) (hc : n ≤ c) (hn : n ≤ 10000) :
    Calls Try.prog 99 #[.slice A n c] w fun e w' => ∃ A' n' c', e = .returned (.slice A' n' c') ∧ Bg w' A' n' (v % Fp.p) ∧ n' ≤ c' ∧ Ext w w' := by
  have hln := H.len; have hpl := p_len
  refine vc_enter1 24 Try.func99 rfl rfl rfl rfl ?_
  intro Q hret
  refine wc_seq ?_; intro K1 hK1
  refine wc_region ?_
  refine wl_y (y_assign rfl) rfl ?_
  refine wl_nil ?_
  refine wq_then_norm (hK1 ?_)
  refine wc_seq ?_; intro K2 hK2
  refine wc_block ?_
  refine wc_loop (fun n' L wr => ∃ (u n5 c5 : Nat) (A5 : Option Addr), L = [(0, .slice A5 n5 c5)] ∧ n' = 0 + u ∧ (u ≤ v ∧ Ext w wr ∧ Bg wr A5 n5 u ∧ n5 ≤ c5 ∧ u % Fp.p = v % Fp.p)) _ _ ⟨v, n, c, A, rfl, rfl, Nat.le_refl _, Ext.refl _, H, hc, rfl⟩ ⟨rfl, trivial⟩ ?_
  rintro KL1 n' L wr ⟨u, n5, c5, A5, rfl, rfl, hu, E, H5, hc5, hv⟩ hL1
  refine wc_seq ?_; intro K3 hK3
  refine wc_seq ?_; intro K4 hK4
  refine wc_region ?_
  refine wl_y (y_move rfl) rfl ?_
  refine wl_y (y_len_slice rfl Try.underlying30) rfl ?_
  refine wl_y (y_gtr rfl rfl) rfl ?_
  refine wl_nil ?_
  refine wq_then_norm (hK4 ?_)
  refine wc_dec rfl (fun hc1 => ?_) (fun hc1 => ?_)
  · skip
    refine wc_skip ?_
    refine wq_then_norm (hK3 ?_)
    refine wc_block ?_
    have hl5 := H5.len; have hle := Big.length_le hu
    have h17 : 17 < n5 := by omega
    refine wc_draw (by kernel_rfl) 11 rfl ?_; intro wd2 ex hd2
    replace E := E.ext ex; replace H5 := H5.ext ex; have wd2s := wd2.heap.size
    refine wm_z 1 rfl (by kernel_rfl) (fun _ => y_move rfl) rfl ?_
    refine wm_z 2 rfl (by kernel_rfl) (fun _ => y_cuth (s := 1) rfl rfl Try.underlying30 (by kernel_rfl) (j := 17) rfl (by omega)) rfl ?_
    refine wm_z 5 rfl (by kernel_rfl) (fun _ => y_move rfl) rfl ?_
    refine wm_z 6 rfl (by kernel_rfl) (fun _ => y_cutl (s := 1) rfl rfl Try.underlying30 (by kernel_rfl) (j := 17) rfl (by omega)) rfl ?_
    refine wm_one 0 (by kernel_rfl) ?_; refine om_ef rfl (ef_lit (z := .int .i64 0) Try.underlying30 (by kernel_rfl) rfl rfl rfl rfl rfl) rfl ?_
    rintro _ w3 ⟨g3, rfl, B3, hg3, ex⟩
    refine ⟨.inr ex, ?_⟩
    have x3 := ex; have R3 : Row w3 wd2.heap.size 3 (some ⟨g3, 0, none⟩) 0 0 [] := Row.new B3 hg3 rfl (by unfold maxLen; omega)
    refine wm_one 3 (by kernel_rfl) ?_; refine om_ef rfl (ef_app0 rfl rfl eltI R3 ((Ns.take (H5.ext x3) (j := 17) (by omega)).2) (by rw [List.length_map, List.length_take]; omega) (by intro u hu; exact iv_one u hu) (by omega) (by omega) x3.size) rfl ?_
    rintro _ w4 ⟨A4, c4, rfl, R4, be, gr, hl⟩
    refine ⟨.inl rfl, ?_⟩
    have x4 : Ext wd2 w4 := x3.trans be; have hcap := R4.cap
    refine wm_one 4 (by kernel_rfl) ?_; refine om_call rfl Try.func145 rfl rfl rfl (trim6_any A4 17 c4 _ _ (Ns.of_row R4) (Big.ok_take (Big.ok_digs u) 17) hcap (by omega)) rfl ?_
    rintro e w5 ⟨n6, rfl, H6, h6, ex⟩
    refine ⟨_, rfl, .inr ex, ?_⟩
    have x5 := x4.ext ex
    refine wm_one 7 (by kernel_rfl) ?_; refine om_call rfl Try.func24 rfl rfl rfl (num_any 19 _ (by omega)) rfl ?_
    rintro e w6 ⟨A7, n7, c7, rfl, H7, h7, ex⟩
    refine ⟨_, rfl, .inr ex, ?_⟩
    have x6 := x5.ext ex; have H6' := H6.ext ex; have hl7 := H7.len; have h7l := Big.digs_length_le 19 1 (by omega)
    refine wm_one 8 (by kernel_rfl) ?_; refine om_call rfl Try.func39 rfl rfl rfl (mul_any _ A7 (n5 - 17) _ n7 c7 (u / 32768 ^ 17) 19 _ (by have h := (H5.wk x6).cutA (j := 17) (by omega) hc5; unfold Bg; rw [← Big.digs_drop]; exact h) H7 (by omega) (by omega)) rfl ?_
    rintro e w7 ⟨A8, n8, c8, rfl, H8, h8, _, ex⟩
    refine ⟨_, rfl, .inr ex, ?_⟩
    have x7 := x6.ext ex; have H6q := H6'.ext ex
    refine wm_one 9 (by kernel_rfl) ?_; refine om_call rfl Try.func41 rfl rfl rfl (add_any A4 A8 n6 c4 n8 c8 _ _ _ H6q H8 (by omega) (by omega)) rfl ?_
    rintro e w8 ⟨A9, n9, c9, rfl, H9, h9, h9c, ex⟩
    refine ⟨_, rfl, .inr ex, ?_⟩
    have x8 := x7.ext ex
    refine wm_y 10 rfl (by kernel_rfl) (y_assign rfl) rfl ?_
    refine wm_done (by kernel_rfl) ?_
    refine wq_nop ?_
    refine wq_blk_norm ?_
    refine wq_then_norm ?_
    have hub : 32768 ^ 17 ≤ u := by
      rcases Nat.lt_or_ge u (32768 ^ 17) with h | h
      · exact absurd (Big.digs_length_le u 17 h) (by omega)
      · exact h
    have hdm := Nat.div_add_mod u (32768 ^ 17)
    refine hL1 _ _ ⟨u % 32768 ^ 17 + u / 32768 ^ 17 * 19, n9, c9, A9, rfl, rfl, by have := Nat.div_add_mod u (32768 ^ 17); rw [show (32768 : Nat) ^ 17 = 57896044618658097711785492504343953926634992332820282019728792003956564819968 from rfl] at this ⊢; omega, E.tr x8, H9.congr (by rw [Big.digs_take _ _ (by omega)]), h9c, by rw [low_step17]; exact hv⟩ (by omega) ⟨rfl, trivial⟩
  · skip
    refine wc_exit ?_
    refine wq_then_exit ?_
    refine wq_then_exit ?_
    refine wq_blk_hit ?_
    refine wq_then_norm (hK2 ?_)
    refine wc_seq ?_; intro K5 hK5
    refine wc_block ?_
    refine wc_loop (fun n' L wq => ∃ (u' n6 c6 : Nat) (A6 : Option Addr), L = [(0, .slice A6 n6 c6)] ∧ n' = 0 + u' ∧ (u' ≤ u ∧ Ext w wq ∧ Bg wq A6 n6 u' ∧ n6 ≤ c6 ∧ u' % Fp.p = v % Fp.p)) _ _ ⟨u, n5, c5, A5, rfl, rfl, Nat.le_refl _, E, H5, hc5, hv⟩ ⟨rfl, trivial⟩ ?_
    rintro KL2 n' L wq ⟨u', n6, c6, A6, rfl, rfl, hu6, F, H6, hc6, hv6⟩ hL2
    refine wc_seq ?_; intro K6 hK6
    refine wc_seq ?_; intro K7 hK7
    have hl6 := H6.len; have hl5 := H5.len; have hle6 := Big.length_le hu6; have hle5 := Big.length_le hu
    refine wc_region ?_
    refine wl_y (y_move rfl) rfl ?_
    refine wl_call Try.func49 rfl rfl rfl (refP_any _) rfl ?_
    rintro e w3 ⟨A7, n7, c7, rfl, H7, _, ex⟩
    refine ⟨_, rfl, ?_⟩
    have F3 := F.ext ex; have H6' := H6.ext ex; have hl7 := H7.len
    refine wl_call Try.func42 rfl rfl rfl (less_any A6 A7 n6 c6 n7 c7 u' Fp.p _ H6' H7 (by omega) (by omega)) rfl ?_
    rintro e w4 ⟨rfl, ex⟩
    refine ⟨_, rfl, ?_⟩
    have F4 := F3.ext ex; have H6q := H6'.ext ex
    refine wl_y (y_not rfl) rfl ?_
    refine wl_nil ?_
    refine wq_then_norm (hK7 ?_)
    refine wc_cond rfl (fun hc2 => ?_) (fun hc2 => ?_)
    · skip
      simp at hc2
      refine wc_skip ?_
      refine wq_then_norm (hK6 ?_)
      refine wc_block ?_
      refine wc_region ?_
      refine wl_y (y_move rfl) rfl ?_
      refine wl_call Try.func49 rfl rfl rfl (refP_any _) rfl ?_
      rintro e w5 ⟨A8, n8, c8, rfl, H8, _, ex⟩
      refine ⟨_, rfl, ?_⟩
      have F5 := F4.ext ex; have H6r := H6q.ext ex
      refine wl_call Try.func102 rfl rfl rfl (sub_any A6 A8 n6 c6 n8 c8 u' Fp.p _ H6r H8 hc2 (by omega)) rfl ?_
      rintro e w6 ⟨A9, n9, c9, rfl, H9, h9, ex⟩
      refine ⟨_, rfl, ?_⟩
      have F6 := F5.ext ex
      refine wl_y (y_assign rfl) rfl ?_
      refine wl_nil ?_
      refine wq_blk_norm ?_
      refine wq_then_norm ?_
      have hpp : 0 < Fp.p := by decide
      refine hL2 _ _ ⟨u' - Fp.p, n9, c9, A9, rfl, rfl, by omega, F6, H9, h9, by rw [← hv6, ← Nat.mod_eq_sub_mod hc2]⟩ (by omega) ⟨rfl, trivial⟩
    · skip
      simp at hc2
      refine wc_exit ?_
      refine wq_then_exit ?_
      refine wq_then_exit ?_
      refine wq_blk_hit ?_
      refine wq_then_norm (hK5 ?_)
      refine wc_seq ?_; intro K8 hK8
      refine wc_region ?_
      refine wl_y (y_move rfl) rfl ?_
      refine wl_y (y_assign rfl) rfl ?_
      refine wl_nil ?_
      refine wq_then_norm (hK8 ?_)
      refine wc_ret ?_
      refine hret rfl ?_
      exact ⟨A6, n6, c6, rfl, H6q.congr (by rw [← hv6, Nat.mod_eq_of_lt (by omega)]), hc6, F4⟩
end Go.Proofs.Ytbcbihdfpkeacaa
