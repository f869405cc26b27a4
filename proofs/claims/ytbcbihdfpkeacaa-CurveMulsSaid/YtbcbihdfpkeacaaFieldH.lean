/- The field's reference: Of, First, Bytes, Mul, Add, Sub, Same: what each hands back. -/
import Derived.Test.YtbcbihdfpkeacaaFieldG
namespace Go.Proofs.Ytbcbihdfpkeacaa
open Go.RowKit
attribute [local irreducible] Y Ef WL WC WK WQ WM OpM
theorem rmul_any (A B : Option Addr) (n c m d a b : Nat) (w : World) (HA : Bg w A n a) (HB : Bg w B m b) (hn : n ≤ 1000) (hm : m ≤ 1000) :
    Calls Try.prog 31 #[.slice A n c, .slice B m d] w fun e w' => ∃ A' n' c', e = .returned (.slice A' n' c') ∧ Bg w' A' n' (a * b % Fp.p) ∧ n' ≤ c' ∧ Ext w w' := by
  refine vc_enter1 9 Try.func31 rfl rfl rfl rfl ?_
  intro Q hret
  refine wc_seq ?_; intro K1 hK1
  refine wc_region ?_
  refine wl_y (y_assign rfl) rfl ?_
  refine wl_nil ?_
  refine wq_then_norm (hK1 ?_)
  refine wc_seq ?_; intro K2 hK2
  refine wc_region ?_
  refine wl_y (y_move rfl) rfl ?_
  refine wl_y (y_move rfl) rfl ?_
  refine wl_call Try.func39 rfl rfl rfl (mul_any A B n c m d a b _ HA HB (by omega) (by omega)) rfl ?_
  rintro e w1 ⟨A1, n1, c1, rfl, H1, h1, k1, ex⟩
  refine ⟨_, rfl, ?_⟩
  have E1 := ex
  refine wl_call Try.func99 rfl rfl rfl (mod_any A1 n1 c1 _ _ H1 k1 (by omega)) rfl ?_
  rintro e w2 ⟨A2, n2, c2, rfl, H2, k2, ex⟩
  refine ⟨_, rfl, ?_⟩
  have E2 := E1.ext ex
  refine wl_y (y_assign rfl) rfl ?_
  refine wl_nil ?_
  refine wq_then_norm (hK2 ?_)
  refine wc_ret ?_
  refine hret rfl ?_
  exact ⟨A2, n2, c2, rfl, H2, k2, E2⟩
theorem radd_any (A B : Option Addr) (n c m d a b : Nat) (w : World) (HA : Bg w A n a) (HB : Bg w B m b) (hn : n ≤ 1000) (hm : m ≤ 1000) :
    Calls Try.prog 26 #[.slice A n c, .slice B m d] w fun e w' => ∃ A' n' c', e = .returned (.slice A' n' c') ∧ Bg w' A' n' ((a + b) % Fp.p) ∧ n' ≤ c' ∧ Ext w w' := by
  refine vc_enter1 9 Try.func26 rfl rfl rfl rfl ?_
  intro Q hret
  refine wc_seq ?_; intro K1 hK1
  refine wc_region ?_
  refine wl_y (y_assign rfl) rfl ?_
  refine wl_nil ?_
  refine wq_then_norm (hK1 ?_)
  refine wc_seq ?_; intro K2 hK2
  refine wc_region ?_
  refine wl_y (y_move rfl) rfl ?_
  refine wl_y (y_move rfl) rfl ?_
  refine wl_call Try.func41 rfl rfl rfl (add_any A B n c m d a b _ HA HB (by omega) (by omega)) rfl ?_
  rintro e w1 ⟨A1, n1, c1, rfl, H1, h1, k1, ex⟩
  refine ⟨_, rfl, ?_⟩
  have E1 := ex
  refine wl_call Try.func99 rfl rfl rfl (mod_any A1 n1 c1 _ _ H1 k1 (by omega)) rfl ?_
  rintro e w2 ⟨A2, n2, c2, rfl, H2, k2, ex⟩
  refine ⟨_, rfl, ?_⟩
  have E2 := E1.ext ex
  refine wl_y (y_assign rfl) rfl ?_
  refine wl_nil ?_
  refine wq_then_norm (hK2 ?_)
  refine wc_ret ?_
  refine hret rfl ?_
  exact ⟨A2, n2, c2, rfl, H2, k2, E2⟩
theorem rsub_any (A B : Option Addr) (n c m d a b : Nat) (w : World) (HA : Bg w A n a) (HB : Bg w B m b) (hb : b ≤ a + Fp.p) (hn : n ≤ 1000) (hm : m ≤ 1000) :
    Calls Try.prog 28 #[.slice A n c, .slice B m d] w fun e w' => ∃ A' n' c', e = .returned (.slice A' n' c') ∧ Bg w' A' n' ((a + Fp.p - b) % Fp.p) ∧ n' ≤ c' ∧ Ext w w' := by
  have hpl := p_len
  refine vc_enter1 11 Try.func28 rfl rfl rfl rfl ?_
  intro Q hret
  refine wc_seq ?_; intro K1 hK1
  refine wc_region ?_
  refine wl_y (y_assign rfl) rfl ?_
  refine wl_nil ?_
  refine wq_then_norm (hK1 ?_)
  refine wc_seq ?_; intro K2 hK2
  refine wc_region ?_
  refine wl_y (y_move rfl) rfl ?_
  refine wl_call Try.func49 rfl rfl rfl (refP_any _) rfl ?_
  rintro e w1 ⟨A1, n1, c1, rfl, H1, k1, ex⟩
  refine ⟨_, rfl, ?_⟩
  replace HA := HA.ext ex
  replace HB := HB.ext ex
  have E1 := ex; have hl1 := H1.len
  refine wl_call Try.func41 rfl rfl rfl (add_any A A1 n c n1 c1 a Fp.p _ HA H1 (by omega) (by omega)) rfl ?_
  rintro e w2 ⟨A2, n2, c2, rfl, H2, h2, k2, ex⟩
  refine ⟨_, rfl, ?_⟩
  replace HA := HA.ext ex
  replace HB := HB.ext ex
  have E2 := E1.ext ex
  refine wl_y (y_move rfl) rfl ?_
  refine wl_call Try.func102 rfl rfl rfl (sub_any A2 B n2 c2 m d (a + Fp.p) b _ H2 HB hb (by omega)) rfl ?_
  rintro e w3 ⟨A3, n3, c3, rfl, H3, k3, ex⟩
  refine ⟨_, rfl, ?_⟩
  replace HA := HA.ext ex
  replace HB := HB.ext ex
  have E3 := E2.ext ex; have hl3 := H3.len; have hl2 := H2.len; have hle := Big.length_le (Nat.sub_le (a + Fp.p) b)
  refine wl_call Try.func99 rfl rfl rfl (mod_any A3 n3 c3 _ _ H3 k3 (by omega)) rfl ?_
  rintro e w4 ⟨A4, n4, c4, rfl, H4, k4, ex⟩
  refine ⟨_, rfl, ?_⟩
  replace HA := HA.ext ex
  replace HB := HB.ext ex
  have E4 := E3.ext ex
  refine wl_y (y_assign rfl) rfl ?_
  refine wl_nil ?_
  refine wq_then_norm (hK2 ?_)
  refine wc_ret ?_
  refine hret rfl ?_
  exact ⟨A4, n4, c4, rfl, H4, k4, E4⟩
theorem rsame_any (A B : Option Addr) (n c m d a b : Nat) (w : World) (HA : Bg w A n a) (HB : Bg w B m b) (hn : n ≤ 1000) (hm : m ≤ 1000) :
    Calls Try.prog 34 #[.slice A n c, .slice B m d] w fun e w' => e = .returned (.bool (decide (a = b))) ∧ Ext w w' := by
  refine vc_enter1 15 Try.func34 rfl rfl rfl rfl ?_
  intro Q hret
  refine wc_seq ?_; intro K1 hK1
  refine wc_region ?_
  refine wl_y (y_assign rfl) rfl ?_
  refine wl_nil ?_
  refine wq_then_norm (hK1 ?_)
  refine wc_seq ?_; intro K2 hK2
  refine wc_region ?_
  refine wl_y (y_move rfl) rfl ?_
  refine wl_y (y_move rfl) rfl ?_
  refine wl_call Try.func42 rfl rfl rfl (less_any A B n c m d a b _ HA HB (by omega) (by omega)) rfl ?_
  rintro e w1 ⟨rfl, ex⟩
  refine ⟨_, rfl, ?_⟩
  replace HA := HA.ext ex
  replace HB := HB.ext ex
  have E1 := ex
  refine wl_yaskb (y_not rfl) rfl (fun h1 => ?_) (fun h1 => ?_)
  · skip
    refine wl_y (y_move rfl) rfl ?_
    refine wl_gy 9 rfl rfl (y_move rfl) rfl ?_
    refine wl_gy 9 rfl rfl (y_move rfl) rfl ?_
    refine wl_gcall 9 rfl rfl Try.func42 rfl rfl rfl (less_any B A m d n c b a _ HB HA (by omega) (by omega)) rfl ?_
    rintro e w2 ⟨rfl, ex⟩
    refine ⟨_, rfl, ?_⟩
    replace HA := HA.ext ex
    replace HB := HB.ext ex
    have E2 := E1.ext ex
    refine wl_gy 9 rfl rfl (y_not rfl) rfl ?_
    refine wl_y (y_pickt rfl rfl) rfl ?_
    refine wl_y (y_assign rfl) rfl ?_
    refine wl_nil ?_
    refine wq_then_norm (hK2 ?_)
    refine wc_ret ?_
    refine hret rfl ?_
    exact ⟨by simp at h1; congr 2; by_cases h : a = b <;> simp [h] <;> omega, E2⟩
  · skip
    refine wl_y (y_move rfl) rfl ?_
    refine wl_gno 9 rfl rfl rfl rfl ?_
    refine wl_gno 9 rfl rfl rfl rfl ?_
    refine wl_gno 9 rfl rfl rfl rfl ?_
    refine wl_gno 9 rfl rfl rfl rfl ?_
    refine wl_y (y_pickf rfl rfl) rfl ?_
    refine wl_y (y_assign rfl) rfl ?_
    refine wl_nil ?_
    refine wq_then_norm (hK2 ?_)
    refine wc_ret ?_
    refine hret rfl ?_
    exact ⟨by simp at h1; rw [decide_eq_false (by omega)], E1⟩
theorem Fp.num_drop_step (b : List UInt8) (j : Nat) (h : j < b.length) : Fp.num (b.drop j) = Fp.num (b.drop (j + 1)) * 256 + (b.getD j 0).toNat := by
  rw [List.drop_eq_getElem_cons h, Fp.num, List.getD_eq_getElem?_getD, List.getElem?_eq_getElem h]
  show _ = _ + (b[j]).toNat
  omega
theorem rof_any (A : Option Addr) (n c : Nat) (b : List UInt8) (w : World) (HA : Bs w A n b) (hn : n ≤ 900) :
    Calls Try.prog 67 #[.slice A n c] w fun e w' => ∃ A' n' c', e = .returned (.slice A' n' c') ∧ Bg w' A' n' (Fp.num b) ∧ n' ≤ c' ∧ n' ≤ n ∧ Ext w w' := by
  have hlb := HA.1
  refine vc_enter1 23 Try.func67 rfl rfl rfl rfl ?_
  intro Q hret
  refine wc_seq ?_; intro K1 hK1
  refine wc_region ?_
  refine wl_y (y_assign rfl) rfl ?_
  refine wl_nil ?_
  refine wq_then_norm (hK1 ?_)
  refine wc_seq ?_; intro K2 hK2
  refine wc_region ?_
  refine wl_y (y_assign rfl) rfl ?_
  refine wl_nil ?_
  refine wq_then_norm (hK2 ?_)
  refine wc_seq ?_; intro K3 hK3
  refine wc_seq ?_; intro K4 hK4
  refine wc_region ?_
  refine wl_y (y_move rfl) rfl ?_
  refine wl_y (y_len_slice rfl Try.underlying22) rfl ?_
  refine wl_y (y_sub rfl rfl (i64_ok (by omega) (by omega))) rfl ?_
  refine wl_y (y_assign rfl) rfl ?_
  refine wl_nil ?_
  refine wq_then_norm (hK4 ?_)
  refine wc_block ?_
  refine wc_loop (fun n' L wr => ∃ (j n5 c5 : Nat) (A5 : Option Addr), L = [(0, .slice A n c), (3, .slice A5 n5 c5), (4, .int .i64 ((j : Int) - 1))] ∧ n' = 0 + j ∧ (j ≤ n ∧ Ext w wr ∧ Bg wr A5 n5 (Fp.num (b.drop j)) ∧ n5 ≤ c5)) _ _ ⟨n, 0, 0, none, rfl, rfl, Nat.le_refl _, Ext.refl _, by rw [List.drop_of_length_le (by omega)]; exact Ns.nil _ _, Nat.le_refl _⟩ ⟨rfl, rfl, (by first | rfl | exact congrArg some (int_val (by omega))), trivial⟩ ?_
  rintro KL1 n' L wr ⟨j, n5, c5, A5, rfl, rfl, hj, E, H5, hc5⟩ hL1
  refine wc_seq ?_; intro K5 hK5
  refine wc_seq ?_; intro K6 hK6
  refine wc_region ?_
  refine wl_y (y_move rfl) rfl ?_
  refine wl_y (y_geq rfl rfl) rfl ?_
  refine wl_nil ?_
  refine wq_then_norm (hK6 ?_)
  refine wc_dec rfl (fun hc1 => ?_) (fun hc1 => ?_)
  · skip
    refine wc_skip ?_
    refine wq_then_norm (hK5 ?_)
    refine wc_seq ?_; intro K7 hK7
    refine wc_block ?_
    obtain ⟨j, rfl⟩ : ∃ i, j = i + 1 := ⟨j - 1, by omega⟩
    rw [show (((j + 1 : Nat) : Int) - 1) = (j : Int) by omega]
    obtain ⟨b1, off1, x, rfl, hx, hcx⟩ := (HA.ext E).byte (k := j) (by omega)
    have hst := Fp.num_drop_step b j (by omega)
    have hl5 := H5.len
    have hlen : n5 ≤ n := by
      have h := Fp.num_lt (b.drop (j + 1))
      rw [← hl5]
      refine Big.digs_length_le _ n (Nat.lt_of_lt_of_le h ?_)
      rw [List.length_drop]
      exact Nat.le_trans (Nat.pow_le_pow_left (show 256 ≤ 32768 by omega) _) (Nat.pow_le_pow_right (by omega) (by omega))
    have hxl := x.toNat_lt
    rw [← hx.out] at hst
    refine wc_draw (by kernel_rfl) 11 rfl ?_; intro wd5 ex hd5
    replace E := E.ext ex; replace H5 := H5.ext ex; replace hcx := (ex.cell (cell_lt hcx)).trans hcx
    refine wm_y 0 rfl (by kernel_rfl) (y_move rfl) rfl ?_
    refine wm_y 3 rfl (by kernel_rfl) (y_move rfl) rfl ?_
    refine wm_y 4 rfl (by kernel_rfl) (y_move rfl) rfl ?_
    refine wm_y 5 rfl (by kernel_rfl) (y_ixs1 rfl rfl Try.underlying22 (by kernel_rfl) rfl (by omega)) rfl ?_
    refine wm_y 6 rfl (by kernel_rfl) (y_load1 rfl Try.underlying5 rfl hcx) rfl ?_
    refine wm_y 7 rfl (by kernel_rfl) (y_conv rfl Try.underlying5 Try.underlying23 (IntWalk.u64_in _ ⟨by omega, by omega⟩)) rfl ?_
    refine wm_one 1 (by kernel_rfl) ?_; refine om_call rfl Try.func24 rfl rfl rfl (num_any 256 _ (by omega)) rfl ?_
    rintro e w1 ⟨A1, n1, c1, rfl, H1, k1, ex⟩
    refine ⟨_, rfl, .inr ex, ?_⟩
    have E1 := E.ext ex; have H5a := H5.ext ex; have hl1 := H1.len; have h1l := Big.digs_length_le 256 1 (by omega); replace hcx := (ex.cell (cell_lt hcx)).trans hcx
    refine wm_one 2 (by kernel_rfl) ?_; refine om_call rfl Try.func39 rfl rfl rfl (mul_any A5 A1 n5 c5 n1 c1 _ 256 _ H5a H1 (by omega) (by omega)) rfl ?_
    rintro e w2 ⟨A2, n2, c2, rfl, H2, h2, k2, ex⟩
    refine ⟨_, rfl, .inr ex, ?_⟩
    have E2 := E1.ext ex; replace hcx := (ex.cell (cell_lt hcx)).trans hcx
    refine wm_one 8 (by kernel_rfl) ?_; refine om_call rfl Try.func24 rfl rfl rfl (num_any x.toNat _ (by omega)) rfl ?_
    rintro e w3 ⟨A3, n3, c3, rfl, H3, k3, ex⟩
    refine ⟨_, rfl, .inr ex, ?_⟩
    have E3 := E2.ext ex; have H2a := H2.ext ex; have hl3 := H3.len; have h3l := Big.digs_length_le x.toNat 1 (by omega)
    refine wm_one 9 (by kernel_rfl) ?_; refine om_call rfl Try.func41 rfl rfl rfl (add_any A2 A3 n2 c2 n3 c3 _ _ _ H2a H3 (by omega) (by omega)) rfl ?_
    rintro e w4 ⟨A4, n4, c4, rfl, H4, h4, k4, ex⟩
    refine ⟨_, rfl, .inr ex, ?_⟩
    have E4 := E3.ext ex
    refine wm_y 10 rfl (by kernel_rfl) (y_assign rfl) rfl ?_
    refine wm_done (by kernel_rfl) ?_
    refine wq_nop ?_
    refine wq_blk_norm ?_
    refine wq_then_norm (hK7 ?_)
    refine wc_region ?_
    refine wl_y (y_move rfl) rfl ?_
    refine wl_y (y_sub rfl rfl (i64_ok (by omega) (by omega))) rfl ?_
    refine wl_y (y_assign rfl) rfl ?_
    refine wl_nil ?_
    refine wq_then_norm ?_
    refine hL1 _ _ ⟨j, n4, c4, A4, rfl, rfl, by omega, E4, H4.congr hst.symm, k4⟩ (by omega) ⟨rfl, rfl, (by first | rfl | exact congrArg some (int_val (by omega))), trivial⟩
  · skip
    refine wc_exit ?_
    refine wq_then_exit ?_
    refine wq_then_exit ?_
    refine wq_blk_hit ?_
    refine wq_then_norm (hK3 ?_)
    refine wc_seq ?_; intro K8 hK8
    refine wc_region ?_
    refine wl_y (y_move rfl) rfl ?_
    refine wl_y (y_assign rfl) rfl ?_
    refine wl_nil ?_
    refine wq_then_norm (hK8 ?_)
    refine wc_ret ?_
    refine hret rfl ?_
    obtain rfl : j = 0 := by omega
    rw [List.drop_zero] at H5
    refine ⟨A5, n5, c5, rfl, H5, hc5, ?_, E⟩
    have h := Fp.num_lt b
    rw [← H5.len]
    refine Big.digs_length_le _ n (Nat.lt_of_lt_of_le h ?_)
    rw [hlb]
    exact Nat.pow_le_pow_left (show 256 ≤ 32768 by omega) _
end Go.Proofs.Ytbcbihdfpkeacaa
