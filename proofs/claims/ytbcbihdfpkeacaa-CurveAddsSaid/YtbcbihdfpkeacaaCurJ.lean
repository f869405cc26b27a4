/- The reference of the curve. -/
import Derived.Test.YtbcbihdfpkeacaaCurG
import Derived.Test.YtbcbihdfpkeacaaSame
namespace Go.Proofs.Ytbcbihdfpkeacaa
open Go.RowKit
section
attribute [local irreducible] Y Ef WL WC WK WQ WM OpM WN WF OpN
theorem sameX_any (A B : Option Addr) (n m c d : Nat) (xs ys : List UInt8) (w : World) (ha : Bs w A n xs) (hb : Bs w B m ys) (hn : n ≤ 140737488355328) (hm : m ≤ 140737488355328) :
    Calls Try.prog 53 #[.slice A n c, .slice B m d] w fun e w' => e = .returned (.bool (decide (xs = ys))) ∧ Ext w w' :=
  (same_any A B n m c d xs ys w ha hb hn hm).mono fun _ _ ⟨h, k, hk⟩ => ⟨h, hk ▸ Ext.drewN w k⟩
theorem BG.nil (w : World) (A : Option Addr) : BG w A 0 0 := Ns.nil w A
theorem neg_of (x : Fp.F) : (0 : Fp.F) - x = -x := by grind
theorem Rnum_any (n : Nat) (w : World) (hn : n < 18446744073709551616) :
    Calls Try.prog 24 #[.int .u64 (n : Int)] w fun e w' => ∃ A' n' c', e = .returned (.slice A' n' c') ∧ BG w' A' n' (Fp.of n) ∧ Ext w w' :=
  (num_any n w hn).mono fun _ _ ⟨A, m, c, h1, h2, _, h4⟩ => ⟨A, m, c, h1, BG.of h2 (Nat.lt_of_lt_of_le hn (by unfold Fp.p; omega)), h4⟩
theorem Rsame_any (A B : Option Addr) (n c m d : Nat) (a b : Fp.F) (w : World) (HA : BG w A n a) (HB : BG w B m b) :
    Calls Try.prog 34 #[.slice A n c, .slice B m d] w fun e w' => e = .returned (.bool (decide (a = b))) ∧ Ext w w' :=
  (rsame_any A B n c m d a.val b.val w HA HB (by have := HA.le; omega) (by have := HB.le; omega)).mono fun _ _ ⟨h1, h2⟩ => ⟨h1.trans (ret_bool Fp.val_inj), h2⟩
theorem BG.len0 {w : World} {A : Option Addr} {n : Nat} {a : Fp.F} (h : BG w A n a) : n = 0 ↔ a = 0 := by
  have hl := (show Bg w A n a.val from h).len
  constructor
  · intro e
    have h0 : Big.digs a.val = [] := List.eq_nil_of_length_eq_zero (by omega)
    exact Fp.val_eq_zero.1 (by rw [← Big.val_digs a.val, h0]; rfl)
  · intro e; subst e; rw [← hl]; rfl
theorem rD_any (w : World) : Calls Try.prog 128 #[] w fun e w' => ∃ A' n' c', e = .returned (.slice A' n' c') ∧ BG w' A' n' Ed.d ∧ Ext w w' := by
  have E := Ext.refl w
  have hd : (-(Fp.of 121665)) * Fp.inv (Fp.of 121666) = Ed.d := (Ed.eq_div Ed.c_ne Ed.d_is'.symm).symm
  refine vc_enter1 6 Try.func128 rfl rfl rfl rfl ?_
  intro Q hret
  refine wc_seq ?_; intro K1 hK1
  refine wc_region ?_
  refine wl_y (y_assign rfl) rfl ?_
  refine wl_nil ?_
  refine wq_then_norm (hK1 ?_)
  refine wc_seq ?_; intro K2 hK2
  refine wc_region ?_
  refine wl_call Try.func24 rfl rfl rfl (Rnum_any 121665 _ (by omega)) rfl ?_
  rintro e w1 ⟨A1, n1, c1, rfl, H1, ex⟩
  refine ⟨_, rfl, ?_⟩
  replace E := E.ext ex
  skip
  refine wl_call Try.func28 rfl rfl rfl (Rsub_any none A1 0 0 n1 c1 0 (Fp.of 121665) _ (BG.nil _ _) H1) rfl ?_
  rintro e w2 ⟨A2, n2, c2, rfl, H2, _, ex⟩
  refine ⟨_, rfl, ?_⟩
  replace E := E.ext ex
  rw [neg_of] at H2
  refine wl_call Try.func24 rfl rfl rfl (Rnum_any 121666 _ (by omega)) rfl ?_
  rintro e w3 ⟨A3, n3, c3, rfl, H3, ex⟩
  refine ⟨_, rfl, ?_⟩
  replace E := E.ext ex
  replace H2 := H2.ext ex
  skip
  refine wl_call Try.func46 rfl rfl rfl (Rinv_any A3 n3 c3 (Fp.of 121666) _ H3) rfl ?_
  rintro e w4 ⟨A4, n4, c4, rfl, H4, _, ex⟩
  refine ⟨_, rfl, ?_⟩
  replace E := E.ext ex
  replace H2 := H2.ext ex
  skip
  refine wl_call Try.func31 rfl rfl rfl (Rmul_any A2 A4 n2 c2 n4 c4 _ _ _ H2 H4) rfl ?_
  rintro e w5 ⟨A5, n5, c5, rfl, H5, _, ex⟩
  refine ⟨_, rfl, ?_⟩
  replace E := E.ext ex
  replace H2 := H2.ext ex
  rw [hd] at H5
  refine wl_y (y_assign rfl) rfl ?_
  refine wl_nil ?_
  refine wq_then_norm (hK2 ?_)
  refine wc_ret ?_
  refine hret rfl ?_
  exact ⟨A5, n5, c5, rfl, H5, E⟩
theorem rsquare_any (A : Option Addr) (n c : Nat) (y : Fp.F) (w : World) (HA : BG w A n y) :
    Calls Try.prog 68 #[.slice A n c] w fun e w' => ∃ A' n' c', e = .returned (.slice A' n' c') ∧ BG w' A' n' (Ed.sq y) ∧ Ext w w' := by
  have E := Ext.refl w
  refine vc_enter1 19 Try.func68 rfl rfl rfl rfl ?_
  intro Q hret
  refine wc_seq ?_; intro K1 hK1
  refine wc_region ?_
  refine wl_y (y_assign rfl) rfl ?_
  refine wl_nil ?_
  refine wq_then_norm (hK1 ?_)
  refine wc_seq ?_; intro K2 hK2
  refine wc_region ?_
  refine wl_y (y_move rfl) rfl ?_
  refine wl_y (y_move rfl) rfl ?_
  refine wl_call Try.func31 rfl rfl rfl (Rmul_any A A n c n c y y _ HA HA) rfl ?_
  rintro e w1 ⟨A1, n1, c1, rfl, H1, _, ex⟩
  refine ⟨_, rfl, ?_⟩
  replace E := E.ext ex
  skip
  refine wl_y (y_assign rfl) rfl ?_
  refine wl_nil ?_
  refine wq_then_norm (hK2 ?_)
  refine wc_seq ?_; intro K3 hK3
  refine wc_region ?_
  refine wl_call Try.func24 rfl rfl rfl (Rnum_any 1 _ (by omega)) rfl ?_
  rintro e w2 ⟨A2, n2, c2, rfl, H2, ex⟩
  refine ⟨_, rfl, ?_⟩
  replace E := E.ext ex
  replace H1 := H1.ext ex
  skip
  refine wl_y (y_assign rfl) rfl ?_
  refine wl_nil ?_
  refine wq_then_norm (hK3 ?_)
  refine wc_seq ?_; intro K4 hK4
  refine wc_region ?_
  refine wl_y (y_move rfl) rfl ?_
  refine wl_y (y_move rfl) rfl ?_
  refine wl_call Try.func28 rfl rfl rfl (Rsub_any A1 A2 n1 c1 n2 c2 _ _ _ H1 H2) rfl ?_
  rintro e w3 ⟨A3, n3, c3, rfl, H3, _, ex⟩
  refine ⟨_, rfl, ?_⟩
  replace E := E.ext ex
  replace H1 := H1.ext ex
  replace H2 := H2.ext ex
  skip
  refine wl_call Try.func128 rfl rfl rfl (rD_any _) rfl ?_
  rintro e w4 ⟨A4, n4, c4, rfl, H4, ex⟩
  refine ⟨_, rfl, ?_⟩
  replace E := E.ext ex
  replace H1 := H1.ext ex
  replace H2 := H2.ext ex
  replace H3 := H3.ext ex
  skip
  refine wl_y (y_move rfl) rfl ?_
  refine wl_call Try.func31 rfl rfl rfl (Rmul_any A4 A1 n4 c4 n1 c1 _ _ _ H4 H1) rfl ?_
  rintro e w5 ⟨A5, n5, c5, rfl, H5, _, ex⟩
  refine ⟨_, rfl, ?_⟩
  replace E := E.ext ex
  replace H1 := H1.ext ex
  replace H2 := H2.ext ex
  replace H3 := H3.ext ex
  skip
  refine wl_y (y_move rfl) rfl ?_
  refine wl_call Try.func26 rfl rfl rfl (Radd_any A5 A2 n5 c5 n2 c2 _ _ _ H5 H2) rfl ?_
  rintro e w6 ⟨A6, n6, c6, rfl, H6, _, ex⟩
  refine ⟨_, rfl, ?_⟩
  replace E := E.ext ex
  replace H1 := H1.ext ex
  replace H2 := H2.ext ex
  replace H3 := H3.ext ex
  skip
  refine wl_call Try.func46 rfl rfl rfl (Rinv_any A6 n6 c6 _ _ H6) rfl ?_
  rintro e w7 ⟨A7, n7, c7, rfl, H7, _, ex⟩
  refine ⟨_, rfl, ?_⟩
  replace E := E.ext ex
  replace H1 := H1.ext ex
  replace H2 := H2.ext ex
  replace H3 := H3.ext ex
  skip
  refine wl_call Try.func31 rfl rfl rfl (Rmul_any A3 A7 n3 c3 n7 c7 _ _ _ H3 H7) rfl ?_
  rintro e w8 ⟨A8, n8, c8, rfl, H8, _, ex⟩
  refine ⟨_, rfl, ?_⟩
  replace E := E.ext ex
  replace H1 := H1.ext ex
  replace H2 := H2.ext ex
  replace H3 := H3.ext ex
  skip
  refine wl_y (y_assign rfl) rfl ?_
  refine wl_nil ?_
  refine wq_then_norm (hK4 ?_)
  refine wc_ret ?_
  refine hret rfl ?_
  exact ⟨A8, n8, c8, rfl, H8, E⟩
theorem rodd_any (A : Option Addr) (n c : Nat) (a : Fp.F) (w : World) (HA : BG w A n a) :
    Calls Try.prog 131 #[.slice A n c] w fun e w' => e = .returned (.bool (decide (a.val % 2 = 1))) ∧ Ext w w' := by
  have hl := (show Bg w A n a.val from HA).len
  refine vc_enter1 13 Try.func131 rfl rfl rfl rfl ?_
  intro Q hret
  refine wc_seq ?_; intro K1 hK1
  refine wc_region ?_
  refine wl_y (y_assign rfl) rfl ?_
  refine wl_nil ?_
  refine wq_then_norm (hK1 ?_)
  refine wc_seq ?_; intro K2 hK2
  refine wc_region ?_
  refine wl_y (y_move rfl) rfl ?_
  refine wl_y (y_len_slice rfl Try.underlying30) rfl ?_
  refine wl_y (y_gtr rfl rfl) rfl ?_
  refine wl_yask (y_move rfl) rfl (fun h1 => ?_) (fun h1 => ?_)
  · skip
    obtain ⟨b, off, x, rfl, hx, hcx⟩ := (show Ns .i64 w A n (Big.digs a.val) from HA).cell (i := 0) (by omega)
    refine wl_gy 6 rfl rfl (y_move rfl) rfl ?_
    refine wl_gy 6 rfl rfl (y_ixs1 rfl rfl Try.underlying30 (by kernel_rfl) (j := 0) rfl (by omega)) rfl ?_
    refine wl_gy 6 rfl rfl (y_load1 rfl Try.underlying3 rfl hcx) rfl ?_
    refine wl_gy 6 rfl rfl (y_rem rfl rfl (by omega) (show ((x : Nat) : Int).tmod 2 = ((x % 2 : Nat) : Int) from rfl)) rfl ?_
    refine wl_gy 6 rfl rfl (y_eql rfl rfl) rfl ?_
    refine wl_y (y_pickt rfl rfl) rfl ?_
    refine wl_y (y_assign rfl) rfl ?_
    refine wl_nil ?_
    refine wq_then_norm (hK2 ?_)
    refine wc_ret ?_
    refine hret rfl ?_
    exact ⟨ret_bool (by have h2 := Big.digit_eq a.val 0; rw [← hx.out, Nat.pow_zero, Nat.div_one] at h2; omega), Ext.refl _⟩
  · skip
    refine wl_gno 6 rfl rfl rfl rfl ?_
    refine wl_gno 6 rfl rfl rfl rfl ?_
    refine wl_gno 6 rfl rfl rfl rfl ?_
    refine wl_gno 6 rfl rfl rfl rfl ?_
    refine wl_gno 6 rfl rfl rfl rfl ?_
    refine wl_y (y_pickf rfl rfl) rfl ?_
    refine wl_y (y_assign rfl) rfl ?_
    refine wl_nil ?_
    refine wq_then_norm (hK2 ?_)
    refine wc_ret ?_
    refine hret rfl ?_
    exact ⟨by
    have h0 : Big.digs a.val = [] := List.eq_nil_of_length_eq_zero (by omega)
    have h2 : a.val = 0 := by rw [← Big.val_digs a.val, h0]; rfl
    rw [decide_eq_false (by omega)], Ext.refl _⟩
end
section
attribute [local irreducible] Y Ef WL WC WK WQ WM OpM WN WF OpN
theorem rbytesR_any (A : Option Addr) (n c k v : Nat) (w : World) (HA : Bg w A n v) (hn : n ≤ 1000) (hk : k ≤ 1000) :
    Calls Try.prog 50 #[.slice A n c, .int .i64 (k : Int)] w fun e w' => ∃ A' c', e = .returned (.slice A' k c') ∧ Row w' w.heap.size 5 A' k c' ((Fp.le k v).map bv) ∧ Ext w w' := by
  have hln := HA.len
  refine vc_enter1 28 Try.func50 rfl rfl rfl rfl ?_
  intro Q hret
  refine wc_seq ?_; intro K1 hK1
  refine wc_region ?_
  refine wl_y (y_assign rfl) rfl ?_
  refine wl_nil ?_
  refine wq_then_norm (hK1 ?_)
  refine wc_seq ?_; intro K2 hK2
  refine wc_region ?_
  refine wl_y (y_assign rfl) rfl ?_
  refine wl_nil ?_
  refine wq_then_norm (hK2 ?_)
  refine wc_seq ?_; intro K3 hK3
  refine wc_seq ?_; intro K4 hK4
  refine wc_region ?_
  refine wl_y (y_assign rfl) rfl ?_
  refine wl_nil ?_
  refine wq_then_norm (hK4 ?_)
  refine wc_block ?_
  refine wc_loop (fun n' L wr => ∃ (i n5 c5 c8 : Nat) (A5 A8 : Option Addr), L = [(0, .slice A5 n5 c5), (1, .int .i64 (k : Int)), (5, .slice A8 i c8), (6, .int .i64 (i : Int))] ∧ n' = k - i ∧ (i ≤ k ∧ Ext w wr ∧ Bg wr A5 n5 (v / 256 ^ i) ∧ Row wr w.heap.size 5 A8 i c8 ((Fp.le i v).map bv))) _ _ ⟨0, n, c, 0, A, none, rfl, rfl, by omega, Ext.refl _, HA.congr (by rw [Nat.pow_zero, Nat.div_one]), Row.empty _ _ _⟩ ⟨rfl, (by first | rfl | exact congrArg some (int_val (by omega))), rfl, (by first | rfl | exact congrArg some (int_val (by omega))), trivial⟩ ?_
  rintro KL1 n' L wr ⟨i, n5, c5, c8, A5, A8, rfl, rfl, hi, E, H5, R⟩ hL1
  refine wc_seq ?_; intro K5 hK5
  refine wc_seq ?_; intro K6 hK6
  refine wc_region ?_
  refine wl_y (y_move rfl) rfl ?_
  refine wl_y (y_move rfl) rfl ?_
  refine wl_y (y_lss rfl rfl) rfl ?_
  refine wl_nil ?_
  refine wq_then_norm (hK6 ?_)
  refine wc_dec rfl (fun hc1 => ?_) (fun hc1 => ?_)
  · skip
    refine wc_skip ?_
    refine wq_then_norm (hK5 ?_)
    refine wc_seq ?_; intro K7 hK7
    refine wc_block ?_
    refine wc_seq ?_; intro K8 hK8
    have hl5 := H5.len
    have hle := Big.length_le (Nat.div_le_self v (256 ^ i))
    refine wc_region ?_
    refine wl_y (y_move rfl) rfl ?_
    refine wl_call Try.func24 rfl rfl rfl (num_any 256 _ (by omega)) rfl ?_
    rintro e w1 ⟨A1, n1, c1, rfl, H1, k1, ex⟩
    refine ⟨_, rfl, ?_⟩
    have E1 := E.ext ex; have H5a := H5.ext ex; have hl1 := H1.len; have h1l := Big.digs_length_le 256 1 (by omega); have R1 := R.ext ex
    refine wl_call Try.func48 rfl rfl rfl (div_any A5 A1 n5 c5 n1 c1 _ 256 _ H5a H1 (by omega) (by omega) (by omega)) rfl ?_
    rintro e w2 ⟨A2, n2, c2, A3, n3, c3, rfl, H2, H3, k2, k3, kf, ex⟩
    refine ⟨_, rfl, ?_⟩
    have E2 := E1.ext ex; have R2 := R1.ext ex; have hl3 := H3.len; have h3l := Big.digs_length_le (v / 256 ^ i % 256) 1 (by omega)
    refine wl_y (y_move rfl) rfl ?_
    refine wl_y (y_extract rfl rfl) rfl ?_
    refine wl_y (y_extract rfl rfl) rfl ?_
    refine wl_y (y_assign rfl) rfl ?_
    refine wl_y (y_assign rfl) rfl ?_
    refine wl_nil ?_
    refine wq_then_norm (hK8 ?_)
    refine wc_seq ?_; intro K9 hK9
    refine wc_region ?_
    refine wl_y (y_move rfl) rfl ?_
    refine wl_y (y_move rfl) rfl ?_
    refine wl_call Try.func21 rfl rfl rfl (low_any A3 n3 c3 _ _ H3 (by omega)) rfl ?_
    rintro e w3 ⟨rfl, ex⟩
    refine ⟨_, rfl, ?_⟩
    have E3 := E2.ext ex; have R3 := R2.ext ex; have H2a := H2.ext ex; rw [Nat.mod_eq_of_lt (show v / 256 ^ i % 256 < 18446744073709551616 by omega)]
    refine wl_y (y_conv rfl Try.underlying23 Try.underlying5 (show IntKind.u8.wrap ((v / 256 ^ i % 256 : Nat) : Int) = ((UInt8.ofNat (v / 256 ^ i % 256)).toNat : Int) by rw [IntKind.wrap_u8', UInt8.toNat_ofNat']; omega)) rfl ?_
    refine wl_ef (ef_lit (z := .int .u8 0) Try.underlying22 (by kernel_rfl) rfl rfl rfl rfl rfl) rfl ?_
    rintro _ w4 ⟨g4, rfl, B4, hg4, ex⟩
    have E4 := E3.ext ex; have R4 := R3.ext ex; have H2b := H2a.ext ex; have hs4 := E4.size
    refine wl_ef (ef_app rfl rfl eltB R4 (At.blk (vs := [UInt8.ofNat (v / 256 ^ i % 256)].map bv) (B4.congr (by rfl))) rfl (by intro u hu; exact bv_one u hu) (by omega) (by omega) hs4) rfl ?_
    rintro _ w5 ⟨A6, c6, rfl, R6, be, gr, hl⟩
    have E5 := E4.trans be; have R7 := R6.cat; rw [← Fp.le_succ] at R7; have H2c : Bg w5 A2 n2 (v / 256 ^ i / 256) := Ns.app H2b (fun b o b' o' h1 h2 e => by subst h1; subst h2; have := (Row.lt R1).2; have := kf _ _ rfl; omega) gr R1.none_s
    refine wl_y (y_assign rfl) rfl ?_
    refine wl_nil ?_
    refine wq_then_norm (hK9 ?_)
    refine wc_region ?_
    refine wl_y (y_move rfl) rfl ?_
    refine wl_y (y_assign rfl) rfl ?_
    refine wl_nil ?_
    refine wq_blk_norm ?_
    refine wq_then_norm (hK7 ?_)
    refine wc_region ?_
    refine wl_y (y_move rfl) rfl ?_
    refine wl_y (y_add rfl rfl (i64_ok (by omega) (by omega))) rfl ?_
    refine wl_y (y_assign rfl) rfl ?_
    refine wl_nil ?_
    refine wq_then_norm ?_
    refine hL1 _ _ ⟨i + 1, n2, c2, c6, A2, A6, rfl, rfl, by omega, E5, H2c.congr (by rw [Nat.div_div_eq_div_mul, Nat.pow_succ]), R7⟩ (by omega) ⟨rfl, (by first | rfl | exact congrArg some (int_val (by omega))), rfl, (by first | rfl | exact congrArg some (int_val (by omega))), trivial⟩
  · skip
    refine wc_exit ?_
    refine wq_then_exit ?_
    refine wq_then_exit ?_
    refine wq_blk_hit ?_
    refine wq_then_norm (hK3 ?_)
    refine wc_seq ?_; intro K10 hK10
    refine wc_region ?_
    refine wl_y (y_move rfl) rfl ?_
    refine wl_y (y_assign rfl) rfl ?_
    refine wl_nil ?_
    refine wq_then_norm (hK10 ?_)
    refine wc_ret ?_
    refine hret rfl ?_
    obtain rfl : i = k := by omega
    exact ⟨A8, c8, rfl, R, E⟩

/-- What holds a slice holds no number. -/
theorem cell_noint {w : World} {g : Nat} {t : TypeId} {A0 A1 : Option Addr} {n0 c0 n1 c1 : Nat} (B : Blk w g t #[.slice A0 n0 c0, .slice A1 n1 c1]) {i : Nat} {k : IntKind} {z : Int} (h : w.cell? ⟨g, i, none⟩ = some (.int k z)) : False := by
  rw [B.cell] at h
  match i, h with
  | 0, h => cases h
  | 1, h => cases h
  | i + 2, h => simp at h
theorem Ns.apart {w w' : World} {k : IntKind} {A : Option Addr} {n g : Nat} {t : TypeId} {xs : List Nat} {A0 A1 : Option Addr} {n0 c0 n1 c1 : Nat} (h : Ns k w A n xs) (B : Blk w g t #[.slice A0 n0 c0, .slice A1 n1 c1]) (cg : Chg w g w') : Ns k w' A n xs := by
  rcases Nat.eq_zero_or_pos n with h0 | h0
  · subst h0
    have : xs = [] := List.length_eq_zero_iff.1 h.1
    subst this
    exact Ns.nil w' A
  · refine h.chg cg fun b off hA e => ?_
    obtain ⟨b', off', x, hA', _, hc⟩ := h.cell h0
    rw [hA] at hA'
    injection hA' with hA'
    injection hA' with hA' _ _
    subst hA'
    rw [e] at hc
    exact cell_noint B hc
theorem BG.off {w w' : World} {A : Option Addr} {n g : Nat} {t : TypeId} {a : Fp.F} {A0 A1 : Option Addr} {n0 c0 n1 c1 : Nat} (h : BG w A n a) (cg : Chg w g w') (B : Blk w g t #[.slice A0 n0 c0, .slice A1 n1 c1]) : BG w' A n a := Ns.apart h B cg
/-- A point of numbers: its cells. -/
def RP (w : World) (cs : Array Value) (P : Fp.F × Fp.F) : Prop := ∃ A n c B m d, cs = #[.slice A n c, .slice B m d] ∧ BG w A n P.1 ∧ BG w B m P.2
theorem RP.ext {w w' : World} {cs : Array Value} {P : Fp.F × Fp.F} (h : RP w cs P) (E : Ext w w') : RP w' cs P := by
  obtain ⟨A, n, c, B, m, d, rfl, h1, h2⟩ := h; exact ⟨A, n, c, B, m, d, rfl, h1.ext E, h2.ext E⟩
theorem add_way (P Q : Fp.F × Fp.F) : ((P.1 * Q.2 + P.2 * Q.1) * Fp.inv (Fp.of 1 + Ed.d * (P.2 * Q.2 * (P.1 * Q.1))), (P.2 * Q.2 + P.1 * Q.1) * Fp.inv (Fp.of 1 - Ed.d * (P.2 * Q.2 * (P.1 * Q.1)))) = Ed.add P Q := by
  have e : Fp.of 1 = 1 := rfl
  have h1 : Ed.d * (P.2 * Q.2 * (P.1 * Q.1)) = Ed.d * P.1 * Q.1 * P.2 * Q.2 := by generalize Ed.d = D; grind
  have h2 : P.1 * Q.2 + P.2 * Q.1 = P.1 * Q.2 + Q.1 * P.2 := by grind
  unfold Ed.add
  rw [e, h1, h2]
theorem radd09_any (A1 B1 A2 B2 : Option Addr) (n1 c1 m1 d1 n2 c2 m2 d2 : Nat) (P R : Fp.F × Fp.F) (w : World) (X1 : BG w A1 n1 P.1) (Y1 : BG w B1 m1 P.2) (X2 : BG w A2 n2 R.1) (Y2 : BG w B2 m2 R.2) :
    Calls Try.prog 75 #[.agg #[.slice A1 n1 c1, .slice B1 m1 d1], .agg #[.slice A2 n2 c2, .slice B2 m2 d2]] w fun e w' => ∃ cs, e = .returned (.agg cs) ∧ RP w' cs (Ed.add P R) ∧ Ext w w' := by
  have E := Ext.refl w
  refine vc_enterc1 (s := 2) 54 Try.func75 rfl rfl rfl Try.underlying74 rfl (by kernel_rfl) rfl ?_
  intro Q hret
  refine wc_seq ?_; intro K1 hK1
  refine wc_region ?_
  refine wl_ef (ef_box (cs := #[.slice A1 n1 c1, .slice B1 m1 d1]) rfl rfl) rfl ?_
  rintro _ wa1 ⟨g2, rfl, C2, hg2, ex⟩
  replace E := E.ext ex
  replace X1 := X1.ext ex
  replace Y1 := Y1.ext ex
  replace X2 := X2.ext ex
  replace Y2 := Y2.ext ex
  skip
  refine wl_ef (ef_box (cs := #[.slice A2 n2 c2, .slice B2 m2 d2]) rfl rfl) rfl ?_
  rintro _ wa2 ⟨g3, rfl, C3, hg3, ex⟩
  replace E := E.ext ex
  replace X1 := X1.ext ex
  replace Y1 := Y1.ext ex
  replace X2 := X2.ext ex
  replace Y2 := Y2.ext ex
  replace C2 := C2.ext ex
  skip
  have hz := E.size
  refine wl_ef (ef_alloc (Z := #[.slice none 0 0, .slice none 0 0]) (by kernel_rfl)) rfl ?_
  rintro _ wa3 ⟨g4, rfl, C4, hg4, ex⟩
  replace E := E.ext ex
  replace X1 := X1.ext ex
  replace Y1 := Y1.ext ex
  replace X2 := X2.ext ex
  replace Y2 := Y2.ext ex
  replace C2 := C2.ext ex
  replace C3 := C3.ext ex
  have hw4 : w.heap.size ≤ g4 := (by omega)
  refine wl_nil ?_
  refine wq_then_norm (hK1 ?_)
  refine wc_seq ?_; intro K2 hK2
  refine wc_draw (by kernel_rfl) 12 rfl ?_; intro wd1 ex hd1
  replace E := E.ext ex
  replace X1 := X1.ext ex
  replace Y1 := Y1.ext ex
  replace X2 := X2.ext ex
  replace Y2 := Y2.ext ex
  replace C2 := C2.ext ex
  replace C3 := C3.ext ex
  replace C4 := C4.ext ex
  refine wm_y 0 rfl (by kernel_rfl) (y_fieldAddr (o := 1) (s := 1) (off := 0) (o' := 1) rfl Try.underlying74 rfl (by kernel_rfl) rfl rfl) rfl ?_
  refine wm_y 1 rfl (by kernel_rfl) (y_load1 rfl Try.underlying30 rfl (C2.get (i := 1) rfl)) rfl ?_
  refine wm_y 2 rfl (by kernel_rfl) (y_fieldAddr (o := 1) (s := 1) (off := 0) (o' := 1) rfl Try.underlying74 rfl (by kernel_rfl) rfl rfl) rfl ?_
  refine wm_y 3 rfl (by kernel_rfl) (y_load1 rfl Try.underlying30 rfl (C3.get (i := 1) rfl)) rfl ?_
  refine wm_y 5 rfl (by kernel_rfl) (y_fieldAddr (o := 0) (s := 1) (off := 0) (o' := 0) rfl Try.underlying74 rfl (by kernel_rfl) rfl rfl) rfl ?_
  refine wm_y 6 rfl (by kernel_rfl) (y_load1 rfl Try.underlying30 rfl (C2.get (i := 0) rfl)) rfl ?_
  refine wm_y 7 rfl (by kernel_rfl) (y_fieldAddr (o := 0) (s := 1) (off := 0) (o' := 0) rfl Try.underlying74 rfl (by kernel_rfl) rfl rfl) rfl ?_
  refine wm_y 8 rfl (by kernel_rfl) (y_load1 rfl Try.underlying30 rfl (C3.get (i := 0) rfl)) rfl ?_
  refine wm_one 4 (by kernel_rfl) ?_; refine om_call rfl Try.func31 rfl rfl rfl (Rmul_any B1 B2 m1 d1 m2 d2 _ _ _ Y1 Y2) rfl ?_
  rintro e wb1 ⟨D1, k1, e1, rfl, H1, _, ex⟩
  refine ⟨_, rfl, .inr ex, ?_⟩
  replace E := E.ext ex
  replace X1 := X1.ext ex
  replace Y1 := Y1.ext ex
  replace X2 := X2.ext ex
  replace Y2 := Y2.ext ex
  replace C2 := C2.ext ex
  replace C3 := C3.ext ex
  replace C4 := C4.ext ex
  skip
  refine wm_one 9 (by kernel_rfl) ?_; refine om_call rfl Try.func31 rfl rfl rfl (Rmul_any A1 A2 n1 c1 n2 c2 _ _ _ X1 X2) rfl ?_
  rintro e wb2 ⟨D2, k2, e2, rfl, H2, _, ex⟩
  refine ⟨_, rfl, .inr ex, ?_⟩
  replace E := E.ext ex
  replace X1 := X1.ext ex
  replace Y1 := Y1.ext ex
  replace X2 := X2.ext ex
  replace Y2 := Y2.ext ex
  replace C2 := C2.ext ex
  replace C3 := C3.ext ex
  replace C4 := C4.ext ex
  replace H1 := H1.ext ex
  skip
  refine wm_y 10 rfl (by kernel_rfl) (y_assign rfl) rfl ?_
  refine wm_y 11 rfl (by kernel_rfl) (y_assign rfl) rfl ?_
  refine wm_done (by kernel_rfl) ?_
  refine wq_nop ?_
  refine wq_then_norm (hK2 ?_)
  refine wc_seq ?_; intro K3 hK3
  refine wc_draw (by kernel_rfl) 12 rfl ?_; intro wd2 ex hd2
  replace E := E.ext ex
  replace X1 := X1.ext ex
  replace Y1 := Y1.ext ex
  replace X2 := X2.ext ex
  replace Y2 := Y2.ext ex
  replace C2 := C2.ext ex
  replace C3 := C3.ext ex
  replace C4 := C4.ext ex
  replace H1 := H1.ext ex
  replace H2 := H2.ext ex
  refine wm_y 0 rfl (by kernel_rfl) (y_fieldAddr (o := 0) (s := 1) (off := 0) (o' := 0) rfl Try.underlying74 rfl (by kernel_rfl) rfl rfl) rfl ?_
  refine wm_y 1 rfl (by kernel_rfl) (y_load1 rfl Try.underlying30 rfl (C2.get (i := 0) rfl)) rfl ?_
  refine wm_y 2 rfl (by kernel_rfl) (y_fieldAddr (o := 1) (s := 1) (off := 0) (o' := 1) rfl Try.underlying74 rfl (by kernel_rfl) rfl rfl) rfl ?_
  refine wm_y 3 rfl (by kernel_rfl) (y_load1 rfl Try.underlying30 rfl (C3.get (i := 1) rfl)) rfl ?_
  refine wm_y 5 rfl (by kernel_rfl) (y_fieldAddr (o := 1) (s := 1) (off := 0) (o' := 1) rfl Try.underlying74 rfl (by kernel_rfl) rfl rfl) rfl ?_
  refine wm_y 6 rfl (by kernel_rfl) (y_load1 rfl Try.underlying30 rfl (C2.get (i := 1) rfl)) rfl ?_
  refine wm_y 7 rfl (by kernel_rfl) (y_fieldAddr (o := 0) (s := 1) (off := 0) (o' := 0) rfl Try.underlying74 rfl (by kernel_rfl) rfl rfl) rfl ?_
  refine wm_y 8 rfl (by kernel_rfl) (y_load1 rfl Try.underlying30 rfl (C3.get (i := 0) rfl)) rfl ?_
  refine wm_one 4 (by kernel_rfl) ?_; refine om_call rfl Try.func31 rfl rfl rfl (Rmul_any A1 B2 n1 c1 m2 d2 _ _ _ X1 Y2) rfl ?_
  rintro e wb3 ⟨D3, k3, e3, rfl, H3, _, ex⟩
  refine ⟨_, rfl, .inr ex, ?_⟩
  replace E := E.ext ex
  replace X1 := X1.ext ex
  replace Y1 := Y1.ext ex
  replace X2 := X2.ext ex
  replace Y2 := Y2.ext ex
  replace C2 := C2.ext ex
  replace C3 := C3.ext ex
  replace C4 := C4.ext ex
  replace H1 := H1.ext ex
  replace H2 := H2.ext ex
  skip
  refine wm_one 9 (by kernel_rfl) ?_; refine om_call rfl Try.func31 rfl rfl rfl (Rmul_any B1 A2 m1 d1 n2 c2 _ _ _ Y1 X2) rfl ?_
  rintro e wb4 ⟨D4, k4, e4, rfl, H4, _, ex⟩
  refine ⟨_, rfl, .inr ex, ?_⟩
  replace E := E.ext ex
  replace X1 := X1.ext ex
  replace Y1 := Y1.ext ex
  replace X2 := X2.ext ex
  replace Y2 := Y2.ext ex
  replace C2 := C2.ext ex
  replace C3 := C3.ext ex
  replace C4 := C4.ext ex
  replace H1 := H1.ext ex
  replace H2 := H2.ext ex
  replace H3 := H3.ext ex
  skip
  refine wm_y 10 rfl (by kernel_rfl) (y_assign rfl) rfl ?_
  refine wm_y 11 rfl (by kernel_rfl) (y_assign rfl) rfl ?_
  refine wm_done (by kernel_rfl) ?_
  refine wq_nop ?_
  refine wq_then_norm (hK3 ?_)
  refine wc_seq ?_; intro K4 hK4
  refine wc_region ?_
  refine wl_call Try.func128 rfl rfl rfl (rD_any _) rfl ?_
  rintro e wb5 ⟨D5, k5, e5, rfl, H5, ex⟩
  refine ⟨_, rfl, ?_⟩
  replace E := E.ext ex
  replace X1 := X1.ext ex
  replace Y1 := Y1.ext ex
  replace X2 := X2.ext ex
  replace Y2 := Y2.ext ex
  replace C2 := C2.ext ex
  replace C3 := C3.ext ex
  replace C4 := C4.ext ex
  replace H1 := H1.ext ex
  replace H2 := H2.ext ex
  replace H3 := H3.ext ex
  replace H4 := H4.ext ex
  skip
  refine wl_y (y_move rfl) rfl ?_
  refine wl_y (y_move rfl) rfl ?_
  refine wl_call Try.func31 rfl rfl rfl (Rmul_any D1 D2 k1 e1 k2 e2 _ _ _ H1 H2) rfl ?_
  rintro e wb6 ⟨D6, k6, e6, rfl, H6, _, ex⟩
  refine ⟨_, rfl, ?_⟩
  replace E := E.ext ex
  replace X1 := X1.ext ex
  replace Y1 := Y1.ext ex
  replace X2 := X2.ext ex
  replace Y2 := Y2.ext ex
  replace C2 := C2.ext ex
  replace C3 := C3.ext ex
  replace C4 := C4.ext ex
  replace H1 := H1.ext ex
  replace H2 := H2.ext ex
  replace H3 := H3.ext ex
  replace H4 := H4.ext ex
  replace H5 := H5.ext ex
  skip
  refine wl_call Try.func31 rfl rfl rfl (Rmul_any D5 D6 k5 e5 k6 e6 _ _ _ H5 H6) rfl ?_
  rintro e wb7 ⟨D7, k7, e7, rfl, H7, _, ex⟩
  refine ⟨_, rfl, ?_⟩
  replace E := E.ext ex
  replace X1 := X1.ext ex
  replace Y1 := Y1.ext ex
  replace X2 := X2.ext ex
  replace Y2 := Y2.ext ex
  replace C2 := C2.ext ex
  replace C3 := C3.ext ex
  replace C4 := C4.ext ex
  replace H1 := H1.ext ex
  replace H2 := H2.ext ex
  replace H3 := H3.ext ex
  replace H4 := H4.ext ex
  replace H5 := H5.ext ex
  replace H6 := H6.ext ex
  skip
  refine wl_y (y_assign rfl) rfl ?_
  refine wl_nil ?_
  refine wq_then_norm (hK4 ?_)
  refine wc_seq ?_; intro K5 hK5
  refine wc_region ?_
  refine wl_call Try.func24 rfl rfl rfl (Rnum_any 1 _ (by omega)) rfl ?_
  rintro e wb8 ⟨D8, k8, e8, rfl, H8, ex⟩
  refine ⟨_, rfl, ?_⟩
  replace E := E.ext ex
  replace X1 := X1.ext ex
  replace Y1 := Y1.ext ex
  replace X2 := X2.ext ex
  replace Y2 := Y2.ext ex
  replace C2 := C2.ext ex
  replace C3 := C3.ext ex
  replace C4 := C4.ext ex
  replace H1 := H1.ext ex
  replace H2 := H2.ext ex
  replace H3 := H3.ext ex
  replace H4 := H4.ext ex
  replace H5 := H5.ext ex
  replace H6 := H6.ext ex
  replace H7 := H7.ext ex
  skip
  refine wl_y (y_assign rfl) rfl ?_
  refine wl_nil ?_
  refine wq_then_norm (hK5 ?_)
  refine wc_seq ?_; intro K6 hK6
  refine wc_region ?_
  refine wl_y (y_move rfl) rfl ?_
  refine wl_y (y_move rfl) rfl ?_
  refine wl_call Try.func26 rfl rfl rfl (Radd_any D3 D4 k3 e3 k4 e4 _ _ _ H3 H4) rfl ?_
  rintro e wb9 ⟨D9, k9, e9, rfl, H9, _, ex⟩
  refine ⟨_, rfl, ?_⟩
  replace E := E.ext ex
  replace X1 := X1.ext ex
  replace Y1 := Y1.ext ex
  replace X2 := X2.ext ex
  replace Y2 := Y2.ext ex
  replace C2 := C2.ext ex
  replace C3 := C3.ext ex
  replace C4 := C4.ext ex
  replace H1 := H1.ext ex
  replace H2 := H2.ext ex
  replace H3 := H3.ext ex
  replace H4 := H4.ext ex
  replace H5 := H5.ext ex
  replace H6 := H6.ext ex
  replace H7 := H7.ext ex
  replace H8 := H8.ext ex
  skip
  refine wl_y (y_move rfl) rfl ?_
  refine wl_y (y_move rfl) rfl ?_
  refine wl_call Try.func26 rfl rfl rfl (Radd_any D8 D7 k8 e8 k7 e7 _ _ _ H8 H7) rfl ?_
  rintro e wc1 ⟨F1, l1, j1, rfl, G1, _, ex⟩
  refine ⟨_, rfl, ?_⟩
  replace E := E.ext ex
  replace X1 := X1.ext ex
  replace Y1 := Y1.ext ex
  replace X2 := X2.ext ex
  replace Y2 := Y2.ext ex
  replace C2 := C2.ext ex
  replace C3 := C3.ext ex
  replace C4 := C4.ext ex
  replace H1 := H1.ext ex
  replace H2 := H2.ext ex
  replace H3 := H3.ext ex
  replace H4 := H4.ext ex
  replace H5 := H5.ext ex
  replace H6 := H6.ext ex
  replace H7 := H7.ext ex
  replace H8 := H8.ext ex
  replace H9 := H9.ext ex
  skip
  refine wl_call Try.func46 rfl rfl rfl (Rinv_any F1 l1 j1 _ _ G1) rfl ?_
  rintro e wc2 ⟨F2, l2, j2, rfl, G2, _, ex⟩
  refine ⟨_, rfl, ?_⟩
  replace E := E.ext ex
  replace X1 := X1.ext ex
  replace Y1 := Y1.ext ex
  replace X2 := X2.ext ex
  replace Y2 := Y2.ext ex
  replace C2 := C2.ext ex
  replace C3 := C3.ext ex
  replace C4 := C4.ext ex
  replace H1 := H1.ext ex
  replace H2 := H2.ext ex
  replace H3 := H3.ext ex
  replace H4 := H4.ext ex
  replace H5 := H5.ext ex
  replace H6 := H6.ext ex
  replace H7 := H7.ext ex
  replace H8 := H8.ext ex
  replace H9 := H9.ext ex
  replace G1 := G1.ext ex
  skip
  refine wl_call Try.func31 rfl rfl rfl (Rmul_any D9 F2 k9 e9 l2 j2 _ _ _ H9 G2) rfl ?_
  rintro e wc3 ⟨F3, l3, j3, rfl, G3, _, ex⟩
  refine ⟨_, rfl, ?_⟩
  replace E := E.ext ex
  replace X1 := X1.ext ex
  replace Y1 := Y1.ext ex
  replace X2 := X2.ext ex
  replace Y2 := Y2.ext ex
  replace C2 := C2.ext ex
  replace C3 := C3.ext ex
  replace C4 := C4.ext ex
  replace H1 := H1.ext ex
  replace H2 := H2.ext ex
  replace H3 := H3.ext ex
  replace H4 := H4.ext ex
  replace H5 := H5.ext ex
  replace H6 := H6.ext ex
  replace H7 := H7.ext ex
  replace H8 := H8.ext ex
  replace H9 := H9.ext ex
  replace G1 := G1.ext ex
  replace G2 := G2.ext ex
  skip
  refine wl_y (y_move rfl) rfl ?_
  refine wl_y (y_move rfl) rfl ?_
  refine wl_call Try.func26 rfl rfl rfl (Radd_any D1 D2 k1 e1 k2 e2 _ _ _ H1 H2) rfl ?_
  rintro e wc4 ⟨F4, l4, j4, rfl, G4, _, ex⟩
  refine ⟨_, rfl, ?_⟩
  replace E := E.ext ex
  replace X1 := X1.ext ex
  replace Y1 := Y1.ext ex
  replace X2 := X2.ext ex
  replace Y2 := Y2.ext ex
  replace C2 := C2.ext ex
  replace C3 := C3.ext ex
  replace C4 := C4.ext ex
  replace H1 := H1.ext ex
  replace H2 := H2.ext ex
  replace H3 := H3.ext ex
  replace H4 := H4.ext ex
  replace H5 := H5.ext ex
  replace H6 := H6.ext ex
  replace H7 := H7.ext ex
  replace H8 := H8.ext ex
  replace H9 := H9.ext ex
  replace G1 := G1.ext ex
  replace G2 := G2.ext ex
  replace G3 := G3.ext ex
  skip
  refine wl_y (y_move rfl) rfl ?_
  refine wl_y (y_move rfl) rfl ?_
  refine wl_call Try.func28 rfl rfl rfl (Rsub_any D8 D7 k8 e8 k7 e7 _ _ _ H8 H7) rfl ?_
  rintro e wc5 ⟨F5, l5, j5, rfl, G5, _, ex⟩
  refine ⟨_, rfl, ?_⟩
  replace E := E.ext ex
  replace X1 := X1.ext ex
  replace Y1 := Y1.ext ex
  replace X2 := X2.ext ex
  replace Y2 := Y2.ext ex
  replace C2 := C2.ext ex
  replace C3 := C3.ext ex
  replace C4 := C4.ext ex
  replace H1 := H1.ext ex
  replace H2 := H2.ext ex
  replace H3 := H3.ext ex
  replace H4 := H4.ext ex
  replace H5 := H5.ext ex
  replace H6 := H6.ext ex
  replace H7 := H7.ext ex
  replace H8 := H8.ext ex
  replace H9 := H9.ext ex
  replace G1 := G1.ext ex
  replace G2 := G2.ext ex
  replace G3 := G3.ext ex
  replace G4 := G4.ext ex
  skip
  refine wl_call Try.func46 rfl rfl rfl (Rinv_any F5 l5 j5 _ _ G5) rfl ?_
  rintro e wc6 ⟨F6, l6, j6, rfl, G6, _, ex⟩
  refine ⟨_, rfl, ?_⟩
  replace E := E.ext ex
  replace X1 := X1.ext ex
  replace Y1 := Y1.ext ex
  replace X2 := X2.ext ex
  replace Y2 := Y2.ext ex
  replace C2 := C2.ext ex
  replace C3 := C3.ext ex
  replace C4 := C4.ext ex
  replace H1 := H1.ext ex
  replace H2 := H2.ext ex
  replace H3 := H3.ext ex
  replace H4 := H4.ext ex
  replace H5 := H5.ext ex
  replace H6 := H6.ext ex
  replace H7 := H7.ext ex
  replace H8 := H8.ext ex
  replace H9 := H9.ext ex
  replace G1 := G1.ext ex
  replace G2 := G2.ext ex
  replace G3 := G3.ext ex
  replace G4 := G4.ext ex
  replace G5 := G5.ext ex
  skip
  refine wl_call Try.func31 rfl rfl rfl (Rmul_any F4 F6 l4 j4 l6 j6 _ _ _ G4 G6) rfl ?_
  rintro e wc7 ⟨F7, l7, j7, rfl, G7, _, ex⟩
  refine ⟨_, rfl, ?_⟩
  replace E := E.ext ex
  replace X1 := X1.ext ex
  replace Y1 := Y1.ext ex
  replace X2 := X2.ext ex
  replace Y2 := Y2.ext ex
  replace C2 := C2.ext ex
  replace C3 := C3.ext ex
  replace C4 := C4.ext ex
  replace H1 := H1.ext ex
  replace H2 := H2.ext ex
  replace H3 := H3.ext ex
  replace H4 := H4.ext ex
  replace H5 := H5.ext ex
  replace H6 := H6.ext ex
  replace H7 := H7.ext ex
  replace H8 := H8.ext ex
  replace H9 := H9.ext ex
  replace G1 := G1.ext ex
  replace G2 := G2.ext ex
  replace G3 := G3.ext ex
  replace G4 := G4.ext ex
  replace G5 := G5.ext ex
  replace G6 := G6.ext ex
  skip
  refine wl_y (y_build rfl (cells := #[.slice F3 l3 j3, .slice F7 l7 j7]) (by kernel_rfl)) rfl ?_
  refine wl_ef (ef_storeW rfl rfl (by kernel_rfl) C4 rfl (by simp [Value.oneCell'])) rfl ?_
  rintro _ wc8 ⟨rfl, Z4, cg⟩
  replace E := E.chg cg hw4; have hr : RP wc8 #[.slice F3 l3 j3, .slice F7 l7 j7] (Ed.add P R) := ⟨F3, l3, j3, F7, l7, j7, rfl, (G3.congr (congrArg Prod.fst (add_way P R))).off cg C4, (G7.congr (congrArg Prod.snd (add_way P R))).off cg C4⟩
  refine wl_nil ?_
  refine wq_then_norm (hK6 ?_)
  refine wc_ret ?_
  refine hret rfl Z4 rfl ?_
  exact ⟨_, rfl, hr, E⟩
end
section
attribute [local irreducible] Y Ef WL WC WK WQ WM OpM WN WF OpN
theorem on_way2 {P : Fp.F × Fp.F} (h : Ed.On P) : P.2 * P.2 - P.1 * P.1 = Fp.of 1 + Ed.d * (P.1 * P.1 * (P.2 * P.2)) := by
  rw [on_way h]
  generalize Ed.d = D
  generalize Fp.of 1 = u
  grind
theorem ron_any (A B : Option Addr) (n c m d : Nat) (P : Fp.F × Fp.F) (w : World) (X : BG w A n P.1) (Y' : BG w B m P.2) (oP : Ed.On P) :
    Calls Try.prog 73 #[.agg #[.slice A n c, .slice B m d]] w fun e w' => e = .returned (.bool true) ∧ Ext w w' := by
  have E := Ext.refl w
  refine vc_enter1 26 Try.func73 rfl rfl rfl rfl ?_
  intro Q hret
  refine wc_seq ?_; intro K1 hK1
  refine wc_region ?_
  refine wl_ef (ef_box (cs := #[.slice A n c, .slice B m d]) rfl rfl) rfl ?_
  rintro _ wa1 ⟨g1, rfl, C1, hg1, ex⟩
  replace E := E.ext ex
  replace X := X.ext ex
  replace Y' := Y'.ext ex
  skip
  refine wl_y (y_assign rfl) rfl ?_
  refine wl_nil ?_
  refine wq_then_norm (hK1 ?_)
  refine wc_seq ?_; intro K2 hK2
  refine wc_draw (by kernel_rfl) 12 rfl ?_; intro wd1 ex hd1
  replace E := E.ext ex
  replace X := X.ext ex
  replace Y' := Y'.ext ex
  replace C1 := C1.ext ex
  refine wm_y 0 rfl (by kernel_rfl) (y_fieldAddr (o := 0) (s := 1) (off := 0) (o' := 0) rfl Try.underlying74 rfl (by kernel_rfl) rfl rfl) rfl ?_
  refine wm_y 1 rfl (by kernel_rfl) (y_load1 rfl Try.underlying30 rfl (C1.get (i := 0) rfl)) rfl ?_
  refine wm_y 2 rfl (by kernel_rfl) (y_fieldAddr (o := 0) (s := 1) (off := 0) (o' := 0) rfl Try.underlying74 rfl (by kernel_rfl) rfl rfl) rfl ?_
  refine wm_y 3 rfl (by kernel_rfl) (y_load1 rfl Try.underlying30 rfl (C1.get (i := 0) rfl)) rfl ?_
  refine wm_y 5 rfl (by kernel_rfl) (y_fieldAddr (o := 1) (s := 1) (off := 0) (o' := 1) rfl Try.underlying74 rfl (by kernel_rfl) rfl rfl) rfl ?_
  refine wm_y 6 rfl (by kernel_rfl) (y_load1 rfl Try.underlying30 rfl (C1.get (i := 1) rfl)) rfl ?_
  refine wm_y 7 rfl (by kernel_rfl) (y_fieldAddr (o := 1) (s := 1) (off := 0) (o' := 1) rfl Try.underlying74 rfl (by kernel_rfl) rfl rfl) rfl ?_
  refine wm_y 8 rfl (by kernel_rfl) (y_load1 rfl Try.underlying30 rfl (C1.get (i := 1) rfl)) rfl ?_
  refine wm_one 4 (by kernel_rfl) ?_; refine om_call rfl Try.func31 rfl rfl rfl (Rmul_any A A n c n c _ _ _ X X) rfl ?_
  rintro e wb1 ⟨D1, k1, e1, rfl, H1, _, ex⟩
  refine ⟨_, rfl, .inr ex, ?_⟩
  replace E := E.ext ex
  replace X := X.ext ex
  replace Y' := Y'.ext ex
  replace C1 := C1.ext ex
  skip
  refine wm_one 9 (by kernel_rfl) ?_; refine om_call rfl Try.func31 rfl rfl rfl (Rmul_any B B m d m d _ _ _ Y' Y') rfl ?_
  rintro e wb2 ⟨D2, k2, e2, rfl, H2, _, ex⟩
  refine ⟨_, rfl, .inr ex, ?_⟩
  replace E := E.ext ex
  replace X := X.ext ex
  replace Y' := Y'.ext ex
  replace C1 := C1.ext ex
  replace H1 := H1.ext ex
  skip
  refine wm_y 10 rfl (by kernel_rfl) (y_assign rfl) rfl ?_
  refine wm_y 11 rfl (by kernel_rfl) (y_assign rfl) rfl ?_
  refine wm_done (by kernel_rfl) ?_
  refine wq_nop ?_
  refine wq_then_norm (hK2 ?_)
  refine wc_seq ?_; intro K3 hK3
  refine wc_region ?_
  refine wl_y (y_move rfl) rfl ?_
  refine wl_y (y_move rfl) rfl ?_
  refine wl_call Try.func28 rfl rfl rfl (Rsub_any D2 D1 k2 e2 k1 e1 _ _ _ H2 H1) rfl ?_
  rintro e wb3 ⟨D3, k3, e3, rfl, H3, _, ex⟩
  refine ⟨_, rfl, ?_⟩
  replace E := E.ext ex
  replace X := X.ext ex
  replace Y' := Y'.ext ex
  replace C1 := C1.ext ex
  replace H1 := H1.ext ex
  replace H2 := H2.ext ex
  skip
  refine wl_call Try.func24 rfl rfl rfl (Rnum_any 1 _ (by omega)) rfl ?_
  rintro e wb4 ⟨D4, k4, e4, rfl, H4, ex⟩
  refine ⟨_, rfl, ?_⟩
  replace E := E.ext ex
  replace X := X.ext ex
  replace Y' := Y'.ext ex
  replace C1 := C1.ext ex
  replace H1 := H1.ext ex
  replace H2 := H2.ext ex
  replace H3 := H3.ext ex
  skip
  refine wl_call Try.func128 rfl rfl rfl (rD_any _) rfl ?_
  rintro e wb5 ⟨D5, k5, e5, rfl, H5, ex⟩
  refine ⟨_, rfl, ?_⟩
  replace E := E.ext ex
  replace X := X.ext ex
  replace Y' := Y'.ext ex
  replace C1 := C1.ext ex
  replace H1 := H1.ext ex
  replace H2 := H2.ext ex
  replace H3 := H3.ext ex
  replace H4 := H4.ext ex
  skip
  refine wl_y (y_move rfl) rfl ?_
  refine wl_y (y_move rfl) rfl ?_
  refine wl_call Try.func31 rfl rfl rfl (Rmul_any D1 D2 k1 e1 k2 e2 _ _ _ H1 H2) rfl ?_
  rintro e wb6 ⟨D6, k6, e6, rfl, H6, _, ex⟩
  refine ⟨_, rfl, ?_⟩
  replace E := E.ext ex
  replace X := X.ext ex
  replace Y' := Y'.ext ex
  replace C1 := C1.ext ex
  replace H1 := H1.ext ex
  replace H2 := H2.ext ex
  replace H3 := H3.ext ex
  replace H4 := H4.ext ex
  replace H5 := H5.ext ex
  skip
  refine wl_call Try.func31 rfl rfl rfl (Rmul_any D5 D6 k5 e5 k6 e6 _ _ _ H5 H6) rfl ?_
  rintro e wb7 ⟨D7, k7, e7, rfl, H7, _, ex⟩
  refine ⟨_, rfl, ?_⟩
  replace E := E.ext ex
  replace X := X.ext ex
  replace Y' := Y'.ext ex
  replace C1 := C1.ext ex
  replace H1 := H1.ext ex
  replace H2 := H2.ext ex
  replace H3 := H3.ext ex
  replace H4 := H4.ext ex
  replace H5 := H5.ext ex
  replace H6 := H6.ext ex
  skip
  refine wl_call Try.func26 rfl rfl rfl (Radd_any D4 D7 k4 e4 k7 e7 _ _ _ H4 H7) rfl ?_
  rintro e wb8 ⟨D8, k8, e8, rfl, H8, _, ex⟩
  refine ⟨_, rfl, ?_⟩
  replace E := E.ext ex
  replace X := X.ext ex
  replace Y' := Y'.ext ex
  replace C1 := C1.ext ex
  replace H1 := H1.ext ex
  replace H2 := H2.ext ex
  replace H3 := H3.ext ex
  replace H4 := H4.ext ex
  replace H5 := H5.ext ex
  replace H6 := H6.ext ex
  replace H7 := H7.ext ex
  skip
  refine wl_call Try.func34 rfl rfl rfl (Rsame_any D3 D8 k3 e3 k8 e8 _ _ _ H3 H8) rfl ?_
  rintro e wb9 ⟨rfl, ex⟩
  refine ⟨_, rfl, ?_⟩
  replace E := E.ext ex
  replace X := X.ext ex
  replace Y' := Y'.ext ex
  replace C1 := C1.ext ex
  replace H1 := H1.ext ex
  replace H2 := H2.ext ex
  replace H3 := H3.ext ex
  replace H4 := H4.ext ex
  replace H5 := H5.ext ex
  replace H6 := H6.ext ex
  replace H7 := H7.ext ex
  replace H8 := H8.ext ex
  rw [decide_eq_true (on_way2 oP)]
  refine wl_y (y_assign rfl) rfl ?_
  refine wl_nil ?_
  refine wq_then_norm (hK3 ?_)
  refine wc_ret ?_
  refine hret rfl ?_
  exact ⟨rfl, E⟩
theorem rpbytes_any (A B : Option Addr) (n c m d : Nat) (P : Fp.F × Fp.F) (w : World) (X : BG w A n P.1) (Y' : BG w B m P.2) :
    Calls Try.prog 74 #[.agg #[.slice A n c, .slice B m d]] w fun e w' => ∃ A' c', e = .returned (.slice A' 32 c') ∧ Bs w' A' 32 (Ed.enc P) ∧ Ext w w' := by
  have E := Ext.refl w
  have hpt := Ed.p_top
  have hy := P.2.isLt
  obtain ⟨x, hx⟩ : ∃ x, x = ((Fp.le 32 P.2.val).getD 31 0).toNat := ⟨_, rfl⟩
  have hx8 : x < 128 := hx ▸ (Ed.last_lt (x := P.2.val) (by omega)).1
  refine vc_enter1 17 Try.func74 rfl rfl rfl rfl ?_
  intro Q hret
  refine wc_seq ?_; intro K1 hK1
  refine wc_region ?_
  refine wl_ef (ef_box (cs := #[.slice A n c, .slice B m d]) rfl rfl) rfl ?_
  rintro _ wa1 ⟨g1, rfl, C1, hg1, ex⟩
  replace E := E.ext ex
  replace X := X.ext ex
  replace Y' := Y'.ext ex
  skip
  refine wl_y (y_assign rfl) rfl ?_
  refine wl_nil ?_
  refine wq_then_norm (hK1 ?_)
  refine wc_seq ?_; intro K2 hK2
  refine wc_region ?_
  refine wl_y (y_fieldAddr (o := 1) (s := 1) (off := 0) (o' := 1) rfl Try.underlying74 rfl (by kernel_rfl) rfl rfl) rfl ?_
  refine wl_y (y_load1 rfl Try.underlying30 rfl (C1.get (i := 1) rfl)) rfl ?_
  have hz1 := E.size
  refine wl_call Try.func50 rfl rfl rfl (rbytesR_any B m d 32 _ _ Y' (by have := Y'.le; omega) (by omega)) rfl ?_
  rintro e wb1 ⟨A3, c3, rfl, R3, ex⟩
  refine ⟨_, rfl, ?_⟩
  replace E := E.ext ex
  replace X := X.ext ex
  replace Y' := Y'.ext ex
  replace C1 := C1.ext ex
  skip
  refine wl_y (y_assign rfl) rfl ?_
  refine wl_nil ?_
  refine wq_then_norm (hK2 ?_)
  refine wc_seq ?_; intro K3 hK3
  refine wc_seq ?_; intro K4 hK4
  refine wc_region ?_
  refine wl_y (y_fieldAddr (o := 0) (s := 1) (off := 0) (o' := 0) rfl Try.underlying74 rfl (by kernel_rfl) rfl rfl) rfl ?_
  refine wl_y (y_load1 rfl Try.underlying30 rfl (C1.get (i := 0) rfl)) rfl ?_
  refine wl_call Try.func131 rfl rfl rfl (rodd_any A n c P.1 _ X) rfl ?_
  rintro e wb2 ⟨rfl, ex⟩
  refine ⟨_, rfl, ?_⟩
  replace E := E.ext ex
  replace X := X.ext ex
  replace Y' := Y'.ext ex
  replace C1 := C1.ext ex
  replace R3 := R3.ext ex
  skip
  refine wl_nil ?_
  refine wq_then_norm (hK4 ?_)
  refine wc_dec rfl (fun hc1 => ?_) (fun hc1 => ?_)
  · skip
    refine wc_region ?_
    obtain ⟨g3, rfl, hcy, hg3, hl3⟩ := R3.byte (i := 31) (by omega)
    rw [← hx] at hcy
    refine wl_y (y_move rfl) rfl ?_
    refine wl_y (y_move rfl) rfl ?_
    refine wl_y (y_ixs1 rfl rfl Try.underlying22 (by kernel_rfl) (j := 31) rfl (by omega)) rfl ?_
    refine wl_y (y_load1 rfl Try.underlying5 rfl hcy) rfl ?_
    refine wl_y (y_add rfl rfl (show IntKind.u8.wrap (((x : Nat) : Int) + 128) = ((x + 128 : Nat) : Int) by rw [IntKind.wrap_u8']; omega)) rfl ?_
    refine wl_y (y_ixs1 rfl rfl Try.underlying22 (by kernel_rfl) (j := 31) rfl (by omega)) rfl ?_
    rw [← u8_val (n := x + 128) (by omega)]
    refine wl_ef (ef_storeR rfl rfl rfl (by kernel_rfl) R3 (by omega)) rfl ?_
    rintro _ wb3 ⟨rfl, R4, cg⟩
    replace E := E.chg cg (by omega); replace R4 := R4.congr rfl (show _ = (Ed.enc P).map bv by rw [← Ed.enc_odd hc1 hx, List.map_set]; rfl)
    refine wl_nil ?_
    refine wq_then_norm (hK3 ?_)
    refine wc_seq ?_; intro K5 hK5
    refine wc_region ?_
    refine wl_y (y_move rfl) rfl ?_
    refine wl_y (y_assign rfl) rfl ?_
    refine wl_nil ?_
    refine wq_then_norm (hK5 ?_)
    refine wc_ret ?_
    refine hret rfl ?_
    exact ⟨_, c3, rfl, R4.bs, E⟩
  · skip
    refine wc_skip ?_
    refine wq_then_norm (hK3 ?_)
    refine wc_seq ?_; intro K6 hK6
    refine wc_region ?_
    refine wl_y (y_move rfl) rfl ?_
    refine wl_y (y_assign rfl) rfl ?_
    refine wl_nil ?_
    refine wq_then_norm (hK6 ?_)
    refine wc_ret ?_
    refine hret rfl ?_
    exact ⟨A3, c3, rfl, by rw [← Ed.enc_even hc1]; exact R3.bs, E⟩
theorem dec_get {xs : List UInt8} {P : Fp.F × Fp.F} (h : Ed.dec xs = some P) : xs.length = 32 ∧ Fp.num xs % Ed.top < Fp.p ∧ P.2 = Fp.of (Fp.num xs % Ed.top) ∧ P.1 = if Ed.top ≤ Fp.num xs then - Fp.root (Ed.sq P.2) else Fp.root (Ed.sq P.2) := by
  have hl : xs.length = 32 := Classical.byContradiction fun hc => by rw [Ed.dec_len hc] at h; cases h
  have hp : Fp.num xs % Ed.top < Fp.p := Classical.byContradiction fun hc => by rw [Ed.dec_big hc] at h; cases h
  have hs : Fp.Sqr (Ed.sq (Fp.of (Fp.num xs % Ed.top))) := Classical.byContradiction fun hc => by rw [Ed.dec_root (.inl hc)] at h; cases h
  have h0 : Fp.root (Ed.sq (Fp.of (Fp.num xs % Ed.top))) = 0 → ¬ Ed.top ≤ Fp.num xs := fun h1 h2 => by rw [Ed.dec_root (.inr ⟨h1, h2⟩)] at h; cases h
  rw [Ed.dec_some hl hp hs h0] at h
  injection h with h
  subst h
  exact ⟨hl, hp, rfl, rfl⟩
theorem neg2 (x : Fp.F) : - -x = x := by grind
theorem whole_x {s X : Fp.F} (hX : X = if Fp.guess s * Fp.guess s = s then Fp.guess s else Fp.guess s * Fp.im) : Fp.root s = if X.val % 2 = 1 then -X else X := by rw [hX]; rfl
theorem not_of {p : Prop} [Decidable p] (h : (!decide p) = true) : ¬ p := by simpa using h
theorem of_not {p : Prop} [Decidable p] (h : (!decide p) = false) : p := by simpa using h
theorem turn_t {r X : Fp.F} {N : Nat} {z : Int} (hr : r = if X.val % 2 = 1 then -X else X) (hge : 128 ≤ z ↔ Ed.top ≤ N) (h : (!(decide (X.val % 2 = 1) == decide (128 ≤ z))) = true) : -X = if Ed.top ≤ N then -r else r := by
  rw [hr]
  by_cases ho : X.val % 2 = 1 <;> by_cases ht : Ed.top ≤ N
  · rw [decide_eq_true ho, decide_eq_true (hge.2 ht)] at h; cases h
  · rw [if_neg ht, if_pos ho]
  · rw [if_pos ht, if_neg ho]
  · rw [decide_eq_false ho, decide_eq_false (fun e => ht (hge.1 e))] at h; cases h
theorem turn_f {r X : Fp.F} {N : Nat} {z : Int} (hr : r = if X.val % 2 = 1 then -X else X) (hge : 128 ≤ z ↔ Ed.top ≤ N) (h : (!(decide (X.val % 2 = 1) == decide (128 ≤ z))) = false) : X = if Ed.top ≤ N then -r else r := by
  rw [hr]
  by_cases ho : X.val % 2 = 1 <;> by_cases ht : Ed.top ≤ N
  · rw [if_pos ht, if_pos ho, neg2]
  · rw [decide_eq_true ho, decide_eq_false (fun e => ht (hge.1 e))] at h; cases h
  · rw [decide_eq_false ho, decide_eq_true (hge.2 ht)] at h; cases h
  · rw [if_neg ht, if_neg ho]
theorem whole_any (A : Option Addr) (n c : Nat) (xs : List UInt8) (P : Fp.F × Fp.F) (w : World) (HA : Bs w A n xs) (hP : Ed.dec xs = some P) :
    Calls Try.prog 72 #[.slice A n c] w fun e w' => ∃ A1 n1 c1 A2 n2 c2, e = .returned (.agg #[.slice A1 n1 c1, .slice A2 n2 c2]) ∧ BG w' A1 n1 P.1 ∧ BG w' A2 n2 P.2 ∧ Ext w w' := by
  obtain ⟨h32, hp, h2, h1⟩ := dec_get hP
  have hn32 : n = 32 := by have := HA.1; omega
  subst hn32
  have E := Ext.refl w
  have hpl := p_len
  have he8 : Fp.num (Fp.le 32 ((Fp.p + 3) / 8)) = Fp.e8 := by decide +kernel
  have hq4 : Fp.num (Fp.le 32 (Fp.p / 4)) = Fp.quart := by decide +kernel
  obtain ⟨x, hx⟩ : ∃ x, x = (xs.getD 31 0).toNat := ⟨_, rfl⟩
  have hx8 : x < 256 := hx ▸ (xs.getD 31 0).toNat_lt
  obtain ⟨X, hX⟩ : ∃ X, X = if Fp.guess (Ed.sq P.2) * Fp.guess (Ed.sq P.2) = Ed.sq P.2 then Fp.guess (Ed.sq P.2) else Fp.guess (Ed.sq P.2) * Fp.im := ⟨_, rfl⟩
  have hr := whole_x hX
  obtain ⟨b0, off0, rfl, hb0, _⟩ := HA.get (k := 0) (by omega)
  have hodd := Ed.odd_iff h32
  have hlow := Ed.num_low h32
  rw [← hx] at hodd hlow
  have hge : (128 : Int) ≤ (x : Int) ↔ Ed.top ≤ Fp.num xs := by omega
  refine vc_enterc1 (s := 2) 66 Try.func72 rfl rfl rfl Try.underlying74 rfl (by kernel_rfl) rfl ?_
  intro Q hret
  refine wc_seq ?_; intro K1 hK1
  refine wc_region ?_
  refine wl_ef (ef_alloc (Z := #[.slice none 0 0, .slice none 0 0]) (by kernel_rfl)) rfl ?_
  rintro _ w1 ⟨g2, rfl, B2, hg2, ex⟩
  replace E := E.ext ex
  have hz8 := E.size; have hl2 := B2.lt
  refine wl_nil ?_
  refine wq_then_norm (hK1 ?_)
  refine wc_seq ?_; intro K2 hK2
  refine wc_region ?_
  refine wl_ef (ef_lit (z := .int .u8 0) Try.underlying22 (by kernel_rfl) rfl rfl rfl rfl rfl) rfl ?_
  rintro _ w7 ⟨g7, rfl, B7, hg7, ex⟩
  replace E := E.ext ex
  replace B2 := B2.ext ex; have R7 : Row w7 w1.heap.size 5 (some ⟨g7, 0, none⟩) 0 0 [] := Row.new B7 hg7 rfl (by unfold maxLen; omega)
  refine wl_y (y_move rfl) rfl ?_
  refine wl_ef (ef_app0 rfl rfl eltB R7 (HA.ext E).2 (by rw [List.length_map, HA.1]) (by intro u hu; exact bv_one u hu) (by omega) (by omega) ex.size) rfl ?_
  rintro _ w8 ⟨A8, c8, rfl, R8, be, gr, hl8'⟩
  replace E := E.trans (be.mono hz8); replace B2 := B2.below be hl2; have hs8 := be.size
  refine wl_y (y_assign rfl) rfl ?_
  refine wl_nil ?_
  refine wq_then_norm (hK2 ?_)
  refine wc_seq ?_; intro K3 hK3
  refine wc_region ?_
  obtain ⟨g8, rfl, hcy, hg8, hl88⟩ := R8.byte (i := 31) (by omega)
  rw [← hx] at hcy
  refine wl_y (y_move rfl) rfl ?_
  refine wl_y (y_move rfl) rfl ?_
  refine wl_y (y_ixs1 rfl rfl Try.underlying22 (by kernel_rfl) (j := 31) rfl (by omega)) rfl ?_
  refine wl_y (y_load1 rfl Try.underlying5 rfl hcy) rfl ?_
  refine wl_y (y_rem rfl rfl (by omega) (show ((x : Nat) : Int).tmod 128 = ((x % 128 : Nat) : Int) from rfl)) rfl ?_
  refine wl_y (y_ixs1 rfl rfl Try.underlying22 (by kernel_rfl) (j := 31) rfl (by omega)) rfl ?_
  rw [← u8_val (n := x % 128) (by omega)]
  refine wl_ef (ef_storeR rfl rfl rfl (by kernel_rfl) R8 (by omega)) rfl ?_
  rintro _ w9 ⟨rfl, R9, cg⟩
  replace E := E.chg cg (by omega); replace B2 := B2.chg cg (by omega); replace R9 := R9.congr rfl (show _ = (xs.set 31 (UInt8.ofNat (x % 128))).map bv by rw [List.map_set]; rfl); have H9 := R9.bs
  refine wl_nil ?_
  refine wq_then_norm (hK3 ?_)
  refine wc_seq ?_; intro K4 hK4
  refine wc_region ?_
  refine wl_y (y_move rfl) rfl ?_
  refine wl_call Try.func67 rfl rfl rfl (rof_any _ 32 c8 _ _ H9 (by omega)) rfl ?_
  rintro e w10 ⟨A10, n10, c10, rfl, H10, _, hn10, ex⟩
  refine ⟨_, rfl, ?_⟩
  replace E := E.ext ex
  replace B2 := B2.ext ex
  rw [hlow] at H10; replace H10 := BG.congr (BG.of H10 hp) h2.symm
  refine wl_y (y_assign rfl) rfl ?_
  refine wl_nil ?_
  refine wq_then_norm (hK4 ?_)
  refine wc_seq ?_; intro K5 hK5
  refine wc_region ?_
  refine wl_y (y_move rfl) rfl ?_
  refine wl_call Try.func68 rfl rfl rfl (rsquare_any A10 n10 c10 _ _ H10) rfl ?_
  rintro e w11 ⟨A11, n11, c11, rfl, H11, ex⟩
  refine ⟨_, rfl, ?_⟩
  replace E := E.ext ex
  replace B2 := B2.ext ex
  replace H10 := H10.ext ex
  skip
  refine wl_y (y_assign rfl) rfl ?_
  refine wl_nil ?_
  refine wq_then_norm (hK5 ?_)
  refine wc_seq ?_; intro K6 hK6
  refine wc_region ?_
  refine wl_call Try.func49 rfl rfl rfl (refP_any _) rfl ?_
  rintro e w14 ⟨A14, n14, c14, rfl, H14, _, ex⟩
  refine ⟨_, rfl, ?_⟩
  replace E := E.ext ex
  replace B2 := B2.ext ex
  replace H10 := H10.ext ex
  replace H11 := H11.ext ex
  have hl14 := H14.len
  refine wl_call Try.func24 rfl rfl rfl (num_any 3 _ (by omega)) rfl ?_
  rintro e w15 ⟨A15, n15, c15, rfl, H15, _, ex⟩
  refine ⟨_, rfl, ?_⟩
  replace E := E.ext ex
  replace B2 := B2.ext ex
  replace H10 := H10.ext ex
  replace H11 := H11.ext ex
  replace H14 := H14.ext ex
  have hl15 := H15.len; have h15 := Big.digs_length_le 3 1 (by omega)
  refine wl_call Try.func41 rfl rfl rfl (add_any A14 A15 n14 c14 n15 c15 Fp.p 3 _ H14 H15 (by omega) (by omega)) rfl ?_
  rintro e w16 ⟨A16, n16, c16, rfl, H16, hn16, _, ex⟩
  refine ⟨_, rfl, ?_⟩
  replace E := E.ext ex
  replace B2 := B2.ext ex
  replace H10 := H10.ext ex
  replace H11 := H11.ext ex
  replace H14 := H14.ext ex
  skip
  refine wl_call Try.func24 rfl rfl rfl (num_any 8 _ (by omega)) rfl ?_
  rintro e w17 ⟨A17, n17, c17, rfl, H17, _, ex⟩
  refine ⟨_, rfl, ?_⟩
  replace E := E.ext ex
  replace B2 := B2.ext ex
  replace H10 := H10.ext ex
  replace H11 := H11.ext ex
  replace H14 := H14.ext ex
  replace H16 := H16.ext ex
  have hl17 := H17.len; have h17 := Big.digs_length_le 8 1 (by omega)
  refine wl_call Try.func48 rfl rfl rfl (div_any A16 A17 n16 c16 n17 c17 _ 8 _ H16 H17 (by omega) (by omega) (by omega)) rfl ?_
  rintro e w18 ⟨A18, n18, c18, A19, n19, c19, rfl, H18, _, _, _, _, ex⟩
  refine ⟨_, rfl, ?_⟩
  replace E := E.ext ex
  replace B2 := B2.ext ex
  replace H10 := H10.ext ex
  replace H11 := H11.ext ex
  replace H14 := H14.ext ex
  replace H16 := H16.ext ex
  have hl18 := H18.len; have h18 := Big.length_le (Nat.div_le_self (Fp.p + 3) 8); have hl16 := H16.len
  refine wl_y (y_move rfl) rfl ?_
  refine wl_y (y_extract rfl rfl) rfl ?_
  refine wl_y (y_extract rfl rfl) rfl ?_
  refine wl_y (y_assign rfl) rfl ?_
  refine wl_y (y_assign rfl) rfl ?_
  refine wl_nil ?_
  refine wq_then_norm (hK6 ?_)
  refine wc_seq ?_; intro K7 hK7
  refine wc_region ?_
  refine wl_call Try.func49 rfl rfl rfl (refP_any _) rfl ?_
  rintro e w20 ⟨A20, n20, c20, rfl, H20, _, ex⟩
  refine ⟨_, rfl, ?_⟩
  replace E := E.ext ex
  replace B2 := B2.ext ex
  replace H10 := H10.ext ex
  replace H11 := H11.ext ex
  replace H14 := H14.ext ex
  replace H16 := H16.ext ex
  replace H18 := H18.ext ex
  have hl20 := H20.len
  refine wl_call Try.func24 rfl rfl rfl (num_any 4 _ (by omega)) rfl ?_
  rintro e w21 ⟨A21, n21, c21, rfl, H21, _, ex⟩
  refine ⟨_, rfl, ?_⟩
  replace E := E.ext ex
  replace B2 := B2.ext ex
  replace H10 := H10.ext ex
  replace H11 := H11.ext ex
  replace H14 := H14.ext ex
  replace H16 := H16.ext ex
  replace H18 := H18.ext ex
  replace H20 := H20.ext ex
  have hl21 := H21.len; have h21 := Big.digs_length_le 4 1 (by omega)
  refine wl_call Try.func48 rfl rfl rfl (div_any A20 A21 n20 c20 n21 c21 Fp.p 4 _ H20 H21 (by omega) (by omega) (by omega)) rfl ?_
  rintro e w22 ⟨A22, n22, c22, A23, n23, c23, rfl, H22, _, _, _, _, ex⟩
  refine ⟨_, rfl, ?_⟩
  replace E := E.ext ex
  replace B2 := B2.ext ex
  replace H10 := H10.ext ex
  replace H11 := H11.ext ex
  replace H14 := H14.ext ex
  replace H16 := H16.ext ex
  replace H18 := H18.ext ex
  replace H20 := H20.ext ex
  have hl22 := H22.len; have h22 := Big.length_le (Nat.div_le_self Fp.p 4)
  refine wl_y (y_move rfl) rfl ?_
  refine wl_y (y_extract rfl rfl) rfl ?_
  refine wl_y (y_extract rfl rfl) rfl ?_
  refine wl_y (y_assign rfl) rfl ?_
  refine wl_y (y_assign rfl) rfl ?_
  refine wl_nil ?_
  refine wq_then_norm (hK7 ?_)
  refine wc_seq ?_; intro K8 hK8
  refine wc_region ?_
  refine wl_y (y_move rfl) rfl ?_
  refine wl_y (y_move rfl) rfl ?_
  refine wl_call Try.func50 rfl rfl rfl (rbytes_any A18 n18 c18 32 _ _ H18 (by omega) (by omega)) rfl ?_
  rintro e w24 ⟨A24, c24, rfl, H24, ex⟩
  refine ⟨_, rfl, ?_⟩
  replace E := E.ext ex
  replace B2 := B2.ext ex
  replace H10 := H10.ext ex
  replace H11 := H11.ext ex
  replace H14 := H14.ext ex
  replace H16 := H16.ext ex
  replace H18 := H18.ext ex
  replace H20 := H20.ext ex
  replace H22 := H22.ext ex
  skip
  refine wl_call Try.func44 rfl rfl rfl (Rpow_any A11 A24 n11 c11 32 c24 _ _ _ H11 H24 (by omega)) rfl ?_
  rintro e w25 ⟨A25, n25, c25, rfl, H25, _, ex⟩
  refine ⟨_, rfl, ?_⟩
  replace E := E.ext ex
  replace B2 := B2.ext ex
  replace H10 := H10.ext ex
  replace H11 := H11.ext ex
  replace H14 := H14.ext ex
  replace H16 := H16.ext ex
  replace H18 := H18.ext ex
  replace H20 := H20.ext ex
  replace H22 := H22.ext ex
  rw [he8] at H25; have HX := BG.congr (b := Fp.guess (Ed.sq P.2)) H25 rfl
  refine wl_y (y_assign rfl) rfl ?_
  refine wl_nil ?_
  refine wq_then_norm (hK8 ?_)
  refine wc_seq ?_; intro K9 hK9
  refine wc_seq ?_; intro K10 hK10
  refine wc_region ?_
  refine wl_y (y_move rfl) rfl ?_
  refine wl_y (y_move rfl) rfl ?_
  refine wl_call Try.func31 rfl rfl rfl (Rmul_any A25 A25 n25 c25 n25 c25 _ _ _ HX HX) rfl ?_
  rintro e w26 ⟨A26, n26, c26, rfl, H26, _, ex⟩
  refine ⟨_, rfl, ?_⟩
  replace E := E.ext ex
  replace B2 := B2.ext ex
  replace H10 := H10.ext ex
  replace H11 := H11.ext ex
  replace H14 := H14.ext ex
  replace H16 := H16.ext ex
  replace H18 := H18.ext ex
  replace H20 := H20.ext ex
  replace H22 := H22.ext ex
  replace HX := HX.ext ex
  skip
  refine wl_y (y_move rfl) rfl ?_
  refine wl_call Try.func34 rfl rfl rfl (Rsame_any A26 A11 n26 c26 n11 c11 _ _ _ H26 H11) rfl ?_
  rintro e w27 ⟨rfl, ex⟩
  refine ⟨_, rfl, ?_⟩
  replace E := E.ext ex
  replace B2 := B2.ext ex
  replace H10 := H10.ext ex
  replace H11 := H11.ext ex
  replace H14 := H14.ext ex
  replace H16 := H16.ext ex
  replace H18 := H18.ext ex
  replace H20 := H20.ext ex
  replace H22 := H22.ext ex
  replace HX := HX.ext ex
  skip
  refine wl_y (y_not rfl) rfl ?_
  refine wl_nil ?_
  refine wq_then_norm (hK10 ?_)
  refine wc_cond rfl (fun hc1 => ?_) (fun hc1 => ?_)
  · skip
    refine wc_region ?_
    refine wl_y (y_move rfl) rfl ?_
    refine wl_call Try.func24 rfl rfl rfl (Rnum_any 2 _ (by omega)) rfl ?_
    rintro e w28 ⟨A28, n28, c28, rfl, H28, ex⟩
    refine ⟨_, rfl, ?_⟩
    replace E := E.ext ex
    replace B2 := B2.ext ex
    replace H10 := H10.ext ex
    replace H11 := H11.ext ex
    replace H14 := H14.ext ex
    replace H16 := H16.ext ex
    replace H18 := H18.ext ex
    replace H20 := H20.ext ex
    replace H22 := H22.ext ex
    replace HX := HX.ext ex
    skip
    refine wl_y (y_move rfl) rfl ?_
    refine wl_call Try.func50 rfl rfl rfl (rbytes_any A22 n22 c22 32 _ _ H22 (by omega) (by omega)) rfl ?_
    rintro e w29 ⟨A29, c29, rfl, H29, ex⟩
    refine ⟨_, rfl, ?_⟩
    replace E := E.ext ex
    replace B2 := B2.ext ex
    replace H10 := H10.ext ex
    replace H11 := H11.ext ex
    replace H14 := H14.ext ex
    replace H16 := H16.ext ex
    replace H18 := H18.ext ex
    replace H20 := H20.ext ex
    replace H22 := H22.ext ex
    replace HX := HX.ext ex
    replace H28 := H28.ext ex
    skip
    refine wl_call Try.func44 rfl rfl rfl (Rpow_any A28 A29 n28 c28 32 c29 _ _ _ H28 H29 (by omega)) rfl ?_
    rintro e w30 ⟨A30, n30, c30, rfl, H30, _, ex⟩
    refine ⟨_, rfl, ?_⟩
    replace E := E.ext ex
    replace B2 := B2.ext ex
    replace H10 := H10.ext ex
    replace H11 := H11.ext ex
    replace H14 := H14.ext ex
    replace H16 := H16.ext ex
    replace H18 := H18.ext ex
    replace H20 := H20.ext ex
    replace H22 := H22.ext ex
    replace HX := HX.ext ex
    replace H28 := H28.ext ex
    rw [hq4, Fp.im_pow] at H30
    refine wl_call Try.func31 rfl rfl rfl (Rmul_any A25 A30 n25 c25 n30 c30 _ _ _ HX H30) rfl ?_
    rintro e w31 ⟨A31, n31, c31, rfl, H31, _, ex⟩
    refine ⟨_, rfl, ?_⟩
    replace E := E.ext ex
    replace B2 := B2.ext ex
    replace H10 := H10.ext ex
    replace H11 := H11.ext ex
    replace H14 := H14.ext ex
    replace H16 := H16.ext ex
    replace H18 := H18.ext ex
    replace H20 := H20.ext ex
    replace H22 := H22.ext ex
    replace HX := HX.ext ex
    replace H28 := H28.ext ex
    replace HX := BG.congr H31 (show _ = X by rw [hX, if_neg (not_of hc1)])
    refine wl_y (y_assign rfl) rfl ?_
    refine wl_nil ?_
    refine wq_then_norm (hK9 ?_)
    refine wc_seq ?_; intro K11 hK11
    refine wc_seq ?_; intro K12 hK12
    refine wc_draw (by kernel_rfl) 7 rfl ?_; intro wd10 ex hd10
    replace E := E.ext ex
    replace B2 := B2.ext ex
    replace H10 := H10.ext ex
    replace H11 := H11.ext ex
    replace H14 := H14.ext ex
    replace H16 := H16.ext ex
    replace H18 := H18.ext ex
    replace H20 := H20.ext ex
    replace H22 := H22.ext ex
    replace HX := HX.ext ex
    replace H28 := H28.ext ex
    refine wm_y 0 rfl (by kernel_rfl) (y_move rfl) rfl ?_
    obtain ⟨x', hx', hcx⟩ := (HA.ext E).byteAt (k := 31) (by omega)
    rw [hx'.out, ← hx] at hcx
    refine wm_y 2 rfl (by kernel_rfl) (y_move rfl) rfl ?_
    refine wm_y 3 rfl (by kernel_rfl) (y_ixs1 rfl rfl Try.underlying22 (by kernel_rfl) (j := 31) rfl (by omega)) rfl ?_
    refine wm_y 4 rfl (by kernel_rfl) (y_load1 rfl Try.underlying5 rfl hcx) rfl ?_
    refine wm_y 5 rfl (by kernel_rfl) (y_geq rfl rfl) rfl ?_
    refine wm_one 1 (by kernel_rfl) ?_; refine om_call rfl Try.func131 rfl rfl rfl (rodd_any A31 n31 c31 X _ HX) rfl ?_
    rintro e w32 ⟨rfl, ex⟩
    refine ⟨_, rfl, .inr ex, ?_⟩
    replace E := E.ext ex
    replace B2 := B2.ext ex
    replace H10 := H10.ext ex
    replace H11 := H11.ext ex
    replace H14 := H14.ext ex
    replace H16 := H16.ext ex
    replace H18 := H18.ext ex
    replace H20 := H20.ext ex
    replace H22 := H22.ext ex
    replace HX := HX.ext ex
    replace H28 := H28.ext ex
    skip
    refine wm_y 6 rfl (by kernel_rfl) (y_neqb rfl rfl Try.underlying4) rfl ?_
    refine wm_done (by kernel_rfl) ?_
    refine wq_nop ?_
    refine wq_then_norm (hK12 ?_)
    refine wc_cond rfl (fun hc2 => ?_) (fun hc2 => ?_)
    · skip
      refine wc_region ?_
      refine wl_y (y_move rfl) rfl ?_
      refine wl_call Try.func28 rfl rfl rfl (Rsub_any none A31 0 0 n31 c31 0 X _ (BG.nil _ _) HX) rfl ?_
      rintro e w33 ⟨A33, n33, c33, rfl, H33, _, ex⟩
      refine ⟨_, rfl, ?_⟩
      replace E := E.ext ex
      replace B2 := B2.ext ex
      replace H10 := H10.ext ex
      replace H11 := H11.ext ex
      replace H14 := H14.ext ex
      replace H16 := H16.ext ex
      replace H18 := H18.ext ex
      replace H20 := H20.ext ex
      replace H22 := H22.ext ex
      replace HX := HX.ext ex
      replace H28 := H28.ext ex
      rw [neg_of] at H33; have HZ := H33.congr (show _ = P.1 by rw [h1]; exact turn_t hr hge hc2)
      refine wl_y (y_assign rfl) rfl ?_
      refine wl_nil ?_
      refine wq_then_norm (hK11 ?_)
      refine wc_seq ?_; intro K13 hK13
      refine wc_region ?_
      refine wl_y (y_move rfl) rfl ?_
      refine wl_y (y_move rfl) rfl ?_
      refine wl_y (y_build rfl (cells := #[.slice A33 n33 c33, .slice A10 n10 c10]) (by kernel_rfl)) rfl ?_
      refine wl_ef (ef_storeW rfl rfl (by kernel_rfl) B2 rfl (by simp [Value.oneCell'])) rfl ?_
      rintro _ w34 ⟨rfl, D2, cg⟩
      replace E := E.chg cg (by omega)
      refine wl_nil ?_
      refine wq_then_norm (hK13 ?_)
      refine wc_ret ?_
      refine hret rfl D2 rfl ?_
      exact ⟨_, _, _, _, _, _, rfl, HZ.off cg B2, H10.off cg B2, E⟩
    · skip
      refine wc_skip ?_
      refine wq_then_norm (hK11 ?_)
      refine wc_seq ?_; intro K14 hK14
      refine wc_region ?_
      have HZ := HX.congr (show _ = P.1 by rw [h1]; exact turn_f hr hge hc2)
      refine wl_y (y_move rfl) rfl ?_
      refine wl_y (y_move rfl) rfl ?_
      refine wl_y (y_build rfl (cells := #[.slice A31 n31 c31, .slice A10 n10 c10]) (by kernel_rfl)) rfl ?_
      refine wl_ef (ef_storeW rfl rfl (by kernel_rfl) B2 rfl (by simp [Value.oneCell'])) rfl ?_
      rintro _ w34 ⟨rfl, D2, cg⟩
      replace E := E.chg cg (by omega)
      refine wl_nil ?_
      refine wq_then_norm (hK14 ?_)
      refine wc_ret ?_
      refine hret rfl D2 rfl ?_
      exact ⟨_, _, _, _, _, _, rfl, HZ.off cg B2, H10.off cg B2, E⟩
  · skip
    refine wc_skip ?_
    refine wq_then_norm (hK9 ?_)
    refine wc_seq ?_; intro K15 hK15
    refine wc_seq ?_; intro K16 hK16
    replace HX := HX.congr (show _ = X by rw [hX, if_pos (of_not hc1)])
    refine wc_draw (by kernel_rfl) 7 rfl ?_; intro wd10 ex hd10
    replace E := E.ext ex
    replace B2 := B2.ext ex
    replace H10 := H10.ext ex
    replace H11 := H11.ext ex
    replace H14 := H14.ext ex
    replace H16 := H16.ext ex
    replace H18 := H18.ext ex
    replace H20 := H20.ext ex
    replace H22 := H22.ext ex
    replace HX := HX.ext ex
    refine wm_y 0 rfl (by kernel_rfl) (y_move rfl) rfl ?_
    obtain ⟨x', hx', hcx⟩ := (HA.ext E).byteAt (k := 31) (by omega)
    rw [hx'.out, ← hx] at hcx
    refine wm_y 2 rfl (by kernel_rfl) (y_move rfl) rfl ?_
    refine wm_y 3 rfl (by kernel_rfl) (y_ixs1 rfl rfl Try.underlying22 (by kernel_rfl) (j := 31) rfl (by omega)) rfl ?_
    refine wm_y 4 rfl (by kernel_rfl) (y_load1 rfl Try.underlying5 rfl hcx) rfl ?_
    refine wm_y 5 rfl (by kernel_rfl) (y_geq rfl rfl) rfl ?_
    refine wm_one 1 (by kernel_rfl) ?_; refine om_call rfl Try.func131 rfl rfl rfl (rodd_any A25 n25 c25 X _ HX) rfl ?_
    rintro e w32 ⟨rfl, ex⟩
    refine ⟨_, rfl, .inr ex, ?_⟩
    replace E := E.ext ex
    replace B2 := B2.ext ex
    replace H10 := H10.ext ex
    replace H11 := H11.ext ex
    replace H14 := H14.ext ex
    replace H16 := H16.ext ex
    replace H18 := H18.ext ex
    replace H20 := H20.ext ex
    replace H22 := H22.ext ex
    replace HX := HX.ext ex
    skip
    refine wm_y 6 rfl (by kernel_rfl) (y_neqb rfl rfl Try.underlying4) rfl ?_
    refine wm_done (by kernel_rfl) ?_
    refine wq_nop ?_
    refine wq_then_norm (hK16 ?_)
    refine wc_cond rfl (fun hc2 => ?_) (fun hc2 => ?_)
    · skip
      refine wc_region ?_
      refine wl_y (y_move rfl) rfl ?_
      refine wl_call Try.func28 rfl rfl rfl (Rsub_any none A25 0 0 n25 c25 0 X _ (BG.nil _ _) HX) rfl ?_
      rintro e w33 ⟨A33, n33, c33, rfl, H33, _, ex⟩
      refine ⟨_, rfl, ?_⟩
      replace E := E.ext ex
      replace B2 := B2.ext ex
      replace H10 := H10.ext ex
      replace H11 := H11.ext ex
      replace H14 := H14.ext ex
      replace H16 := H16.ext ex
      replace H18 := H18.ext ex
      replace H20 := H20.ext ex
      replace H22 := H22.ext ex
      replace HX := HX.ext ex
      rw [neg_of] at H33; have HZ := H33.congr (show _ = P.1 by rw [h1]; exact turn_t hr hge hc2)
      refine wl_y (y_assign rfl) rfl ?_
      refine wl_nil ?_
      refine wq_then_norm (hK15 ?_)
      refine wc_seq ?_; intro K17 hK17
      refine wc_region ?_
      refine wl_y (y_move rfl) rfl ?_
      refine wl_y (y_move rfl) rfl ?_
      refine wl_y (y_build rfl (cells := #[.slice A33 n33 c33, .slice A10 n10 c10]) (by kernel_rfl)) rfl ?_
      refine wl_ef (ef_storeW rfl rfl (by kernel_rfl) B2 rfl (by simp [Value.oneCell'])) rfl ?_
      rintro _ w34 ⟨rfl, D2, cg⟩
      replace E := E.chg cg (by omega)
      refine wl_nil ?_
      refine wq_then_norm (hK17 ?_)
      refine wc_ret ?_
      refine hret rfl D2 rfl ?_
      exact ⟨_, _, _, _, _, _, rfl, HZ.off cg B2, H10.off cg B2, E⟩
    · skip
      refine wc_skip ?_
      refine wq_then_norm (hK15 ?_)
      refine wc_seq ?_; intro K18 hK18
      refine wc_region ?_
      have HZ := HX.congr (show _ = P.1 by rw [h1]; exact turn_f hr hge hc2)
      refine wl_y (y_move rfl) rfl ?_
      refine wl_y (y_move rfl) rfl ?_
      refine wl_y (y_build rfl (cells := #[.slice A25 n25 c25, .slice A10 n10 c10]) (by kernel_rfl)) rfl ?_
      refine wl_ef (ef_storeW rfl rfl (by kernel_rfl) B2 rfl (by simp [Value.oneCell'])) rfl ?_
      rintro _ w34 ⟨rfl, D2, cg⟩
      replace E := E.chg cg (by omega)
      refine wl_nil ?_
      refine wq_then_norm (hK18 ?_)
      refine wc_ret ?_
      refine hret rfl D2 rfl ?_
      exact ⟨_, _, _, _, _, _, rfl, HZ.off cg B2, H10.off cg B2, E⟩
end
end Go.Proofs.Ytbcbihdfpkeacaa
