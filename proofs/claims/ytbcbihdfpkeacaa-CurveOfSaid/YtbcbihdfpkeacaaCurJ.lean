/- The reference of the curve: d, the square of an x, whether odd; bytes held against bytes. -/
import Derived.Test.YtbcbihdfpkeacaaCurH
import Derived.Test.YtbcbihdfpkeacaaSame
namespace Go.Proofs.Ytbcbihdfpkeacaa
open Go.RowKit
attribute [local irreducible] Y Ef WL WC WK WQ WM OpM WN WF OpN
theorem dec_onD (xs : List UInt8) : Ed.On ((Ed.dec xs).getD Ed.O) := by
  cases h : Ed.dec xs with
  | none => exact Ed.on_O
  | some P => exact Ed.dec_on h
theorem y_qq {L : List (Nat × Value)} {w : World} {ty e : TypeId} {x : Operand} {g : Nat} {cs : Array Value} {P : Fp.F × Fp.F} (hx : ev L x = some (.pointer (some ⟨g, 0, none⟩))) (h : PP cs P) (B : Blk w g e cs) : Y Try.prog L w (.load 67 x) ty (.agg cs) := y_loadw hx Try.underlying67 rfl (by rw [h.size]; kernel_rfl) B
theorem sameX_any (A B : Option Addr) (n m c d : Nat) (xs ys : List UInt8) (w : World) (ha : Bs w A n xs) (hb : Bs w B m ys) (hn : n ≤ 140737488355328) (hm : m ≤ 140737488355328) :
    Calls Try.prog 53 #[.slice A n c, .slice B m d] w fun e w' => e = .returned (.bool (decide (xs = ys))) ∧ Ext w w' :=
  (same_any A B n m c d xs ys w ha hb hn hm).mono fun _ _ ⟨h, k, hk⟩ => ⟨h, hk ▸ Ext.drewN w k⟩
theorem BG.nil (w : World) (A : Option Addr) : BG w A 0 0 := Ns.nil w A
theorem neg_of (x : Fp.F) : (0 : Fp.F) - x = -x := by grind
theorem Rnum_any (n : Nat) (w : World) (hn : n < 18446744073709551616) :
    Calls Try.prog 24 #[.int .u64 (n : Int)] w fun e w' => ∃ A' n' c', e = .returned (.slice A' n' c') ∧ BG w' A' n' (Fp.of n) ∧ Ext w w' :=
  (num_any n w hn).mono fun _ _ ⟨A, m, c, h1, h2, _, h4⟩ => ⟨A, m, c, h1, BG.of h2 (Nat.lt_of_lt_of_le hn (by unfold Fp.p; omega)), h4⟩
theorem rD_any (w : World) : Calls Try.prog 128 #[] w fun e w' => ∃ A' n' c', e = .returned (.slice A' n' c') ∧ BG w' A' n' Ed.d ∧ Ext w w' := by
  have E := Ext.refl w
  have hd : (-(Fp.of 121665)) * Fp.inv (Fp.of 121666) = Ed.d := (Ed.eq_div Ed.c_ne Ed.d_is'.symm).symm
  refine vc_enter1 6 Try.func128 rfl rfl rfl rfl ?_
  intro Q hret
  refine wc_seq ?_; intro K1 hK1
  refine wc_region ?_
  refine wl_y (y_assign rfl) rfl ?_
  refine wl_nil ?_
  refine wq_then_norm (hK1 ?_)
  refine wc_seq ?_; intro K2 hK2
  refine wc_region ?_
  refine wl_call Try.func24 rfl rfl rfl (Rnum_any 121665 _ (by omega)) rfl ?_
  rintro e w1 ⟨A1, n1, c1, rfl, H1, ex⟩
  refine ⟨_, rfl, ?_⟩
  replace E := E.ext ex
  skip
  refine wl_call Try.func28 rfl rfl rfl (Rsub_any none A1 0 0 n1 c1 0 (Fp.of 121665) _ (BG.nil _ _) H1) rfl ?_
  rintro e w2 ⟨A2, n2, c2, rfl, H2, _, ex⟩
  refine ⟨_, rfl, ?_⟩
  replace E := E.ext ex
  rw [neg_of] at H2
  refine wl_call Try.func24 rfl rfl rfl (Rnum_any 121666 _ (by omega)) rfl ?_
  rintro e w3 ⟨A3, n3, c3, rfl, H3, ex⟩
  refine ⟨_, rfl, ?_⟩
  replace E := E.ext ex
  replace H2 := H2.ext ex
  skip
  refine wl_call Try.func46 rfl rfl rfl (Rinv_any A3 n3 c3 (Fp.of 121666) _ H3) rfl ?_
  rintro e w4 ⟨A4, n4, c4, rfl, H4, _, ex⟩
  refine ⟨_, rfl, ?_⟩
  replace E := E.ext ex
  replace H2 := H2.ext ex
  skip
  refine wl_call Try.func31 rfl rfl rfl (Rmul_any A2 A4 n2 c2 n4 c4 _ _ _ H2 H4) rfl ?_
  rintro e w5 ⟨A5, n5, c5, rfl, H5, _, ex⟩
  refine ⟨_, rfl, ?_⟩
  replace E := E.ext ex
  replace H2 := H2.ext ex
  rw [hd] at H5
  refine wl_y (y_assign rfl) rfl ?_
  refine wl_nil ?_
  refine wq_then_norm (hK2 ?_)
  refine wc_ret ?_
  refine hret rfl ?_
  exact ⟨A5, n5, c5, rfl, H5, E⟩
theorem rsquare_any (A : Option Addr) (n c : Nat) (y : Fp.F) (w : World) (HA : BG w A n y) :
    Calls Try.prog 68 #[.slice A n c] w fun e w' => ∃ A' n' c', e = .returned (.slice A' n' c') ∧ BG w' A' n' (Ed.sq y) ∧ Ext w w' := by
  have E := Ext.refl w
  refine vc_enter1 19 Try.func68 rfl rfl rfl rfl ?_
  intro Q hret
  refine wc_seq ?_; intro K1 hK1
  refine wc_region ?_
  refine wl_y (y_assign rfl) rfl ?_
  refine wl_nil ?_
  refine wq_then_norm (hK1 ?_)
  refine wc_seq ?_; intro K2 hK2
  refine wc_region ?_
  refine wl_y (y_move rfl) rfl ?_
  refine wl_y (y_move rfl) rfl ?_
  refine wl_call Try.func31 rfl rfl rfl (Rmul_any A A n c n c y y _ HA HA) rfl ?_
  rintro e w1 ⟨A1, n1, c1, rfl, H1, _, ex⟩
  refine ⟨_, rfl, ?_⟩
  replace E := E.ext ex
  skip
  refine wl_y (y_assign rfl) rfl ?_
  refine wl_nil ?_
  refine wq_then_norm (hK2 ?_)
  refine wc_seq ?_; intro K3 hK3
  refine wc_region ?_
  refine wl_call Try.func24 rfl rfl rfl (Rnum_any 1 _ (by omega)) rfl ?_
  rintro e w2 ⟨A2, n2, c2, rfl, H2, ex⟩
  refine ⟨_, rfl, ?_⟩
  replace E := E.ext ex
  replace H1 := H1.ext ex
  skip
  refine wl_y (y_assign rfl) rfl ?_
  refine wl_nil ?_
  refine wq_then_norm (hK3 ?_)
  refine wc_seq ?_; intro K4 hK4
  refine wc_region ?_
  refine wl_y (y_move rfl) rfl ?_
  refine wl_y (y_move rfl) rfl ?_
  refine wl_call Try.func28 rfl rfl rfl (Rsub_any A1 A2 n1 c1 n2 c2 _ _ _ H1 H2) rfl ?_
  rintro e w3 ⟨A3, n3, c3, rfl, H3, _, ex⟩
  refine ⟨_, rfl, ?_⟩
  replace E := E.ext ex
  replace H1 := H1.ext ex
  replace H2 := H2.ext ex
  skip
  refine wl_call Try.func128 rfl rfl rfl (rD_any _) rfl ?_
  rintro e w4 ⟨A4, n4, c4, rfl, H4, ex⟩
  refine ⟨_, rfl, ?_⟩
  replace E := E.ext ex
  replace H1 := H1.ext ex
  replace H2 := H2.ext ex
  replace H3 := H3.ext ex
  skip
  refine wl_y (y_move rfl) rfl ?_
  refine wl_call Try.func31 rfl rfl rfl (Rmul_any A4 A1 n4 c4 n1 c1 _ _ _ H4 H1) rfl ?_
  rintro e w5 ⟨A5, n5, c5, rfl, H5, _, ex⟩
  refine ⟨_, rfl, ?_⟩
  replace E := E.ext ex
  replace H1 := H1.ext ex
  replace H2 := H2.ext ex
  replace H3 := H3.ext ex
  skip
  refine wl_y (y_move rfl) rfl ?_
  refine wl_call Try.func26 rfl rfl rfl (Radd_any A5 A2 n5 c5 n2 c2 _ _ _ H5 H2) rfl ?_
  rintro e w6 ⟨A6, n6, c6, rfl, H6, _, ex⟩
  refine ⟨_, rfl, ?_⟩
  replace E := E.ext ex
  replace H1 := H1.ext ex
  replace H2 := H2.ext ex
  replace H3 := H3.ext ex
  skip
  refine wl_call Try.func46 rfl rfl rfl (Rinv_any A6 n6 c6 _ _ H6) rfl ?_
  rintro e w7 ⟨A7, n7, c7, rfl, H7, _, ex⟩
  refine ⟨_, rfl, ?_⟩
  replace E := E.ext ex
  replace H1 := H1.ext ex
  replace H2 := H2.ext ex
  replace H3 := H3.ext ex
  skip
  refine wl_call Try.func31 rfl rfl rfl (Rmul_any A3 A7 n3 c3 n7 c7 _ _ _ H3 H7) rfl ?_
  rintro e w8 ⟨A8, n8, c8, rfl, H8, _, ex⟩
  refine ⟨_, rfl, ?_⟩
  replace E := E.ext ex
  replace H1 := H1.ext ex
  replace H2 := H2.ext ex
  replace H3 := H3.ext ex
  skip
  refine wl_y (y_assign rfl) rfl ?_
  refine wl_nil ?_
  refine wq_then_norm (hK4 ?_)
  refine wc_ret ?_
  refine hret rfl ?_
  exact ⟨A8, n8, c8, rfl, H8, E⟩
theorem rodd_any (A : Option Addr) (n c : Nat) (a : Fp.F) (w : World) (HA : BG w A n a) :
    Calls Try.prog 131 #[.slice A n c] w fun e w' => e = .returned (.bool (decide (a.val % 2 = 1))) ∧ Ext w w' := by
  have hl := (show Bg w A n a.val from HA).len
  refine vc_enter1 13 Try.func131 rfl rfl rfl rfl ?_
  intro Q hret
  refine wc_seq ?_; intro K1 hK1
  refine wc_region ?_
  refine wl_y (y_assign rfl) rfl ?_
  refine wl_nil ?_
  refine wq_then_norm (hK1 ?_)
  refine wc_seq ?_; intro K2 hK2
  refine wc_region ?_
  refine wl_y (y_move rfl) rfl ?_
  refine wl_y (y_len_slice rfl Try.underlying30) rfl ?_
  refine wl_y (y_gtr rfl rfl) rfl ?_
  refine wl_yask (y_move rfl) rfl (fun h1 => ?_) (fun h1 => ?_)
  · skip
    obtain ⟨b, off, x, rfl, hx, hcx⟩ := (show Ns .i64 w A n (Big.digs a.val) from HA).cell (i := 0) (by omega)
    refine wl_gy 6 rfl rfl (y_move rfl) rfl ?_
    refine wl_gy 6 rfl rfl (y_ixs1 rfl rfl Try.underlying30 (by kernel_rfl) (j := 0) rfl (by omega)) rfl ?_
    refine wl_gy 6 rfl rfl (y_load1 rfl Try.underlying3 rfl hcx) rfl ?_
    refine wl_gy 6 rfl rfl (y_rem rfl rfl (by omega) (show ((x : Nat) : Int).tmod 2 = ((x % 2 : Nat) : Int) from rfl)) rfl ?_
    refine wl_gy 6 rfl rfl (y_eql rfl rfl) rfl ?_
    refine wl_y (y_pickt rfl rfl) rfl ?_
    refine wl_y (y_assign rfl) rfl ?_
    refine wl_nil ?_
    refine wq_then_norm (hK2 ?_)
    refine wc_ret ?_
    refine hret rfl ?_
    exact ⟨ret_bool (by have h2 := Big.digit_eq a.val 0; rw [← hx.out, Nat.pow_zero, Nat.div_one] at h2; omega), Ext.refl _⟩
  · skip
    refine wl_gno 6 rfl rfl rfl rfl ?_
    refine wl_gno 6 rfl rfl rfl rfl ?_
    refine wl_gno 6 rfl rfl rfl rfl ?_
    refine wl_gno 6 rfl rfl rfl rfl ?_
    refine wl_gno 6 rfl rfl rfl rfl ?_
    refine wl_y (y_pickf rfl rfl) rfl ?_
    refine wl_y (y_assign rfl) rfl ?_
    refine wl_nil ?_
    refine wq_then_norm (hK2 ?_)
    refine wc_ret ?_
    refine hret rfl ?_
    exact ⟨by
    have h0 : Big.digs a.val = [] := List.eq_nil_of_length_eq_zero (by omega)
    have h2 : a.val = 0 := by rw [← Big.val_digs a.val, h0]; rfl
    rw [decide_eq_false (by omega)], Ext.refl _⟩
end Go.Proofs.Ytbcbihdfpkeacaa
