/- The reference's Roots and Sum; the law ShaIs: it answers true whatever bytes it is given. -/
import Derived.Test.YtijnolhjkdhecaaBigC
import Derived.Test.YtijnolhjkdhecaaAlive2
namespace Go.Proofs.Ytijnolhjkdhecaa
open Go.RowKit
attribute [local irreducible] Y Ef WL WC WK WQ WM OpM
theorem root_hi (n k : Nat) : IntKind.u64.wrap (((Big.root n k : Nat) : Int).tdiv 4294967296) = ((Big.root n k / 4294967296 : Nat) : Int) := by
  have := Big.root_lt n k
  exact u64_nat rfl (by omega)
theorem roots_any (w : World) :
    Calls Try.prog 46 #[] w fun e w' => ∃ A1 c1 A2 c2, e = .returned (.tuple #[.slice A1 8 c1, .slice A2 64 c2]) ∧ Ns .u64 w' A1 8 Sha.H0 ∧ Ns .u64 w' A2 64 Sha.K ∧ Ext w w' := by
  obtain ⟨PS, hPS⟩ : ∃ l, l = Big.primes 64 := ⟨_, rfl⟩
  have hlen : PS.length = 64 := by rw [hPS]; exact Big.primes_length 64 (by omega)
  have hpl : ∀ i, i < 64 → 2 ≤ PS.getD i 0 ∧ PS.getD i 0 < 410 := fun i hi => by rw [hPS]; exact Big.prime_lt 64 i (by rw [← hPS, hlen]; exact hi)
  refine vc_enter2 36 Try.func46 rfl rfl rfl rfl ?_
  intro Q hret
  refine wc_seq ?_; intro K1 hK1
  refine wc_region ?_
  refine wl_y (y_assign rfl) rfl ?_
  refine wl_y (y_assign rfl) rfl ?_
  refine wl_nil ?_
  refine wq_then_norm (hK1 ?_)
  refine wc_seq ?_; intro K2 hK2
  refine wc_region ?_
  refine wl_call Try.func64 rfl rfl rfl (primes_any 64 _ (by omega)) rfl ?_
  rintro e w1 ⟨A0, c0, rfl, H0, ex⟩
  refine ⟨_, rfl, ?_⟩
  rw [← hPS] at H0; have E1 := ex
  refine wl_y (y_assign rfl) rfl ?_
  refine wl_nil ?_
  refine wq_then_norm (hK2 ?_)
  refine wc_seq ?_; intro K3 hK3
  refine wc_region ?_
  refine wl_y (y_assign rfl) rfl ?_
  refine wl_y (y_assign rfl) rfl ?_
  refine wl_nil ?_
  refine wq_then_norm (hK3 ?_)
  refine wc_seq ?_; intro K4 hK4
  refine wc_seq ?_; intro K5 hK5
  refine wc_region ?_
  refine wl_y (y_assign rfl) rfl ?_
  refine wl_nil ?_
  refine wq_then_norm (hK5 ?_)
  refine wc_block ?_
  refine wc_loop (fun n' L wr => ∃ (i c5 : Nat) (A5 : Option Addr), L = [(2, .slice A0 64 c0), (3, .slice A5 i c5), (4, .slice none 0 0), (5, .int .i64 (i : Int))] ∧ n' = 8 - i ∧ (i ≤ 8 ∧ Ext w1 wr ∧ Row wr w1.heap.size 76 A5 i c5 (((PS.take i).map (fun p => Big.root p 2 / 4294967296)).map (iv .u64)))) _ _ ⟨0, 0, none, rfl, rfl, by omega, Ext.refl _, Row.empty _ _ _⟩ ⟨rfl, rfl, rfl, (by first | rfl | exact congrArg some (int_val (by omega))), trivial⟩ ?_
  rintro KL1 n' L wr ⟨i, c5, A5, rfl, rfl, hi, E, R⟩ hL1
  refine wc_seq ?_; intro K6 hK6
  refine wc_seq ?_; intro K7 hK7
  refine wc_region ?_
  refine wl_y (y_move rfl) rfl ?_
  refine wl_y (y_lss rfl rfl) rfl ?_
  refine wl_nil ?_
  refine wq_then_norm (hK7 ?_)
  refine wc_dec rfl (fun hc1 => ?_) (fun hc1 => ?_)
  · skip
    refine wc_skip ?_
    refine wq_then_norm (hK6 ?_)
    refine wc_seq ?_; intro K8 hK8
    refine wc_block ?_
    obtain ⟨b1, off1, x, rfl, hx, hcx⟩ := (H0.wk E).cell (i := i) (by omega)
    have hxl := hpl i (by omega); rw [← hx.out] at hxl
    refine wc_region ?_
    refine wl_y (y_move rfl) rfl ?_
    refine wl_y (y_move rfl) rfl ?_
    refine wl_y (y_move rfl) rfl ?_
    refine wl_y (y_ixs1 rfl rfl Try.underlying65 (by kernel_rfl) rfl (by omega)) rfl ?_
    refine wl_y (y_load1 rfl Try.underlying76 rfl (by assumption)) rfl ?_
    refine wl_call Try.func65 rfl rfl rfl (root_any x 2 _ (by omega) (.inl rfl)) rfl ?_
    rintro e w2 ⟨rfl, ex⟩
    refine ⟨_, rfl, ?_⟩
    have E2 := E.ext ex; have R2 := R.ext ex
    refine wl_y (y_quo rfl rfl (by omega) (root_hi x 2)) rfl ?_
    refine wl_ef (ef_lit (z := .int .u64 0) Try.underlying65 (by kernel_rfl) rfl rfl rfl rfl rfl) rfl ?_
    rintro _ w5 ⟨g5, rfl, B5, hg5, ex⟩
    have R5 := R2.ext ex; have F5 := E2.ext ex; have hs5 := F5.size
    refine wl_ef (ef_app rfl rfl eltU R5 (At.blk (vs := [Big.root x 2 / 4294967296].map (iv .u64)) (B5.congr rfl)) rfl (by intro u hu; exact iv_one u hu) (by omega) (by omega) hs5) rfl ?_
    rintro _ w6 ⟨A6, c6, rfl, R6, be, gr, hl⟩
    have F6 := F5.trans be; have R7 := R6.ivs
    refine wl_y (y_assign rfl) rfl ?_
    refine wl_nil ?_
    refine wq_blk_norm ?_
    refine wq_then_norm (hK8 ?_)
    refine wc_region ?_
    refine wl_y (y_move rfl) rfl ?_
    refine wl_y (y_add rfl rfl (i64_ok (by omega) (by omega))) rfl ?_
    refine wl_y (y_assign rfl) rfl ?_
    refine wl_nil ?_
    refine wq_then_norm ?_
    refine hL1 _ _ ⟨i + 1, c6, A6, rfl, rfl, by omega, F6, by rw [List.take_succ_eq_append_getElem (by omega), List.map_append, List.map_cons, List.map_nil]; rw [hx.out, List.getD_eq_getElem?_getD, List.getElem?_eq_getElem (by omega)] at R7; exact R7⟩ (by omega) ⟨rfl, rfl, rfl, (by first | rfl | exact congrArg some (int_val (by omega))), trivial⟩
  · skip
    refine wc_exit ?_
    refine wq_then_exit ?_
    refine wq_then_exit ?_
    refine wq_blk_hit ?_
    refine wq_then_norm (hK4 ?_)
    refine wc_seq ?_; intro K9 hK9
    refine wc_seq ?_; intro K10 hK10
    refine wc_region ?_
    refine wl_y (y_assign rfl) rfl ?_
    refine wl_nil ?_
    refine wq_then_norm (hK10 ?_)
    refine wc_block ?_
    obtain rfl : i = 8 := by omega
    refine wc_loop (fun n' L wq => ∃ (k c7 : Nat) (A7 : Option Addr), L = [(2, .slice A0 64 c0), (3, .slice A5 8 c5), (4, .slice A7 k c7), (6, .int .i64 (k : Int))] ∧ n' = 64 - k ∧ (k ≤ 64 ∧ Ext wr wq ∧ Row wq wr.heap.size 76 A7 k c7 (((PS.take k).map (fun p => Big.root p 3 / 4294967296)).map (iv .u64)))) _ _ ⟨0, 0, none, rfl, rfl, by omega, Ext.refl _, Row.empty _ _ _⟩ ⟨rfl, rfl, rfl, (by first | rfl | exact congrArg some (int_val (by omega))), trivial⟩ ?_
    rintro KL2 n' L wq ⟨k, c7, A7, rfl, rfl, hk, F, R'⟩ hL2
    refine wc_seq ?_; intro K11 hK11
    refine wc_seq ?_; intro K12 hK12
    refine wc_region ?_
    refine wl_y (y_move rfl) rfl ?_
    refine wl_y (y_lss rfl rfl) rfl ?_
    refine wl_nil ?_
    refine wq_then_norm (hK12 ?_)
    refine wc_dec rfl (fun hc2 => ?_) (fun hc2 => ?_)
    · skip
      refine wc_skip ?_
      refine wq_then_norm (hK11 ?_)
      refine wc_seq ?_; intro K13 hK13
      refine wc_block ?_
      obtain ⟨b1, off1, x, rfl, hx, hcx⟩ := (H0.wk (E.tr F)).cell (i := k) (by omega)
      have hxl := hpl k (by omega); rw [← hx.out] at hxl
      refine wc_region ?_
      refine wl_y (y_move rfl) rfl ?_
      refine wl_y (y_move rfl) rfl ?_
      refine wl_y (y_move rfl) rfl ?_
      refine wl_y (y_ixs1 rfl rfl Try.underlying65 (by kernel_rfl) rfl (by omega)) rfl ?_
      refine wl_y (y_load1 rfl Try.underlying76 rfl (by assumption)) rfl ?_
      refine wl_call Try.func65 rfl rfl rfl (root_any x 3 _ (by omega) (.inr rfl)) rfl ?_
      rintro e w2 ⟨rfl, ex⟩
      refine ⟨_, rfl, ?_⟩
      have E2 := F.ext ex; have R2 := R'.ext ex
      refine wl_y (y_quo rfl rfl (by omega) (root_hi x 3)) rfl ?_
      refine wl_ef (ef_lit (z := .int .u64 0) Try.underlying65 (by kernel_rfl) rfl rfl rfl rfl rfl) rfl ?_
      rintro _ w5 ⟨g5, rfl, B5, hg5, ex⟩
      have R5 := R2.ext ex; have F5 := E2.ext ex; have hs5 := F5.size
      refine wl_ef (ef_app rfl rfl eltU R5 (At.blk (vs := [Big.root x 3 / 4294967296].map (iv .u64)) (B5.congr rfl)) rfl (by intro u hu; exact iv_one u hu) (by omega) (by omega) hs5) rfl ?_
      rintro _ w6 ⟨A6, c6, rfl, R6, be, gr, hl⟩
      have F6 := F5.trans be; have R7 := R6.ivs
      refine wl_y (y_assign rfl) rfl ?_
      refine wl_nil ?_
      refine wq_blk_norm ?_
      refine wq_then_norm (hK13 ?_)
      refine wc_region ?_
      refine wl_y (y_move rfl) rfl ?_
      refine wl_y (y_add rfl rfl (i64_ok (by omega) (by omega))) rfl ?_
      refine wl_y (y_assign rfl) rfl ?_
      refine wl_nil ?_
      refine wq_then_norm ?_
      refine hL2 _ _ ⟨k + 1, c6, A6, rfl, rfl, by omega, F6, by rw [List.take_succ_eq_append_getElem (by omega), List.map_append, List.map_cons, List.map_nil]; rw [hx.out, List.getD_eq_getElem?_getD, List.getElem?_eq_getElem (by omega)] at R7; exact R7⟩ (by omega) ⟨rfl, rfl, rfl, (by first | rfl | exact congrArg some (int_val (by omega))), trivial⟩
    · skip
      refine wc_exit ?_
      refine wq_then_exit ?_
      refine wq_then_exit ?_
      refine wq_blk_hit ?_
      refine wq_then_norm (hK9 ?_)
      refine wc_seq ?_; intro K14 hK14
      refine wc_region ?_
      refine wl_y (y_move rfl) rfl ?_
      refine wl_y (y_move rfl) rfl ?_
      refine wl_y (y_assign rfl) rfl ?_
      refine wl_y (y_assign rfl) rfl ?_
      refine wl_nil ?_
      refine wq_then_norm (hK14 ?_)
      refine wc_ret ?_
      refine hret rfl rfl ?_
      obtain rfl : k = 64 := by omega
      refine ⟨A5, c5, A7, c7, rfl, ?_, ?_, E1.tr (E.tr F)⟩
      · have := (Ns.of_row R).wk F
        rw [hPS, Big.sha_H0] at this
        exact this
      · have := Ns.of_row R'
        rw [List.take_of_length_le (by omega), hPS, Big.sha_K] at this
        exact this
theorem refSum_any (A : Option Addr) (n c : Nat) (xs : List UInt8) (w : World) (HA : Bs w A n xs) (hn : n ≤ 35184372088832) :
    Calls Try.prog 17 #[.slice A n c] w fun e w' => ∃ A' c', e = .returned (.slice A' 32 c') ∧ Bs w' A' 32 (Sha.sum xs) ∧ Ext w w' := by
  refine vc_enter1 13 Try.func17 rfl rfl rfl rfl ?_
  intro Q hret
  refine wc_seq ?_; intro K1 hK1
  refine wc_region ?_
  refine wl_y (y_assign rfl) rfl ?_
  refine wl_nil ?_
  refine wq_then_norm (hK1 ?_)
  refine wc_seq ?_; intro K2 hK2
  refine wc_region ?_
  refine wl_call Try.func46 rfl rfl rfl (roots_any _) rfl ?_
  rintro e w1 ⟨A1, c1, A2, c2, rfl, H1, H2, ex⟩
  refine ⟨_, rfl, ?_⟩
  have E1 := ex
  refine wl_y (y_move rfl) rfl ?_
  refine wl_y (y_extract rfl rfl) rfl ?_
  refine wl_y (y_extract rfl rfl) rfl ?_
  refine wl_y (y_assign rfl) rfl ?_
  refine wl_y (y_assign rfl) rfl ?_
  refine wl_nil ?_
  refine wq_then_norm (hK2 ?_)
  refine wc_seq ?_; intro K3 hK3
  refine wc_region ?_
  refine wl_y (y_move rfl) rfl ?_
  refine wl_y (y_move rfl) rfl ?_
  refine wl_y (y_move rfl) rfl ?_
  refine wl_call Try.func47 rfl rfl rfl (sumr_any A A1 A2 n c c1 c2 xs _ (HA.ext E1) hn H1 H2) rfl ?_
  rintro e w2 ⟨A3, c3, rfl, O3, ex⟩
  refine ⟨_, rfl, ?_⟩
  have E2 := E1.ext ex
  refine wl_y (y_assign rfl) rfl ?_
  refine wl_nil ?_
  refine wq_then_norm (hK3 ?_)
  refine wc_ret ?_
  refine hret rfl ?_
  exact ⟨A3, c3, rfl, O3.bs, E2⟩
theorem shaIs_law (A : Option Addr) (n c : Nat) (xs : List UInt8) (w : World) (HA : Bs w A n xs) (hn : n ≤ maxLen) :
    Calls Try.prog 3 #[.slice A n c] w fun e w' => e = .returned (.bool true) ∧ Below w.heap.size w w' := by
  unfold maxLen at hn
  have E := Ext.refl w
  refine vc_enter1 15 Try.func3 rfl rfl rfl rfl ?_
  intro Q hret
  refine wc_seq ?_; intro K1 hK1
  have HA0 := HA
  refine wc_region ?_
  refine wl_y (y_assign rfl) rfl ?_
  refine wl_nil ?_
  refine wq_then_norm (hK1 ?_)
  refine wc_seq ?_; intro K2 hK2
  refine wc_seq ?_; intro K3 hK3
  refine wc_region ?_
  refine wl_call Try.func14 rfl rfl rfl (alive2_any _) rfl ?_
  rintro e w1 ⟨rfl, ex⟩
  refine ⟨_, rfl, ?_⟩
  replace HA := HA.ext ex
  replace E := E.ext ex
  refine wl_y (y_not rfl) rfl ?_
  refine wl_nil ?_
  refine wq_then_norm (hK3 ?_)
  refine wc_false rfl rfl ?_
  refine wc_skip ?_
  refine wq_then_norm (hK2 ?_)
  refine wc_seq ?_; intro K4 hK4
  refine wc_seq ?_; intro K5 hK5
  refine wc_region ?_
  refine wl_y (y_move rfl) rfl ?_
  refine wl_y (y_len_slice rfl Try.underlying22) rfl ?_
  refine wl_y (y_gtr rfl rfl) rfl ?_
  refine wl_nil ?_
  refine wq_then_norm (hK5 ?_)
  refine wc_dec rfl (fun hc2 => ?_) (fun hc2 => ?_)
  · skip
    refine wc_seq ?_; intro K6 hK6
    refine wc_region ?_
    refine wl_y (y_assign rfl) rfl ?_
    refine wl_nil ?_
    refine wq_then_norm (hK6 ?_)
    refine wc_ret ?_
    refine wq_then_ret ?_
    refine hret rfl ?_
    exact ⟨rfl, E⟩
  · skip
    refine wc_skip ?_
    refine wq_then_norm (hK4 ?_)
    refine wc_seq ?_; intro K7 hK7
    refine wc_region ?_
    refine wl_y (y_move rfl) rfl ?_
    refine wl_call Try.func15 rfl rfl rfl (sum_any A n c xs _ HA (by omega)) rfl ?_
    rintro e w2 ⟨rfl, ex⟩
    refine ⟨_, rfl, ?_⟩
    replace HA := HA.ext ex
    replace E := E.ext ex
    have E2 := E
    refine wl_ef (ef_alloc (Z := bys (zbs 32)) (by kernel_rfl)) rfl ?_
    rintro _ w3 ⟨g, rfl, B3, hg3, ex⟩
    replace HA := HA.ext ex
    replace E := E.ext ex
    have hg : w.heap.size ≤ g := Nat.le_trans E2.size hg3
    refine wl_ef (ef_storeW rfl rfl (by rw [bys_size, Sha.sum_length]; kernel_rfl) B3 (by rw [bys_size, bys_size, Sha.sum_length]; rfl) (bys_one _)) rfl ?_
    rintro _ w4 ⟨rfl, B4, cg⟩
    have E4 := E.chg cg hg; have HA4 := HA0.wk E4; have H4 := bs_blk' B4 (Sha.sum_length _)
    refine wl_nil ?_
    refine wq_then_norm (hK7 ?_)
    refine wc_seq ?_; intro K8 hK8
    refine wc_draw (by kernel_rfl) 5 rfl ?_; intro wd6 ex hd6
    replace HA4 := HA4.ext ex
    replace E4 := E4.ext ex
    replace H4 := H4.ext ex
    refine wm_y 0 rfl (by kernel_rfl) (y_cutarr (s := 1) rfl Try.underlying24 (by kernel_rfl)) rfl ?_
    refine wm_y 1 rfl (by kernel_rfl) (y_move rfl) rfl ?_
    refine wm_one 2 (by kernel_rfl) ?_; refine om_call rfl Try.func17 rfl rfl rfl (refSum_any A n c xs _ HA4 (by omega)) rfl ?_
    rintro e w6 ⟨A6, c6, rfl, H6, ex⟩
    refine ⟨_, rfl, .inr ex, ?_⟩
    replace HA4 := HA4.ext ex
    replace E4 := E4.ext ex
    replace H4 := H4.ext ex
    skip
    refine wm_one 3 (by kernel_rfl) ?_; refine om_call rfl Try.func16 rfl rfl rfl (same_any _ _ 32 32 _ _ _ _ _ H4 H6 (by omega) (by omega)) rfl ?_
    rintro e w7 ⟨rfl, k7, rfl⟩
    have ex := Ext.drewN w6 k7
    refine ⟨_, rfl, .inr ex, ?_⟩
    replace HA4 := HA4.ext ex
    replace E4 := E4.ext ex
    replace H4 := H4.ext ex
    rw [decide_eq_true rfl]
    refine wm_y 4 rfl (by kernel_rfl) (y_assign rfl) rfl ?_
    refine wm_done (by kernel_rfl) ?_
    refine wq_nop ?_
    refine wq_then_norm (hK8 ?_)
    refine wc_ret ?_
    refine hret rfl ?_
    exact ⟨rfl, E4⟩
end Go.Proofs.Ytijnolhjkdhecaa
