/- The chapter's example of the long digest; the laws LongStays and LongRoots. -/
import Derived.Test.YtbcbihdfpkeacaaLongG
import Derived.Test.YtbcbihdfpkeacaaSame
namespace Go.Proofs.Ytbcbihdfpkeacaa
open Go.RowKit
attribute [local irreducible] Y Ef WL WC WK WQ WM OpM WN WF OpN
theorem lsame_any (A B : Option Addr) (n m c d : Nat) (xs ys : List UInt8) (w : World) (ha : Bs w A n xs) (hb : Bs w B m ys) (hn : n ≤ 140737488355328) (hm : m ≤ 140737488355328) :
    Calls Try.prog 53 #[.slice A n c, .slice B m d] w fun e w' => e = .returned (.bool (decide (xs = ys))) ∧ Ext w w' :=
  (same_any A B n m c d xs ys w ha hb hn hm).mono fun _ _ ⟨h, k, hk⟩ => ⟨h, hk ▸ Ext.drewN w k⟩
theorem labc_cell (i : Nat) (h : i < 4) : (bys (Lng.sum [97, 98, 99]))[i]? = some (.int .u8 (([0xdd, 0xaf, 0x35, 0xa1] : List UInt8).getD i 0).toNat) := by
  rw [bys_get (by rw [Lng.sum_length]; omega), ← Lng.abc4]
  simp [List.getElem?_take, h]
theorem alive3_any (w : World) : Calls Try.prog 37 #[] w fun e w' => e = .returned (.bool true) ∧ Ext w w' := by
  have E := Ext.refl w
  refine vc_enter1 27 Try.func37 rfl rfl rfl rfl ?_
  intro Q hret
  refine wc_seq ?_; intro K1 hK1
  refine wc_region ?_
  refine wl_y (y_assign rfl) rfl ?_
  refine wl_nil ?_
  refine wq_then_norm (hK1 ?_)
  refine wc_seq ?_; intro K2 hK2
  refine wc_region ?_
  refine wl_ef (ef_litX (z := .int .u8 0) Try.underlying22 (by kernel_rfl) rfl rfl rfl rfl rfl) rfl ?_
  rintro _ _ ⟨rfl, rfl⟩
  skip
  refine wl_ef (ef_mark rfl Try.underlying22 Try.underlying5) rfl ?_
  rintro _ w1 ⟨rfl, hw1⟩
  have ex := show Ext w w1 from by rw [hw1]; exact Ext.alloc _ _
  replace E := E.ext ex
  have S1 : Bs w1 (some ⟨w.heap.size, 0, none⟩) 3 [97, 98, 99] := by rw [hw1]; exact bs_marked (cs := [.int .u8 97, .int .u8 98, .int .u8 99]) rfl
  clear hw1 
  refine wl_call Try.func52 rfl rfl rfl (lsum_any _ 3 3 [97, 98, 99] _ S1 (by omega)) rfl ?_
  rintro e w2 ⟨rfl, ex⟩
  refine ⟨_, rfl, ?_⟩
  replace E := E.ext ex
  replace S1 := S1.ext ex
  skip
  have F := Ext.refl w2; have E0 := E
  refine wl_ef (ef_alloc (Z := bys (zbs 64)) (by kernel_rfl)) rfl ?_
  rintro _ w3 ⟨g3, rfl, B3, hg3, ex⟩
  replace F := F.ext ex
  refine wl_ef (ef_storeW rfl rfl (by rw [bys_size, Lng.sum_length]; kernel_rfl) B3 (by rw [bys_size, bys_size, Lng.sum_length]; rfl) (bys_one _)) rfl ?_
  rintro _ w4 ⟨rfl, B4, cg⟩
  replace F := F.chg cg hg3; replace E := E0.ext F
  refine wl_nil ?_
  refine wq_then_norm (hK2 ?_)
  refine wc_seq ?_; intro K3 hK3
  refine wc_region ?_
  refine wl_y (y_ixa1 rfl rfl Try.underlying56 (by kernel_rfl) (j := 0) rfl (by omega)) rfl ?_
  refine wl_y (y_load1 rfl Try.underlying5 rfl (B4.get (i := 0 + 0) (labc_cell 0 (by omega)))) rfl ?_
  refine wl_y (Y.as (y_eql rfl rfl) (congrArg Value.bool (decide_eq_true rfl))) rfl ?_
  refine wl_y (y_move rfl) rfl ?_
  refine wl_gy 8 rfl rfl (y_ixa1 rfl rfl Try.underlying56 (by kernel_rfl) (j := 1) rfl (by omega)) rfl ?_
  refine wl_gy 8 rfl rfl (y_load1 rfl Try.underlying5 rfl (B4.get (i := 0 + 1) (labc_cell 1 (by omega)))) rfl ?_
  refine wl_gy 8 rfl rfl (Y.as (y_eql rfl rfl) (congrArg Value.bool (decide_eq_true rfl))) rfl ?_
  refine wl_y (y_pickt rfl rfl) rfl ?_
  refine wl_y (y_move rfl) rfl ?_
  refine wl_gy 13 rfl rfl (y_ixa1 rfl rfl Try.underlying56 (by kernel_rfl) (j := 2) rfl (by omega)) rfl ?_
  refine wl_gy 13 rfl rfl (y_load1 rfl Try.underlying5 rfl (B4.get (i := 0 + 2) (labc_cell 2 (by omega)))) rfl ?_
  refine wl_gy 13 rfl rfl (Y.as (y_eql rfl rfl) (congrArg Value.bool (decide_eq_true rfl))) rfl ?_
  refine wl_y (y_pickt rfl rfl) rfl ?_
  refine wl_y (y_move rfl) rfl ?_
  refine wl_gy 18 rfl rfl (y_ixa1 rfl rfl Try.underlying56 (by kernel_rfl) (j := 3) rfl (by omega)) rfl ?_
  refine wl_gy 18 rfl rfl (y_load1 rfl Try.underlying5 rfl (B4.get (i := 0 + 3) (labc_cell 3 (by omega)))) rfl ?_
  refine wl_gy 18 rfl rfl (Y.as (y_eql rfl rfl) (congrArg Value.bool (decide_eq_true rfl))) rfl ?_
  refine wl_y (y_pickt rfl rfl) rfl ?_
  refine wl_y (y_move rfl) rfl ?_
  refine wl_gcall 23 rfl rfl Try.func38 rfl rfl rfl (lroot_any 2 2 _ (by omega) (.inl rfl)) rfl ?_
  rintro e w5 ⟨rfl, ex⟩
  refine ⟨_, rfl, ?_⟩
  replace E := E.ext ex
  rw [Lng.root22]
  refine wl_gy 23 rfl rfl (Y.as (y_eql rfl rfl) (congrArg Value.bool (decide_eq_true rfl))) rfl ?_
  refine wl_y (y_pickt rfl rfl) rfl ?_
  refine wl_y (y_assign rfl) rfl ?_
  refine wl_nil ?_
  refine wq_then_norm (hK3 ?_)
  refine wc_ret ?_
  refine hret rfl ?_
  exact ⟨rfl, E⟩
theorem longStays_law (A : Option Addr) (n c : Nat) (xs : List UInt8) (w : World) (HA : Bs w A n xs) (hn : n ≤ maxLen) :
    Calls Try.prog 8 #[.slice A n c] w fun e w' => e = .returned (.bool true) ∧ Below w.heap.size w w' := by
  unfold maxLen at hn
  have E := Ext.refl w
  have hxl := HA.1
  have HA0 := HA
  have f1 : [xs].flatten = xs := by simp
  refine vc_enter1 51 Try.func8 rfl rfl rfl rfl ?_
  intro Q hret
  refine wc_seq ?_; intro K1 hK1
  refine wc_region ?_
  refine wl_y (y_assign rfl) rfl ?_
  refine wl_nil ?_
  refine wq_then_norm (hK1 ?_)
  refine wc_seq ?_; intro K2 hK2
  refine wc_seq ?_; intro K3 hK3
  refine wc_region ?_
  refine wl_call Try.func37 rfl rfl rfl (alive3_any _) rfl ?_
  rintro e w1 ⟨rfl, ex⟩
  refine ⟨_, rfl, ?_⟩
  replace HA := HA.ext ex
  replace E := E.ext ex
  refine wl_y (y_not rfl) rfl ?_
  refine wl_nil ?_
  refine wq_then_norm (hK3 ?_)
  refine wc_false rfl rfl ?_
  refine wc_skip ?_
  refine wq_then_norm (hK2 ?_)
  refine wc_seq ?_; intro K4 hK4
  refine wc_seq ?_; intro K5 hK5
  refine wc_region ?_
  refine wl_y (y_move rfl) rfl ?_
  refine wl_y (y_len_slice rfl Try.underlying22) rfl ?_
  refine wl_y (y_gtr rfl rfl) rfl ?_
  refine wl_nil ?_
  refine wq_then_norm (hK5 ?_)
  refine wc_dec rfl (fun hc2 => ?_) (fun hc2 => ?_)
  · skip
    refine wc_seq ?_; intro K6 hK6
    refine wc_region ?_
    refine wl_y (y_assign rfl) rfl ?_
    refine wl_nil ?_
    refine wq_then_norm (hK6 ?_)
    refine wc_ret ?_
    refine wq_then_ret ?_
    refine hret rfl ?_
    exact ⟨rfl, E⟩
  · skip
    refine wc_skip ?_
    refine wq_then_norm (hK4 ?_)
    refine wc_seq ?_; intro K7 hK7
    refine wc_region ?_
    refine wl_ef (ef_lit (z := .int .u8 0) Try.underlying22 (by kernel_rfl) rfl rfl rfl rfl rfl) rfl ?_
    rintro _ w2 ⟨g2, rfl, B2, hg2, ex⟩
    have x2 := ex; have R2 : Row w2 w1.heap.size 5 (some ⟨g2, 0, none⟩) 0 0 (([] : List UInt8).map bv) := Row.new B2 hg2 rfl (by unfold maxLen; omega)
    refine wl_y (y_move rfl) rfl ?_
    refine wl_ef (ef_app0 rfl rfl eltB R2 (HA.ext x2).2 (by rw [List.length_map, HA.1]) (by intro u hu; exact bv_one u hu) (by omega) (by omega) x2.size) rfl ?_
    rintro _ w3 ⟨AW, cw, rfl, RW, be, gr, hl⟩
    have ex : Ext w1 w3 := x2.trans be
    replace HA := HA.ext ex
    replace E := E.ext ex
    refine wl_y (y_assign rfl) rfl ?_
    refine wl_nil ?_
    refine wq_then_norm (hK7 ?_)
    refine wc_seq ?_; intro K8 hK8
    refine wc_region ?_
    refine wl_y (y_move rfl) rfl ?_
    refine wl_ef (ef_lit (z := .slice none 0 0) Try.underlying117 (by kernel_rfl) rfl rfl rfl rfl rfl) rfl ?_
    rintro _ w4 ⟨g4, rfl, B4, hg4, ex⟩
    replace HA := HA.ext ex
    replace E := E.ext ex
    replace RW := RW.ext ex
    have S4 := bss_one B4 HA
    have hs4 := E.size
    refine wl_call Try.func55 rfl rfl rfl (lof_any _ 1 1 _ _ S4 (by omega) (by rw [f1]; omega)) rfl ?_
    rintro e w5 ⟨g5, rfl, hg5, B5, ex⟩
    refine ⟨_, rfl, ?_⟩
    replace HA := HA.ext ex
    replace E := E.ext ex
    replace RW := RW.ext ex
    rw [f1] at B5
    refine wl_y (y_move rfl) rfl ?_
    have hl5 := B5.lt
    refine wl_ef (ef_lit (z := .slice none 0 0) Try.underlying117 (by kernel_rfl) rfl rfl rfl rfl rfl) rfl ?_
    rintro _ w6 ⟨g6, rfl, B6, hg6, ex⟩
    replace HA := HA.ext ex
    replace E := E.ext ex
    replace RW := RW.ext ex
    replace B5 := B5.ext ex
    have S6 := bss_one B6 HA
    have hl6 := B5.lt
    refine wl_call Try.func55 rfl rfl rfl (lof_any _ 1 1 _ _ S6 (by omega) (by rw [f1]; omega)) rfl ?_
    rintro e w7 ⟨g7, rfl, hg7, B7, ex⟩
    refine ⟨_, rfl, ?_⟩
    replace HA := HA.ext ex
    replace E := E.ext ex
    replace RW := RW.ext ex
    replace B5 := B5.ext ex
    rw [f1] at B7; have hz6 := ex.size
    refine wl_y (y_assign rfl) rfl ?_
    refine wl_y (y_assign rfl) rfl ?_
    refine wl_nil ?_
    refine wq_then_norm (hK8 ?_)
    refine wc_seq ?_; intro K9 hK9
    refine wc_seq ?_; intro K10 hK10
    refine wc_region ?_
    refine wl_y (y_move rfl) rfl ?_
    refine wl_y (y_len_slice rfl Try.underlying22) rfl ?_
    refine wl_y (Y.as (y_neq rfl rfl) (congrArg Value.bool (decide_eq_false (by simp)))) rfl ?_
    refine wl_y (y_move rfl) rfl ?_
    refine wl_gy 23 rfl rfl (y_move rfl) rfl ?_
    refine wl_gy 23 rfl rfl (y_move rfl) rfl ?_
    refine wl_gcall 23 rfl rfl Try.func53 rfl rfl rfl (lsame_any _ _ 64 64 64 64 _ _ _ (bs_blk' B5 (Lng.sum_length _)) (bs_blk' B7 (Lng.sum_length _)) (by omega) (by omega)) rfl ?_
    rintro e w8 ⟨rfl, ex⟩
    refine ⟨_, rfl, ?_⟩
    replace HA := HA.ext ex
    replace E := E.ext ex
    replace RW := RW.ext ex
    replace B5 := B5.ext ex
    replace B7 := B7.ext ex
    rw [decide_eq_true rfl]
    refine wl_gy 23 rfl rfl (y_not rfl) rfl ?_
    refine wl_y (y_pickf rfl rfl) rfl ?_
    refine wl_y (y_move rfl) rfl ?_
    refine wl_gy 29 rfl rfl (y_move rfl) rfl ?_
    refine wl_gy 29 rfl rfl (y_move rfl) rfl ?_
    refine wl_gcall 29 rfl rfl Try.func53 rfl rfl rfl (lsame_any A AW n n c cw xs xs _ HA RW.bs (by omega) (by omega)) rfl ?_
    rintro e w9 ⟨rfl, ex⟩
    refine ⟨_, rfl, ?_⟩
    replace HA := HA.ext ex
    replace E := E.ext ex
    replace RW := RW.ext ex
    replace B5 := B5.ext ex
    replace B7 := B7.ext ex
    rw [decide_eq_true rfl]
    refine wl_gy 29 rfl rfl (y_not rfl) rfl ?_
    refine wl_y (y_pickf rfl rfl) rfl ?_
    refine wl_nil ?_
    refine wq_then_norm (hK10 ?_)
    refine wc_false rfl rfl ?_
    refine wc_skip ?_
    refine wq_then_norm (hK9 ?_)
    refine wc_seq ?_; intro K11 hK11
    have hx0 := ((Lng.sum xs).getD 0 0).toNat_lt
    refine wc_region ?_
    refine wl_y (y_move rfl) rfl ?_
    refine wl_y (y_move rfl) rfl ?_
    refine wl_y (y_ixs1 rfl rfl Try.underlying22 (by kernel_rfl) (j := 0) rfl (by omega)) rfl ?_
    refine wl_y (y_load1 rfl Try.underlying5 rfl (B5.get (i := 0 + 0) (bys_get (by rw [Lng.sum_length]; omega)))) rfl ?_
    refine wl_y (y_xor rfl rfl (bits_u8 (q := 255) (by omega) (by omega)).2.2) rfl ?_
    refine wl_y (y_ixs1 rfl rfl Try.underlying22 (by kernel_rfl) (j := 0) rfl (by omega)) rfl ?_
    refine wl_ef (ef_storeB rfl rfl rfl (by kernel_rfl) B5 (by rw [bys_size, Lng.sum_length]; omega)) rfl ?_
    rintro _ w10 ⟨rfl, B10, cg⟩
    replace E := E.chg cg (by omega); have HA := HA0.wk E; replace B7 := B7.chg cg (by omega)
    refine wl_nil ?_
    refine wq_then_norm (hK11 ?_)
    refine wc_seq ?_; intro K12 hK12
    refine wc_region ?_
    refine wl_y (y_move rfl) rfl ?_
    refine wl_ef (ef_lit (z := .slice none 0 0) Try.underlying117 (by kernel_rfl) rfl rfl rfl rfl rfl) rfl ?_
    rintro _ w11 ⟨g11, rfl, B11, hg11, ex⟩
    replace HA := HA.ext ex
    replace E := E.ext ex
    replace B7 := B7.ext ex
    have S11 := bss_one B11 HA
    refine wl_call Try.func55 rfl rfl rfl (lof_any _ 1 1 _ _ S11 (by omega) (by rw [f1]; omega)) rfl ?_
    rintro e w12 ⟨g12, rfl, hg12, B12, ex⟩
    refine ⟨_, rfl, ?_⟩
    replace HA := HA.ext ex
    replace E := E.ext ex
    replace B7 := B7.ext ex
    rw [f1] at B12
    refine wl_y (y_move rfl) rfl ?_
    refine wl_call Try.func53 rfl rfl rfl (lsame_any _ _ 64 64 64 64 _ _ _ (bs_blk' B12 (Lng.sum_length _)) (bs_blk' B7 (Lng.sum_length _)) (by omega) (by omega)) rfl ?_
    rintro e w13 ⟨rfl, ex⟩
    refine ⟨_, rfl, ?_⟩
    replace HA := HA.ext ex
    replace E := E.ext ex
    replace B7 := B7.ext ex
    replace B12 := B12.ext ex
    rw [decide_eq_true rfl]
    refine wl_y (y_move rfl) rfl ?_
    refine wl_gcall 46 rfl rfl Try.func55 rfl rfl rfl (lof_any none 0 0 [] _ ⟨rfl, [], rfl, At.nil, fun i hi => by omega⟩ (by omega) (by simp)) rfl ?_
    rintro e w14 ⟨g14, rfl, hg14, B14, ex⟩
    refine ⟨_, rfl, ?_⟩
    replace HA := HA.ext ex
    replace E := E.ext ex
    replace B7 := B7.ext ex
    replace B12 := B12.ext ex
    skip
    refine wl_gy 46 rfl rfl (y_len_slice rfl Try.underlying22) rfl ?_
    refine wl_gy 46 rfl rfl (Y.as (y_eql rfl rfl) (congrArg Value.bool (decide_eq_true rfl))) rfl ?_
    refine wl_y (y_pickt rfl rfl) rfl ?_
    refine wl_y (y_assign rfl) rfl ?_
    refine wl_nil ?_
    refine wq_then_norm (hK12 ?_)
    refine wc_ret ?_
    refine hret rfl ?_
    exact ⟨rfl, E⟩
theorem wh_le {wh n k : Nat} (hk : k = 2 ∨ k = 3) (hn : n ≤ 1048576) (h : (wh + 1) ^ k ≤ n) : wh + 1 ≤ 1024 := by
  apply Classical.byContradiction
  intro hc
  have h1 : 1025 ^ k ≤ (wh + 1) ^ k := Nat.pow_le_pow_left (by omega) k
  rcases hk with rfl | rfl <;> simp only [Nat.reducePow] at h1 <;> omega
theorem pow2_le {wh n k S : Nat} (hk : k = 2) (hS : S = (wh + 1) * (wh + 1)) (h : S ≤ n) : (wh + 1) ^ k ≤ n := by subst hk; rw [Nat.pow_two, ← hS]; exact h
theorem pow3_le {wh n k S C : Nat} (hk : k = 3) (hS : S = (wh + 1) * (wh + 1)) (hC : C = S * (wh + 1)) (h : C ≤ n) : (wh + 1) ^ k ≤ n := by subst hk; rw [Nat.pow_succ, Nat.pow_two, ← hS, ← hC]; exact h
theorem pow2_gt {wh n k S : Nat} (hk : k = 2) (hS : S = (wh + 1) * (wh + 1)) (h : n < S) : n < (wh + 1) ^ k := by subst hk; rw [Nat.pow_two, ← hS]; exact h
theorem pow3_gt {wh n k S C : Nat} (hk : k = 3) (hS : S = (wh + 1) * (wh + 1)) (hC : C = S * (wh + 1)) (h : n < C) : n < (wh + 1) ^ k := by subst hk; rw [Nat.pow_succ, Nat.pow_two, ← hS, ← hC]; exact h
theorem longRoots_ok (n kn : Nat) (w : World) (hn : n < 18446744073709551616) (hn2 : n ≤ 1048576) (hkn : kn = 2 ∨ kn = 3) :
    Calls Try.prog 4 #[.int .u64 (n : Int), .int .i64 (kn : Int)] w fun e w' => e = .returned (.bool true) ∧ Ext w w' := by
  have E := Ext.refl w
  obtain ⟨f1, f2⟩ := Lng.full_spec hkn hn2
  obtain ⟨y, hy⟩ : ∃ y, y = Lng.full n kn := ⟨_, rfl⟩
  obtain ⟨T, hT⟩ : ∃ T, T = n * 2 ^ (64 * kn) := ⟨_, rfl⟩
  have hxl : Lng.root n kn < 18446744073709551616 := Nat.mod_lt _ (by omega)
  have hr : Lng.root n kn = y % 18446744073709551616 := by rw [hy]; rfl
  rw [← hy, ← hT] at f1 f2
  refine vc_enter1 97 Try.func4 rfl rfl rfl rfl ?_
  intro Q hret
  refine wc_seq ?_; intro K1 hK1
  refine wc_region ?_
  refine wl_y (y_assign rfl) rfl ?_
  refine wl_nil ?_
  refine wq_then_norm (hK1 ?_)
  refine wc_seq ?_; intro K2 hK2
  refine wc_seq ?_; intro K3 hK3
  refine wc_region ?_
  refine wl_call Try.func37 rfl rfl rfl (alive3_any _) rfl ?_
  rintro e w1 ⟨rfl, ex⟩
  refine ⟨_, rfl, ?_⟩
  replace E := E.ext ex
  refine wl_y (y_not rfl) rfl ?_
  refine wl_nil ?_
  refine wq_then_norm (hK3 ?_)
  refine wc_false rfl rfl ?_
  refine wc_skip ?_
  refine wq_then_norm (hK2 ?_)
  refine wc_seq ?_; intro K4 hK4
  refine wc_region ?_
  refine wl_y (y_move rfl) rfl ?_
  refine wl_y (y_move rfl) rfl ?_
  refine wl_call Try.func38 rfl rfl rfl (lroot_any n kn _ hn2 hkn) rfl ?_
  rintro e w2 ⟨rfl, ex⟩
  refine ⟨_, rfl, ?_⟩
  replace E := E.ext ex
  skip
  refine wl_y (y_assign rfl) rfl ?_
  refine wl_nil ?_
  refine wq_then_norm (hK4 ?_)
  refine wc_seq ?_; intro K5 hK5
  refine wc_seq ?_; intro K6 hK6
  refine wc_region ?_
  refine wl_y (y_move rfl) rfl ?_
  refine wl_y (Y.as (y_lss rfl rfl) (congrArg Value.bool (decide_eq_false (by omega)))) rfl ?_
  refine wl_y (y_move rfl) rfl ?_
  refine wl_gy 19 rfl rfl (y_move rfl) rfl ?_
  refine wl_gy 19 rfl rfl (Y.as (y_gtr rfl rfl) (congrArg Value.bool (decide_eq_false (by omega)))) rfl ?_
  refine wl_y (y_pickf rfl rfl) rfl ?_
  refine wl_y (y_move rfl) rfl ?_
  refine wl_gy 23 rfl rfl (y_move rfl) rfl ?_
  refine wl_gy 23 rfl rfl (Y.as (y_gtr rfl rfl) (congrArg Value.bool (decide_eq_false (by omega)))) rfl ?_
  refine wl_y (y_pickf rfl rfl) rfl ?_
  refine wl_nil ?_
  refine wq_then_norm (hK6 ?_)
  refine wc_false rfl rfl ?_
  refine wc_skip ?_
  refine wq_then_norm (hK5 ?_)
  refine wc_seq ?_; intro K7 hK7
  refine wc_region ?_
  refine wl_y (y_move rfl) rfl ?_
  refine wl_call Try.func24 rfl rfl rfl (num_any n _ hn) rfl ?_
  rintro e w3 ⟨A3, n3, c3, rfl, H3, _, ex⟩
  refine ⟨_, rfl, ?_⟩
  replace E := E.ext ex
  have l3 := H3.len; have b3 := Big.digs_length_le n 5 (by omega)
  refine wl_y (y_move rfl) rfl ?_
  refine wl_y (y_mul rfl rfl (i64_nat (n := 64 * kn) (by omega) (by omega))) rfl ?_
  refine wl_call Try.func40 rfl rfl rfl (pow_any (64 * kn) _ (by omega)) rfl ?_
  rintro e w4 ⟨A4, n4, c4, rfl, H4, b4, _, ex⟩
  refine ⟨_, rfl, ?_⟩
  replace E := E.ext ex
  replace H3 := H3.ext ex
  skip
  refine wl_call Try.func39 rfl rfl rfl (mul_any A3 A4 n3 c3 n4 c4 n (2 ^ (64 * kn)) _ H3 H4 (by omega) (by omega)) rfl ?_
  rintro e w5 ⟨A5, n5, c5, rfl, H5, b5, _, ex⟩
  refine ⟨_, rfl, ?_⟩
  replace E := E.ext ex
  replace H3 := H3.ext ex
  replace H4 := H4.ext ex
  rw [← hT] at H5
  refine wl_y (y_assign rfl) rfl ?_
  refine wl_nil ?_
  refine wq_then_norm (hK7 ?_)
  refine wc_seq ?_; intro K8 hK8
  refine wc_region ?_
  refine wl_y (y_assign rfl) rfl ?_
  refine wl_nil ?_
  refine wq_then_norm (hK8 ?_)
  refine wc_seq ?_; intro K9 hK9
  refine wc_block ?_
  refine wc_loop (fun n' L wr => ∃ wh : Nat, L = [(0, .int .u64 (n : Int)), (1, .int .i64 (kn : Int)), (5, .int .u64 ((Lng.root n kn : Nat) : Int)), (6, .slice A5 n5 c5), (7, .int .u64 (wh : Int))] ∧ n' = 1025 - wh ∧ (wh ≤ 1024 ∧ wh ^ kn ≤ n ∧ Ext w wr ∧ Bg wr A5 n5 T)) _ _ ⟨0, rfl, rfl, by omega, (by rcases hkn with rfl | rfl <;> simp), E, H5⟩ ⟨(by first | rfl | exact congrArg some (int_val (by omega))), (by first | rfl | exact congrArg some (int_val (by omega))), (by first | rfl | exact congrArg some (int_val (by omega))), rfl, (by first | rfl | exact congrArg some (int_val (by omega))), trivial⟩ ?_
  rintro KL1 n' L wr ⟨wh, rfl, rfl, hwl, hwk, E, H5⟩ hL1
  refine wc_seq ?_; intro K10 hK10
  refine wc_seq ?_; intro K11 hK11
  obtain ⟨S, hS⟩ : ∃ S, S = (wh + 1) * (wh + 1) := ⟨_, rfl⟩
  have hSl : S ≤ 1050625 := by rw [hS]; exact Nat.mul_le_mul (show wh + 1 ≤ 1025 by omega) (show wh + 1 ≤ 1025 by omega)
  obtain ⟨C, hC⟩ : ∃ C, C = S * (wh + 1) := ⟨_, rfl⟩
  have hCl : C ≤ 1050625 * 1025 := by rw [hC]; exact Nat.mul_le_mul hSl (show wh + 1 ≤ 1025 by omega)
  refine wc_region ?_
  refine wl_y (y_move rfl) rfl ?_
  refine wl_y (y_add rfl rfl (u64_nat (n := wh + 1) (by omega) (by omega))) rfl ?_
  refine wl_y (y_move rfl) rfl ?_
  refine wl_y (y_add rfl rfl (u64_nat (n := wh + 1) (by omega) (by omega))) rfl ?_
  refine wl_y (y_mul rfl rfl (u64_nat (n := S) (by rw [hS]; exact (Int.natCast_mul _ _).symm) (by omega))) rfl ?_
  refine wl_y (y_move rfl) rfl ?_
  refine wl_yask (y_leq rfl rfl) rfl (fun h6 => ?_) (fun h6 => ?_)
  · skip
    refine wl_y (y_move rfl) rfl ?_
    refine wl_gy 42 rfl rfl (y_move rfl) rfl ?_
    refine wl_gyask 42 rfl rfl (y_eql rfl rfl) rfl (fun h9 => ?_) (fun h9 => ?_)
    · skip
      refine wl_y (y_pickt rfl rfl) rfl ?_
      refine wl_y (y_move rfl) rfl ?_
      refine wl_gno 46 rfl rfl rfl rfl ?_
      refine wl_gno 46 rfl rfl rfl rfl ?_
      refine wl_gno 46 rfl rfl rfl rfl ?_
      refine wl_gun 49 rfl rfl rfl ?_
      refine wl_gun 49 rfl rfl rfl ?_
      refine wl_gun 49 rfl rfl rfl ?_
      refine wl_gun 49 rfl rfl rfl ?_
      refine wl_gun 49 rfl rfl rfl ?_
      refine wl_gun 49 rfl rfl rfl ?_
      refine wl_gun 49 rfl rfl rfl ?_
      refine wl_gun 49 rfl rfl rfl ?_
      refine wl_gun 49 rfl rfl rfl ?_
      refine wl_gun 49 rfl rfl rfl ?_
      refine wl_gno 46 rfl rfl rfl rfl ?_
      refine wl_y (y_pickt rfl rfl) rfl ?_
      refine wl_nil ?_
      refine wq_then_norm (hK11 ?_)
      refine wc_true rfl rfl ?_
      refine wc_skip ?_
      refine wq_then_norm (hK10 ?_)
      refine wc_block ?_
      refine wc_region ?_
      refine wl_y (y_move rfl) rfl ?_
      refine wl_y (y_add rfl rfl (u64_nat (n := wh + 1) (by omega) (by omega))) rfl ?_
      refine wl_y (y_assign rfl) rfl ?_
      refine wl_nil ?_
      refine wq_blk_norm ?_
      refine wq_then_norm ?_
      have hp : (wh + 1) ^ kn ≤ n := pow2_le (by omega) hS (by omega)
      refine hL1 _ _ ⟨wh + 1, rfl, rfl, wh_le hkn hn2 hp, hp, E, H5⟩ (by omega) ⟨(by first | rfl | exact congrArg some (int_val (by omega))), (by first | rfl | exact congrArg some (int_val (by omega))), (by first | rfl | exact congrArg some (int_val (by omega))), rfl, (by first | rfl | exact congrArg some (int_val (by omega))), trivial⟩
    · skip
      refine wl_y (y_pickt rfl rfl) rfl ?_
      refine wl_y (y_move rfl) rfl ?_
      refine wl_gy 46 rfl rfl (y_move rfl) rfl ?_
      refine wl_gyask 46 rfl rfl (y_eql rfl rfl) rfl (fun h13 => ?_) (fun h13 => ?_)
      · skip
        refine wl_gy 46 rfl rfl (y_move rfl) rfl ?_
        refine wl_gy 49 rfl rfl (y_move rfl) rfl ?_
        refine wl_gy 49 rfl rfl (y_add rfl rfl (u64_nat (n := wh + 1) (by omega) (by omega))) rfl ?_
        refine wl_gy 49 rfl rfl (y_move rfl) rfl ?_
        refine wl_gy 49 rfl rfl (y_add rfl rfl (u64_nat (n := wh + 1) (by omega) (by omega))) rfl ?_
        refine wl_gy 49 rfl rfl (y_mul rfl rfl (u64_nat (n := S) (by rw [hS]; exact (Int.natCast_mul _ _).symm) (by omega))) rfl ?_
        refine wl_gy 49 rfl rfl (y_move rfl) rfl ?_
        refine wl_gy 49 rfl rfl (y_add rfl rfl (u64_nat (n := wh + 1) (by omega) (by omega))) rfl ?_
        refine wl_gy 49 rfl rfl (y_mul rfl rfl (u64_nat (n := C) (by rw [hC]; exact (Int.natCast_mul _ _).symm) (by omega))) rfl ?_
        refine wl_gy 49 rfl rfl (y_move rfl) rfl ?_
        refine wl_gyask 49 rfl rfl (y_leq rfl rfl) rfl (fun h24 => ?_) (fun h24 => ?_)
        · skip
          refine wl_gy 46 rfl rfl (y_pickt rfl rfl) rfl ?_
          refine wl_y (y_pickf rfl rfl) rfl ?_
          refine wl_nil ?_
          refine wq_then_norm (hK11 ?_)
          refine wc_true rfl rfl ?_
          refine wc_skip ?_
          refine wq_then_norm (hK10 ?_)
          refine wc_block ?_
          refine wc_region ?_
          refine wl_y (y_move rfl) rfl ?_
          refine wl_y (y_add rfl rfl (u64_nat (n := wh + 1) (by omega) (by omega))) rfl ?_
          refine wl_y (y_assign rfl) rfl ?_
          refine wl_nil ?_
          refine wq_blk_norm ?_
          refine wq_then_norm ?_
          have hp : (wh + 1) ^ kn ≤ n := pow3_le (by omega) hS hC (by omega)
          refine hL1 _ _ ⟨wh + 1, rfl, rfl, wh_le hkn hn2 hp, hp, E, H5⟩ (by omega) ⟨(by first | rfl | exact congrArg some (int_val (by omega))), (by first | rfl | exact congrArg some (int_val (by omega))), (by first | rfl | exact congrArg some (int_val (by omega))), rfl, (by first | rfl | exact congrArg some (int_val (by omega))), trivial⟩
        · skip
          refine wl_gy 46 rfl rfl (y_pickt rfl rfl) rfl ?_
          refine wl_y (y_pickf rfl rfl) rfl ?_
          refine wl_nil ?_
          refine wq_then_norm (hK11 ?_)
          refine wc_false rfl rfl ?_
          refine wc_exit ?_
          refine wq_then_exit ?_
          refine wq_then_exit ?_
          refine wq_blk_hit ?_
          refine wq_then_norm (hK9 ?_)
          refine wc_seq ?_; intro K12 hK12
          have hnp : n < (wh + 1) ^ kn := pow3_gt (by omega) hS hC (by omega)
          refine wc_region ?_
          refine wl_y (y_move rfl) rfl ?_
          have hw : y / 18446744073709551616 = wh := Lng.whole_unique hkn hwk hnp (by rw [← hT]; exact f1) (by rw [← hT]; exact f2)
          have hyy : wh * 2 ^ 64 + Lng.root n kn = y := by rw [hr, show (2 : Nat) ^ 64 = 18446744073709551616 from rfl]; omega
          refine wl_call Try.func24 rfl rfl rfl (num_any wh _ (by omega)) rfl ?_
          rintro e w6 ⟨A6, n6, c6, rfl, H6, _, ex⟩
          refine ⟨_, rfl, ?_⟩
          replace E := E.ext ex
          replace H5 := H5.ext ex
          have l6 := H6.len; have b6 := Big.digs_length_le wh 5 (by omega)
          refine wl_call Try.func40 rfl rfl rfl (pow_any 64 _ (by omega)) rfl ?_
          rintro e w7 ⟨A7, n7, c7, rfl, H7, b7, _, ex⟩
          refine ⟨_, rfl, ?_⟩
          replace E := E.ext ex
          replace H5 := H5.ext ex
          replace H6 := H6.ext ex
          skip
          refine wl_call Try.func39 rfl rfl rfl (mul_any A6 A7 n6 c6 n7 c7 wh (2 ^ 64) _ H6 H7 (by omega) (by omega)) rfl ?_
          rintro e w8 ⟨A8, n8, c8, rfl, H8, b8, _, ex⟩
          refine ⟨_, rfl, ?_⟩
          replace E := E.ext ex
          replace H5 := H5.ext ex
          replace H6 := H6.ext ex
          replace H7 := H7.ext ex
          skip
          refine wl_y (y_move rfl) rfl ?_
          refine wl_call Try.func24 rfl rfl rfl (num_any (Lng.root n kn) _ hxl) rfl ?_
          rintro e w9 ⟨A9, n9, c9, rfl, H9, _, ex⟩
          refine ⟨_, rfl, ?_⟩
          replace E := E.ext ex
          replace H5 := H5.ext ex
          replace H8 := H8.ext ex
          have l9 := H9.len; have b9 := Big.digs_length_le (Lng.root n kn) 5 (by omega)
          refine wl_call Try.func41 rfl rfl rfl (add_any A8 A9 n8 c8 n9 c9 _ _ _ H8 H9 (by omega) (by omega)) rfl ?_
          rintro e w10 ⟨A10, n10, c10, rfl, H10, b10, _, ex⟩
          refine ⟨_, rfl, ?_⟩
          replace E := E.ext ex
          replace H5 := H5.ext ex
          replace H8 := H8.ext ex
          replace H9 := H9.ext ex
          rw [hyy] at H10
          refine wl_y (y_assign rfl) rfl ?_
          refine wl_nil ?_
          refine wq_then_norm (hK12 ?_)
          refine wc_seq ?_; intro K13 hK13
          refine wc_region ?_
          refine wl_y (y_move rfl) rfl ?_
          refine wl_call Try.func24 rfl rfl rfl (num_any 1 _ (by omega)) rfl ?_
          rintro e w11 ⟨A11, n11, c11, rfl, H11, _, ex⟩
          refine ⟨_, rfl, ?_⟩
          replace E := E.ext ex
          replace H5 := H5.ext ex
          replace H10 := H10.ext ex
          have l11 := H11.len; have b11 := Big.digs_length_le 1 5 (by omega)
          refine wl_call Try.func41 rfl rfl rfl (add_any A10 A11 n10 c10 n11 c11 y 1 _ H10 H11 (by omega) (by omega)) rfl ?_
          rintro e w12 ⟨A12, n12, c12, rfl, H12, b12, _, ex⟩
          refine ⟨_, rfl, ?_⟩
          replace E := E.ext ex
          replace H5 := H5.ext ex
          replace H10 := H10.ext ex
          replace H11 := H11.ext ex
          obtain ⟨z, hz⟩ : ∃ z, z = y + 1 := ⟨_, rfl⟩
          rw [← hz] at H12 f2 
          refine wl_y (y_assign rfl) rfl ?_
          refine wl_nil ?_
          refine wq_then_norm (hK13 ?_)
          refine wc_seq ?_; intro K14 hK14
          refine wc_region ?_
          refine wl_y (y_move rfl) rfl ?_
          refine wl_y (y_move rfl) rfl ?_
          refine wl_call Try.func39 rfl rfl rfl (mul_any A10 A10 n10 c10 n10 c10 y y _ H10 H10 (by omega) (by omega)) rfl ?_
          rintro e w13 ⟨A13, n13, c13, rfl, H13, b13, _, ex⟩
          refine ⟨_, rfl, ?_⟩
          replace E := E.ext ex
          replace H5 := H5.ext ex
          replace H10 := H10.ext ex
          replace H12 := H12.ext ex
          skip
          refine wl_y (y_move rfl) rfl ?_
          refine wl_y (y_move rfl) rfl ?_
          refine wl_call Try.func39 rfl rfl rfl (mul_any A12 A12 n12 c12 n12 c12 z z _ H12 H12 (by omega) (by omega)) rfl ?_
          rintro e w14 ⟨A14, n14, c14, rfl, H14, b14, _, ex⟩
          refine ⟨_, rfl, ?_⟩
          replace E := E.ext ex
          replace H5 := H5.ext ex
          replace H10 := H10.ext ex
          replace H12 := H12.ext ex
          replace H13 := H13.ext ex
          skip
          refine wl_y (y_assign rfl) rfl ?_
          refine wl_y (y_assign rfl) rfl ?_
          refine wl_nil ?_
          refine wq_then_norm (hK14 ?_)
          refine wc_seq ?_; intro K15 hK15
          refine wc_seq ?_; intro K16 hK16
          refine wc_region ?_
          refine wl_y (y_move rfl) rfl ?_
          refine wl_y (y_eql rfl rfl) rfl ?_
          refine wl_nil ?_
          refine wq_then_norm (hK16 ?_)
          refine wc_dec rfl (fun hc4 => ?_) (fun hc4 => ?_)
          · skip
            refine wc_seq ?_; intro K17 hK17
            refine wc_region ?_
            refine wl_y (y_move rfl) rfl ?_
            refine wl_y (y_move rfl) rfl ?_
            refine wl_call Try.func39 rfl rfl rfl (mul_any A13 A10 n13 c13 n10 c10 (y * y) y _ H13 H10 (by omega) (by omega)) rfl ?_
            rintro e w15 ⟨A15, n15, c15, rfl, H15, b15, _, ex⟩
            refine ⟨_, rfl, ?_⟩
            replace E := E.ext ex
            replace H5 := H5.ext ex
            replace H10 := H10.ext ex
            replace H12 := H12.ext ex
            replace H13 := H13.ext ex
            replace H14 := H14.ext ex
            skip
            refine wl_y (y_assign rfl) rfl ?_
            refine wl_nil ?_
            refine wq_then_norm (hK17 ?_)
            refine wc_region ?_
            refine wl_y (y_move rfl) rfl ?_
            refine wl_y (y_move rfl) rfl ?_
            refine wl_call Try.func39 rfl rfl rfl (mul_any A14 A12 n14 c14 n12 c12 (z * z) z _ H14 H12 (by omega) (by omega)) rfl ?_
            rintro e w16 ⟨A16, n16, c16, rfl, H16, b16, _, ex⟩
            refine ⟨_, rfl, ?_⟩
            replace E := E.ext ex
            replace H5 := H5.ext ex
            replace H10 := H10.ext ex
            replace H12 := H12.ext ex
            replace H13 := H13.ext ex
            replace H14 := H14.ext ex
            replace H15 := H15.ext ex
            skip
            refine wl_y (y_assign rfl) rfl ?_
            refine wl_nil ?_
            refine wq_then_norm (hK15 ?_)
            refine wc_seq ?_; intro K18 hK18
            refine wc_region ?_
            refine wl_y (y_move rfl) rfl ?_
            refine wl_y (y_move rfl) rfl ?_
            refine wl_call Try.func42 rfl rfl rfl (less_any A5 A15 n5 c5 n15 c15 T (y * y * y) _ H5 H15 (by omega) (by omega)) rfl ?_
            rintro e w17 ⟨rfl, ex⟩
            refine ⟨_, rfl, ?_⟩
            replace E := E.ext ex
            replace H5 := H5.ext ex
            replace H10 := H10.ext ex
            replace H12 := H12.ext ex
            replace H13 := H13.ext ex
            replace H14 := H14.ext ex
            replace H15 := H15.ext ex
            replace H16 := H16.ext ex
            rw [decide_eq_false (by obtain rfl : kn = 3 := (by omega); rw [Nat.pow_succ, Nat.pow_two] at f1; omega)]
            refine wl_y (y_not rfl) rfl ?_
            refine wl_y (y_move rfl) rfl ?_
            refine wl_gy 92 rfl rfl (y_move rfl) rfl ?_
            refine wl_gy 92 rfl rfl (y_move rfl) rfl ?_
            refine wl_gcall 92 rfl rfl Try.func42 rfl rfl rfl (less_any A5 A16 n5 c5 n16 c16 T (z * z * z) _ H5 H16 (by omega) (by omega)) rfl ?_
            rintro e w18 ⟨rfl, ex⟩
            refine ⟨_, rfl, ?_⟩
            replace E := E.ext ex
            replace H5 := H5.ext ex
            replace H10 := H10.ext ex
            replace H12 := H12.ext ex
            replace H13 := H13.ext ex
            replace H14 := H14.ext ex
            replace H15 := H15.ext ex
            replace H16 := H16.ext ex
            rw [decide_eq_true (by obtain rfl : kn = 3 := (by omega); rw [Nat.pow_succ, Nat.pow_two] at f2; exact f2)]
            refine wl_y (y_pickt rfl rfl) rfl ?_
            refine wl_y (y_assign rfl) rfl ?_
            refine wl_nil ?_
            refine wq_then_norm (hK18 ?_)
            refine wc_ret ?_
            refine hret rfl ?_
            exact ⟨rfl, E⟩
          · skip
            refine wc_skip ?_
            refine wq_then_norm (hK15 ?_)
            refine wc_seq ?_; intro K19 hK19
            refine wc_region ?_
            refine wl_y (y_move rfl) rfl ?_
            refine wl_y (y_move rfl) rfl ?_
            refine wl_call Try.func42 rfl rfl rfl (less_any A5 A13 n5 c5 n13 c13 T (y * y) _ H5 H13 (by omega) (by omega)) rfl ?_
            rintro e w17 ⟨rfl, ex⟩
            refine ⟨_, rfl, ?_⟩
            replace E := E.ext ex
            replace H5 := H5.ext ex
            replace H10 := H10.ext ex
            replace H12 := H12.ext ex
            replace H13 := H13.ext ex
            replace H14 := H14.ext ex
            rw [decide_eq_false (by obtain rfl : kn = 2 := (by omega); rw [Nat.pow_two] at f1; omega)]
            refine wl_y (y_not rfl) rfl ?_
            refine wl_y (y_move rfl) rfl ?_
            refine wl_gy 92 rfl rfl (y_move rfl) rfl ?_
            refine wl_gy 92 rfl rfl (y_move rfl) rfl ?_
            refine wl_gcall 92 rfl rfl Try.func42 rfl rfl rfl (less_any A5 A14 n5 c5 n14 c14 T (z * z) _ H5 H14 (by omega) (by omega)) rfl ?_
            rintro e w18 ⟨rfl, ex⟩
            refine ⟨_, rfl, ?_⟩
            replace E := E.ext ex
            replace H5 := H5.ext ex
            replace H10 := H10.ext ex
            replace H12 := H12.ext ex
            replace H13 := H13.ext ex
            replace H14 := H14.ext ex
            rw [decide_eq_true (by obtain rfl : kn = 2 := (by omega); rw [Nat.pow_two] at f2; exact f2)]
            refine wl_y (y_pickt rfl rfl) rfl ?_
            refine wl_y (y_assign rfl) rfl ?_
            refine wl_nil ?_
            refine wq_then_norm (hK19 ?_)
            refine wc_ret ?_
            refine hret rfl ?_
            exact ⟨rfl, E⟩
      · skip
        exfalso; omega
  · skip
    refine wl_y (y_move rfl) rfl ?_
    refine wl_gno 42 rfl rfl rfl rfl ?_
    refine wl_gno 42 rfl rfl rfl rfl ?_
    refine wl_y (y_pickf rfl rfl) rfl ?_
    refine wl_y (y_move rfl) rfl ?_
    refine wl_gy 46 rfl rfl (y_move rfl) rfl ?_
    refine wl_gyask 46 rfl rfl (y_eql rfl rfl) rfl (fun h13 => ?_) (fun h13 => ?_)
    · skip
      refine wl_gy 46 rfl rfl (y_move rfl) rfl ?_
      refine wl_gy 49 rfl rfl (y_move rfl) rfl ?_
      refine wl_gy 49 rfl rfl (y_add rfl rfl (u64_nat (n := wh + 1) (by omega) (by omega))) rfl ?_
      refine wl_gy 49 rfl rfl (y_move rfl) rfl ?_
      refine wl_gy 49 rfl rfl (y_add rfl rfl (u64_nat (n := wh + 1) (by omega) (by omega))) rfl ?_
      refine wl_gy 49 rfl rfl (y_mul rfl rfl (u64_nat (n := S) (by rw [hS]; exact (Int.natCast_mul _ _).symm) (by omega))) rfl ?_
      refine wl_gy 49 rfl rfl (y_move rfl) rfl ?_
      refine wl_gy 49 rfl rfl (y_add rfl rfl (u64_nat (n := wh + 1) (by omega) (by omega))) rfl ?_
      refine wl_gy 49 rfl rfl (y_mul rfl rfl (u64_nat (n := C) (by rw [hC]; exact (Int.natCast_mul _ _).symm) (by omega))) rfl ?_
      refine wl_gy 49 rfl rfl (y_move rfl) rfl ?_
      refine wl_gyask 49 rfl rfl (y_leq rfl rfl) rfl (fun h24 => ?_) (fun h24 => ?_)
      · skip
        refine wl_gy 46 rfl rfl (y_pickt rfl rfl) rfl ?_
        refine wl_y (y_pickf rfl rfl) rfl ?_
        refine wl_nil ?_
        refine wq_then_norm (hK11 ?_)
        refine wc_true rfl rfl ?_
        refine wc_skip ?_
        refine wq_then_norm (hK10 ?_)
        refine wc_block ?_
        refine wc_region ?_
        refine wl_y (y_move rfl) rfl ?_
        refine wl_y (y_add rfl rfl (u64_nat (n := wh + 1) (by omega) (by omega))) rfl ?_
        refine wl_y (y_assign rfl) rfl ?_
        refine wl_nil ?_
        refine wq_blk_norm ?_
        refine wq_then_norm ?_
        have hp : (wh + 1) ^ kn ≤ n := pow3_le (by omega) hS hC (by omega)
        refine hL1 _ _ ⟨wh + 1, rfl, rfl, wh_le hkn hn2 hp, hp, E, H5⟩ (by omega) ⟨(by first | rfl | exact congrArg some (int_val (by omega))), (by first | rfl | exact congrArg some (int_val (by omega))), (by first | rfl | exact congrArg some (int_val (by omega))), rfl, (by first | rfl | exact congrArg some (int_val (by omega))), trivial⟩
      · skip
        refine wl_gy 46 rfl rfl (y_pickt rfl rfl) rfl ?_
        refine wl_y (y_pickf rfl rfl) rfl ?_
        refine wl_nil ?_
        refine wq_then_norm (hK11 ?_)
        refine wc_false rfl rfl ?_
        refine wc_exit ?_
        refine wq_then_exit ?_
        refine wq_then_exit ?_
        refine wq_blk_hit ?_
        refine wq_then_norm (hK9 ?_)
        refine wc_seq ?_; intro K20 hK20
        have hnp : n < (wh + 1) ^ kn := pow3_gt (by omega) hS hC (by omega)
        refine wc_region ?_
        refine wl_y (y_move rfl) rfl ?_
        have hw : y / 18446744073709551616 = wh := Lng.whole_unique hkn hwk hnp (by rw [← hT]; exact f1) (by rw [← hT]; exact f2)
        have hyy : wh * 2 ^ 64 + Lng.root n kn = y := by rw [hr, show (2 : Nat) ^ 64 = 18446744073709551616 from rfl]; omega
        refine wl_call Try.func24 rfl rfl rfl (num_any wh _ (by omega)) rfl ?_
        rintro e w6 ⟨A6, n6, c6, rfl, H6, _, ex⟩
        refine ⟨_, rfl, ?_⟩
        replace E := E.ext ex
        replace H5 := H5.ext ex
        have l6 := H6.len; have b6 := Big.digs_length_le wh 5 (by omega)
        refine wl_call Try.func40 rfl rfl rfl (pow_any 64 _ (by omega)) rfl ?_
        rintro e w7 ⟨A7, n7, c7, rfl, H7, b7, _, ex⟩
        refine ⟨_, rfl, ?_⟩
        replace E := E.ext ex
        replace H5 := H5.ext ex
        replace H6 := H6.ext ex
        skip
        refine wl_call Try.func39 rfl rfl rfl (mul_any A6 A7 n6 c6 n7 c7 wh (2 ^ 64) _ H6 H7 (by omega) (by omega)) rfl ?_
        rintro e w8 ⟨A8, n8, c8, rfl, H8, b8, _, ex⟩
        refine ⟨_, rfl, ?_⟩
        replace E := E.ext ex
        replace H5 := H5.ext ex
        replace H6 := H6.ext ex
        replace H7 := H7.ext ex
        skip
        refine wl_y (y_move rfl) rfl ?_
        refine wl_call Try.func24 rfl rfl rfl (num_any (Lng.root n kn) _ hxl) rfl ?_
        rintro e w9 ⟨A9, n9, c9, rfl, H9, _, ex⟩
        refine ⟨_, rfl, ?_⟩
        replace E := E.ext ex
        replace H5 := H5.ext ex
        replace H8 := H8.ext ex
        have l9 := H9.len; have b9 := Big.digs_length_le (Lng.root n kn) 5 (by omega)
        refine wl_call Try.func41 rfl rfl rfl (add_any A8 A9 n8 c8 n9 c9 _ _ _ H8 H9 (by omega) (by omega)) rfl ?_
        rintro e w10 ⟨A10, n10, c10, rfl, H10, b10, _, ex⟩
        refine ⟨_, rfl, ?_⟩
        replace E := E.ext ex
        replace H5 := H5.ext ex
        replace H8 := H8.ext ex
        replace H9 := H9.ext ex
        rw [hyy] at H10
        refine wl_y (y_assign rfl) rfl ?_
        refine wl_nil ?_
        refine wq_then_norm (hK20 ?_)
        refine wc_seq ?_; intro K21 hK21
        refine wc_region ?_
        refine wl_y (y_move rfl) rfl ?_
        refine wl_call Try.func24 rfl rfl rfl (num_any 1 _ (by omega)) rfl ?_
        rintro e w11 ⟨A11, n11, c11, rfl, H11, _, ex⟩
        refine ⟨_, rfl, ?_⟩
        replace E := E.ext ex
        replace H5 := H5.ext ex
        replace H10 := H10.ext ex
        have l11 := H11.len; have b11 := Big.digs_length_le 1 5 (by omega)
        refine wl_call Try.func41 rfl rfl rfl (add_any A10 A11 n10 c10 n11 c11 y 1 _ H10 H11 (by omega) (by omega)) rfl ?_
        rintro e w12 ⟨A12, n12, c12, rfl, H12, b12, _, ex⟩
        refine ⟨_, rfl, ?_⟩
        replace E := E.ext ex
        replace H5 := H5.ext ex
        replace H10 := H10.ext ex
        replace H11 := H11.ext ex
        obtain ⟨z, hz⟩ : ∃ z, z = y + 1 := ⟨_, rfl⟩
        rw [← hz] at H12 f2 
        refine wl_y (y_assign rfl) rfl ?_
        refine wl_nil ?_
        refine wq_then_norm (hK21 ?_)
        refine wc_seq ?_; intro K22 hK22
        refine wc_region ?_
        refine wl_y (y_move rfl) rfl ?_
        refine wl_y (y_move rfl) rfl ?_
        refine wl_call Try.func39 rfl rfl rfl (mul_any A10 A10 n10 c10 n10 c10 y y _ H10 H10 (by omega) (by omega)) rfl ?_
        rintro e w13 ⟨A13, n13, c13, rfl, H13, b13, _, ex⟩
        refine ⟨_, rfl, ?_⟩
        replace E := E.ext ex
        replace H5 := H5.ext ex
        replace H10 := H10.ext ex
        replace H12 := H12.ext ex
        skip
        refine wl_y (y_move rfl) rfl ?_
        refine wl_y (y_move rfl) rfl ?_
        refine wl_call Try.func39 rfl rfl rfl (mul_any A12 A12 n12 c12 n12 c12 z z _ H12 H12 (by omega) (by omega)) rfl ?_
        rintro e w14 ⟨A14, n14, c14, rfl, H14, b14, _, ex⟩
        refine ⟨_, rfl, ?_⟩
        replace E := E.ext ex
        replace H5 := H5.ext ex
        replace H10 := H10.ext ex
        replace H12 := H12.ext ex
        replace H13 := H13.ext ex
        skip
        refine wl_y (y_assign rfl) rfl ?_
        refine wl_y (y_assign rfl) rfl ?_
        refine wl_nil ?_
        refine wq_then_norm (hK22 ?_)
        refine wc_seq ?_; intro K23 hK23
        refine wc_seq ?_; intro K24 hK24
        refine wc_region ?_
        refine wl_y (y_move rfl) rfl ?_
        refine wl_y (y_eql rfl rfl) rfl ?_
        refine wl_nil ?_
        refine wq_then_norm (hK24 ?_)
        refine wc_dec rfl (fun hc4 => ?_) (fun hc4 => ?_)
        · skip
          refine wc_seq ?_; intro K25 hK25
          refine wc_region ?_
          refine wl_y (y_move rfl) rfl ?_
          refine wl_y (y_move rfl) rfl ?_
          refine wl_call Try.func39 rfl rfl rfl (mul_any A13 A10 n13 c13 n10 c10 (y * y) y _ H13 H10 (by omega) (by omega)) rfl ?_
          rintro e w15 ⟨A15, n15, c15, rfl, H15, b15, _, ex⟩
          refine ⟨_, rfl, ?_⟩
          replace E := E.ext ex
          replace H5 := H5.ext ex
          replace H10 := H10.ext ex
          replace H12 := H12.ext ex
          replace H13 := H13.ext ex
          replace H14 := H14.ext ex
          skip
          refine wl_y (y_assign rfl) rfl ?_
          refine wl_nil ?_
          refine wq_then_norm (hK25 ?_)
          refine wc_region ?_
          refine wl_y (y_move rfl) rfl ?_
          refine wl_y (y_move rfl) rfl ?_
          refine wl_call Try.func39 rfl rfl rfl (mul_any A14 A12 n14 c14 n12 c12 (z * z) z _ H14 H12 (by omega) (by omega)) rfl ?_
          rintro e w16 ⟨A16, n16, c16, rfl, H16, b16, _, ex⟩
          refine ⟨_, rfl, ?_⟩
          replace E := E.ext ex
          replace H5 := H5.ext ex
          replace H10 := H10.ext ex
          replace H12 := H12.ext ex
          replace H13 := H13.ext ex
          replace H14 := H14.ext ex
          replace H15 := H15.ext ex
          skip
          refine wl_y (y_assign rfl) rfl ?_
          refine wl_nil ?_
          refine wq_then_norm (hK23 ?_)
          refine wc_seq ?_; intro K26 hK26
          refine wc_region ?_
          refine wl_y (y_move rfl) rfl ?_
          refine wl_y (y_move rfl) rfl ?_
          refine wl_call Try.func42 rfl rfl rfl (less_any A5 A15 n5 c5 n15 c15 T (y * y * y) _ H5 H15 (by omega) (by omega)) rfl ?_
          rintro e w17 ⟨rfl, ex⟩
          refine ⟨_, rfl, ?_⟩
          replace E := E.ext ex
          replace H5 := H5.ext ex
          replace H10 := H10.ext ex
          replace H12 := H12.ext ex
          replace H13 := H13.ext ex
          replace H14 := H14.ext ex
          replace H15 := H15.ext ex
          replace H16 := H16.ext ex
          rw [decide_eq_false (by obtain rfl : kn = 3 := (by omega); rw [Nat.pow_succ, Nat.pow_two] at f1; omega)]
          refine wl_y (y_not rfl) rfl ?_
          refine wl_y (y_move rfl) rfl ?_
          refine wl_gy 92 rfl rfl (y_move rfl) rfl ?_
          refine wl_gy 92 rfl rfl (y_move rfl) rfl ?_
          refine wl_gcall 92 rfl rfl Try.func42 rfl rfl rfl (less_any A5 A16 n5 c5 n16 c16 T (z * z * z) _ H5 H16 (by omega) (by omega)) rfl ?_
          rintro e w18 ⟨rfl, ex⟩
          refine ⟨_, rfl, ?_⟩
          replace E := E.ext ex
          replace H5 := H5.ext ex
          replace H10 := H10.ext ex
          replace H12 := H12.ext ex
          replace H13 := H13.ext ex
          replace H14 := H14.ext ex
          replace H15 := H15.ext ex
          replace H16 := H16.ext ex
          rw [decide_eq_true (by obtain rfl : kn = 3 := (by omega); rw [Nat.pow_succ, Nat.pow_two] at f2; exact f2)]
          refine wl_y (y_pickt rfl rfl) rfl ?_
          refine wl_y (y_assign rfl) rfl ?_
          refine wl_nil ?_
          refine wq_then_norm (hK26 ?_)
          refine wc_ret ?_
          refine hret rfl ?_
          exact ⟨rfl, E⟩
        · skip
          refine wc_skip ?_
          refine wq_then_norm (hK23 ?_)
          refine wc_seq ?_; intro K27 hK27
          refine wc_region ?_
          refine wl_y (y_move rfl) rfl ?_
          refine wl_y (y_move rfl) rfl ?_
          refine wl_call Try.func42 rfl rfl rfl (less_any A5 A13 n5 c5 n13 c13 T (y * y) _ H5 H13 (by omega) (by omega)) rfl ?_
          rintro e w17 ⟨rfl, ex⟩
          refine ⟨_, rfl, ?_⟩
          replace E := E.ext ex
          replace H5 := H5.ext ex
          replace H10 := H10.ext ex
          replace H12 := H12.ext ex
          replace H13 := H13.ext ex
          replace H14 := H14.ext ex
          rw [decide_eq_false (by obtain rfl : kn = 2 := (by omega); rw [Nat.pow_two] at f1; omega)]
          refine wl_y (y_not rfl) rfl ?_
          refine wl_y (y_move rfl) rfl ?_
          refine wl_gy 92 rfl rfl (y_move rfl) rfl ?_
          refine wl_gy 92 rfl rfl (y_move rfl) rfl ?_
          refine wl_gcall 92 rfl rfl Try.func42 rfl rfl rfl (less_any A5 A14 n5 c5 n14 c14 T (z * z) _ H5 H14 (by omega) (by omega)) rfl ?_
          rintro e w18 ⟨rfl, ex⟩
          refine ⟨_, rfl, ?_⟩
          replace E := E.ext ex
          replace H5 := H5.ext ex
          replace H10 := H10.ext ex
          replace H12 := H12.ext ex
          replace H13 := H13.ext ex
          replace H14 := H14.ext ex
          rw [decide_eq_true (by obtain rfl : kn = 2 := (by omega); rw [Nat.pow_two] at f2; exact f2)]
          refine wl_y (y_pickt rfl rfl) rfl ?_
          refine wl_y (y_assign rfl) rfl ?_
          refine wl_nil ?_
          refine wq_then_norm (hK27 ?_)
          refine wc_ret ?_
          refine hret rfl ?_
          exact ⟨rfl, E⟩
    · skip
      refine wl_gy 46 rfl rfl (y_move rfl) rfl ?_
      refine wl_gno 49 rfl rfl rfl rfl ?_
      refine wl_gno 49 rfl rfl rfl rfl ?_
      refine wl_gno 49 rfl rfl rfl rfl ?_
      refine wl_gno 49 rfl rfl rfl rfl ?_
      refine wl_gno 49 rfl rfl rfl rfl ?_
      refine wl_gno 49 rfl rfl rfl rfl ?_
      refine wl_gno 49 rfl rfl rfl rfl ?_
      refine wl_gno 49 rfl rfl rfl rfl ?_
      refine wl_gno 49 rfl rfl rfl rfl ?_
      refine wl_gno 49 rfl rfl rfl rfl ?_
      refine wl_gy 46 rfl rfl (y_pickf rfl rfl) rfl ?_
      refine wl_y (y_pickf rfl rfl) rfl ?_
      refine wl_nil ?_
      refine wq_then_norm (hK11 ?_)
      refine wc_false rfl rfl ?_
      refine wc_exit ?_
      refine wq_then_exit ?_
      refine wq_then_exit ?_
      refine wq_blk_hit ?_
      refine wq_then_norm (hK9 ?_)
      refine wc_seq ?_; intro K28 hK28
      have hnp : n < (wh + 1) ^ kn := pow2_gt (by omega) hS (by omega)
      refine wc_region ?_
      refine wl_y (y_move rfl) rfl ?_
      have hw : y / 18446744073709551616 = wh := Lng.whole_unique hkn hwk hnp (by rw [← hT]; exact f1) (by rw [← hT]; exact f2)
      have hyy : wh * 2 ^ 64 + Lng.root n kn = y := by rw [hr, show (2 : Nat) ^ 64 = 18446744073709551616 from rfl]; omega
      refine wl_call Try.func24 rfl rfl rfl (num_any wh _ (by omega)) rfl ?_
      rintro e w6 ⟨A6, n6, c6, rfl, H6, _, ex⟩
      refine ⟨_, rfl, ?_⟩
      replace E := E.ext ex
      replace H5 := H5.ext ex
      have l6 := H6.len; have b6 := Big.digs_length_le wh 5 (by omega)
      refine wl_call Try.func40 rfl rfl rfl (pow_any 64 _ (by omega)) rfl ?_
      rintro e w7 ⟨A7, n7, c7, rfl, H7, b7, _, ex⟩
      refine ⟨_, rfl, ?_⟩
      replace E := E.ext ex
      replace H5 := H5.ext ex
      replace H6 := H6.ext ex
      skip
      refine wl_call Try.func39 rfl rfl rfl (mul_any A6 A7 n6 c6 n7 c7 wh (2 ^ 64) _ H6 H7 (by omega) (by omega)) rfl ?_
      rintro e w8 ⟨A8, n8, c8, rfl, H8, b8, _, ex⟩
      refine ⟨_, rfl, ?_⟩
      replace E := E.ext ex
      replace H5 := H5.ext ex
      replace H6 := H6.ext ex
      replace H7 := H7.ext ex
      skip
      refine wl_y (y_move rfl) rfl ?_
      refine wl_call Try.func24 rfl rfl rfl (num_any (Lng.root n kn) _ hxl) rfl ?_
      rintro e w9 ⟨A9, n9, c9, rfl, H9, _, ex⟩
      refine ⟨_, rfl, ?_⟩
      replace E := E.ext ex
      replace H5 := H5.ext ex
      replace H8 := H8.ext ex
      have l9 := H9.len; have b9 := Big.digs_length_le (Lng.root n kn) 5 (by omega)
      refine wl_call Try.func41 rfl rfl rfl (add_any A8 A9 n8 c8 n9 c9 _ _ _ H8 H9 (by omega) (by omega)) rfl ?_
      rintro e w10 ⟨A10, n10, c10, rfl, H10, b10, _, ex⟩
      refine ⟨_, rfl, ?_⟩
      replace E := E.ext ex
      replace H5 := H5.ext ex
      replace H8 := H8.ext ex
      replace H9 := H9.ext ex
      rw [hyy] at H10
      refine wl_y (y_assign rfl) rfl ?_
      refine wl_nil ?_
      refine wq_then_norm (hK28 ?_)
      refine wc_seq ?_; intro K29 hK29
      refine wc_region ?_
      refine wl_y (y_move rfl) rfl ?_
      refine wl_call Try.func24 rfl rfl rfl (num_any 1 _ (by omega)) rfl ?_
      rintro e w11 ⟨A11, n11, c11, rfl, H11, _, ex⟩
      refine ⟨_, rfl, ?_⟩
      replace E := E.ext ex
      replace H5 := H5.ext ex
      replace H10 := H10.ext ex
      have l11 := H11.len; have b11 := Big.digs_length_le 1 5 (by omega)
      refine wl_call Try.func41 rfl rfl rfl (add_any A10 A11 n10 c10 n11 c11 y 1 _ H10 H11 (by omega) (by omega)) rfl ?_
      rintro e w12 ⟨A12, n12, c12, rfl, H12, b12, _, ex⟩
      refine ⟨_, rfl, ?_⟩
      replace E := E.ext ex
      replace H5 := H5.ext ex
      replace H10 := H10.ext ex
      replace H11 := H11.ext ex
      obtain ⟨z, hz⟩ : ∃ z, z = y + 1 := ⟨_, rfl⟩
      rw [← hz] at H12 f2 
      refine wl_y (y_assign rfl) rfl ?_
      refine wl_nil ?_
      refine wq_then_norm (hK29 ?_)
      refine wc_seq ?_; intro K30 hK30
      refine wc_region ?_
      refine wl_y (y_move rfl) rfl ?_
      refine wl_y (y_move rfl) rfl ?_
      refine wl_call Try.func39 rfl rfl rfl (mul_any A10 A10 n10 c10 n10 c10 y y _ H10 H10 (by omega) (by omega)) rfl ?_
      rintro e w13 ⟨A13, n13, c13, rfl, H13, b13, _, ex⟩
      refine ⟨_, rfl, ?_⟩
      replace E := E.ext ex
      replace H5 := H5.ext ex
      replace H10 := H10.ext ex
      replace H12 := H12.ext ex
      skip
      refine wl_y (y_move rfl) rfl ?_
      refine wl_y (y_move rfl) rfl ?_
      refine wl_call Try.func39 rfl rfl rfl (mul_any A12 A12 n12 c12 n12 c12 z z _ H12 H12 (by omega) (by omega)) rfl ?_
      rintro e w14 ⟨A14, n14, c14, rfl, H14, b14, _, ex⟩
      refine ⟨_, rfl, ?_⟩
      replace E := E.ext ex
      replace H5 := H5.ext ex
      replace H10 := H10.ext ex
      replace H12 := H12.ext ex
      replace H13 := H13.ext ex
      skip
      refine wl_y (y_assign rfl) rfl ?_
      refine wl_y (y_assign rfl) rfl ?_
      refine wl_nil ?_
      refine wq_then_norm (hK30 ?_)
      refine wc_seq ?_; intro K31 hK31
      refine wc_seq ?_; intro K32 hK32
      refine wc_region ?_
      refine wl_y (y_move rfl) rfl ?_
      refine wl_y (y_eql rfl rfl) rfl ?_
      refine wl_nil ?_
      refine wq_then_norm (hK32 ?_)
      refine wc_dec rfl (fun hc4 => ?_) (fun hc4 => ?_)
      · skip
        refine wc_seq ?_; intro K33 hK33
        refine wc_region ?_
        refine wl_y (y_move rfl) rfl ?_
        refine wl_y (y_move rfl) rfl ?_
        refine wl_call Try.func39 rfl rfl rfl (mul_any A13 A10 n13 c13 n10 c10 (y * y) y _ H13 H10 (by omega) (by omega)) rfl ?_
        rintro e w15 ⟨A15, n15, c15, rfl, H15, b15, _, ex⟩
        refine ⟨_, rfl, ?_⟩
        replace E := E.ext ex
        replace H5 := H5.ext ex
        replace H10 := H10.ext ex
        replace H12 := H12.ext ex
        replace H13 := H13.ext ex
        replace H14 := H14.ext ex
        skip
        refine wl_y (y_assign rfl) rfl ?_
        refine wl_nil ?_
        refine wq_then_norm (hK33 ?_)
        refine wc_region ?_
        refine wl_y (y_move rfl) rfl ?_
        refine wl_y (y_move rfl) rfl ?_
        refine wl_call Try.func39 rfl rfl rfl (mul_any A14 A12 n14 c14 n12 c12 (z * z) z _ H14 H12 (by omega) (by omega)) rfl ?_
        rintro e w16 ⟨A16, n16, c16, rfl, H16, b16, _, ex⟩
        refine ⟨_, rfl, ?_⟩
        replace E := E.ext ex
        replace H5 := H5.ext ex
        replace H10 := H10.ext ex
        replace H12 := H12.ext ex
        replace H13 := H13.ext ex
        replace H14 := H14.ext ex
        replace H15 := H15.ext ex
        skip
        refine wl_y (y_assign rfl) rfl ?_
        refine wl_nil ?_
        refine wq_then_norm (hK31 ?_)
        refine wc_seq ?_; intro K34 hK34
        refine wc_region ?_
        refine wl_y (y_move rfl) rfl ?_
        refine wl_y (y_move rfl) rfl ?_
        refine wl_call Try.func42 rfl rfl rfl (less_any A5 A15 n5 c5 n15 c15 T (y * y * y) _ H5 H15 (by omega) (by omega)) rfl ?_
        rintro e w17 ⟨rfl, ex⟩
        refine ⟨_, rfl, ?_⟩
        replace E := E.ext ex
        replace H5 := H5.ext ex
        replace H10 := H10.ext ex
        replace H12 := H12.ext ex
        replace H13 := H13.ext ex
        replace H14 := H14.ext ex
        replace H15 := H15.ext ex
        replace H16 := H16.ext ex
        rw [decide_eq_false (by obtain rfl : kn = 3 := (by omega); rw [Nat.pow_succ, Nat.pow_two] at f1; omega)]
        refine wl_y (y_not rfl) rfl ?_
        refine wl_y (y_move rfl) rfl ?_
        refine wl_gy 92 rfl rfl (y_move rfl) rfl ?_
        refine wl_gy 92 rfl rfl (y_move rfl) rfl ?_
        refine wl_gcall 92 rfl rfl Try.func42 rfl rfl rfl (less_any A5 A16 n5 c5 n16 c16 T (z * z * z) _ H5 H16 (by omega) (by omega)) rfl ?_
        rintro e w18 ⟨rfl, ex⟩
        refine ⟨_, rfl, ?_⟩
        replace E := E.ext ex
        replace H5 := H5.ext ex
        replace H10 := H10.ext ex
        replace H12 := H12.ext ex
        replace H13 := H13.ext ex
        replace H14 := H14.ext ex
        replace H15 := H15.ext ex
        replace H16 := H16.ext ex
        rw [decide_eq_true (by obtain rfl : kn = 3 := (by omega); rw [Nat.pow_succ, Nat.pow_two] at f2; exact f2)]
        refine wl_y (y_pickt rfl rfl) rfl ?_
        refine wl_y (y_assign rfl) rfl ?_
        refine wl_nil ?_
        refine wq_then_norm (hK34 ?_)
        refine wc_ret ?_
        refine hret rfl ?_
        exact ⟨rfl, E⟩
      · skip
        refine wc_skip ?_
        refine wq_then_norm (hK31 ?_)
        refine wc_seq ?_; intro K35 hK35
        refine wc_region ?_
        refine wl_y (y_move rfl) rfl ?_
        refine wl_y (y_move rfl) rfl ?_
        refine wl_call Try.func42 rfl rfl rfl (less_any A5 A13 n5 c5 n13 c13 T (y * y) _ H5 H13 (by omega) (by omega)) rfl ?_
        rintro e w17 ⟨rfl, ex⟩
        refine ⟨_, rfl, ?_⟩
        replace E := E.ext ex
        replace H5 := H5.ext ex
        replace H10 := H10.ext ex
        replace H12 := H12.ext ex
        replace H13 := H13.ext ex
        replace H14 := H14.ext ex
        rw [decide_eq_false (by obtain rfl : kn = 2 := (by omega); rw [Nat.pow_two] at f1; omega)]
        refine wl_y (y_not rfl) rfl ?_
        refine wl_y (y_move rfl) rfl ?_
        refine wl_gy 92 rfl rfl (y_move rfl) rfl ?_
        refine wl_gy 92 rfl rfl (y_move rfl) rfl ?_
        refine wl_gcall 92 rfl rfl Try.func42 rfl rfl rfl (less_any A5 A14 n5 c5 n14 c14 T (z * z) _ H5 H14 (by omega) (by omega)) rfl ?_
        rintro e w18 ⟨rfl, ex⟩
        refine ⟨_, rfl, ?_⟩
        replace E := E.ext ex
        replace H5 := H5.ext ex
        replace H10 := H10.ext ex
        replace H12 := H12.ext ex
        replace H13 := H13.ext ex
        replace H14 := H14.ext ex
        rw [decide_eq_true (by obtain rfl : kn = 2 := (by omega); rw [Nat.pow_two] at f2; exact f2)]
        refine wl_y (y_pickt rfl rfl) rfl ?_
        refine wl_y (y_assign rfl) rfl ?_
        refine wl_nil ?_
        refine wq_then_norm (hK35 ?_)
        refine wc_ret ?_
        refine hret rfl ?_
        exact ⟨rfl, E⟩
theorem longRoots_no (n : Nat) (k : Int) (w : World) (hn : n < 18446744073709551616) (h : k < 2 ∨ 3 < k ∨ 1048576 < n) :
    Calls Try.prog 4 #[.int .u64 (n : Int), .int .i64 k] w fun e w' => e = .returned (.bool true) ∧ Ext w w' := by
  have E := Ext.refl w
  refine vc_enter1 97 Try.func4 rfl rfl rfl rfl ?_
  intro Q hret
  refine wc_seq ?_; intro K1 hK1
  refine wc_region ?_
  refine wl_y (y_assign rfl) rfl ?_
  refine wl_nil ?_
  refine wq_then_norm (hK1 ?_)
  refine wc_seq ?_; intro K2 hK2
  refine wc_seq ?_; intro K3 hK3
  refine wc_region ?_
  refine wl_call Try.func37 rfl rfl rfl (alive3_any _) rfl ?_
  rintro e w1 ⟨rfl, ex⟩
  refine ⟨_, rfl, ?_⟩
  replace E := E.ext ex
  refine wl_y (y_not rfl) rfl ?_
  refine wl_nil ?_
  refine wq_then_norm (hK3 ?_)
  refine wc_false rfl rfl ?_
  refine wc_skip ?_
  refine wq_then_norm (hK2 ?_)
  refine wc_seq ?_; intro K4 hK4
  refine wc_region ?_
  refine wl_y (y_move rfl) rfl ?_
  refine wl_y (y_move rfl) rfl ?_
  refine wl_call Try.func38 rfl rfl rfl (lroot_no n k _ hn h) rfl ?_
  rintro e w2 ⟨rfl, ex⟩
  refine ⟨_, rfl, ?_⟩
  replace E := E.ext ex
  skip
  refine wl_y (y_assign rfl) rfl ?_
  refine wl_nil ?_
  refine wq_then_norm (hK4 ?_)
  refine wc_seq ?_; intro K5 hK5
  refine wc_seq ?_; intro K6 hK6
  refine wc_region ?_
  refine wl_y (y_move rfl) rfl ?_
  refine wl_yask (y_lss rfl rfl) rfl (fun h1 => ?_) (fun h1 => ?_)
  · skip
    refine wl_y (y_move rfl) rfl ?_
    refine wl_gno 19 rfl rfl rfl rfl ?_
    refine wl_gno 19 rfl rfl rfl rfl ?_
    refine wl_y (y_pickt rfl rfl) rfl ?_
    refine wl_y (y_move rfl) rfl ?_
    refine wl_gno 23 rfl rfl rfl rfl ?_
    refine wl_gno 23 rfl rfl rfl rfl ?_
    refine wl_y (y_pickt rfl rfl) rfl ?_
    refine wl_nil ?_
    refine wq_then_norm (hK6 ?_)
    refine wc_true rfl rfl ?_
    refine wc_seq ?_; intro K7 hK7
    refine wc_region ?_
    refine wl_y (y_move rfl) rfl ?_
    refine wl_y (y_eql rfl rfl) rfl ?_
    refine wl_y (y_assign rfl) rfl ?_
    refine wl_nil ?_
    refine wq_then_norm (hK7 ?_)
    refine wc_ret ?_
    refine wq_then_ret ?_
    refine hret rfl ?_
    exact ⟨rfl, E⟩
  · skip
    refine wl_y (y_move rfl) rfl ?_
    refine wl_gy 19 rfl rfl (y_move rfl) rfl ?_
    refine wl_gyask 19 rfl rfl (y_gtr rfl rfl) rfl (fun h2 => ?_) (fun h2 => ?_)
    · skip
      refine wl_y (y_pickf rfl rfl) rfl ?_
      refine wl_y (y_move rfl) rfl ?_
      refine wl_gno 23 rfl rfl rfl rfl ?_
      refine wl_gno 23 rfl rfl rfl rfl ?_
      refine wl_y (y_pickt rfl rfl) rfl ?_
      refine wl_nil ?_
      refine wq_then_norm (hK6 ?_)
      refine wc_true rfl rfl ?_
      refine wc_seq ?_; intro K8 hK8
      refine wc_region ?_
      refine wl_y (y_move rfl) rfl ?_
      refine wl_y (y_eql rfl rfl) rfl ?_
      refine wl_y (y_assign rfl) rfl ?_
      refine wl_nil ?_
      refine wq_then_norm (hK8 ?_)
      refine wc_ret ?_
      refine wq_then_ret ?_
      refine hret rfl ?_
      exact ⟨rfl, E⟩
    · skip
      refine wl_y (y_pickf rfl rfl) rfl ?_
      refine wl_y (y_move rfl) rfl ?_
      refine wl_gy 23 rfl rfl (y_move rfl) rfl ?_
      refine wl_gyask 23 rfl rfl (y_gtr rfl rfl) rfl (fun h3 => ?_) (fun h3 => ?_)
      · skip
        refine wl_y (y_pickf rfl rfl) rfl ?_
        refine wl_nil ?_
        refine wq_then_norm (hK6 ?_)
        refine wc_true rfl rfl ?_
        refine wc_seq ?_; intro K9 hK9
        refine wc_region ?_
        refine wl_y (y_move rfl) rfl ?_
        refine wl_y (y_eql rfl rfl) rfl ?_
        refine wl_y (y_assign rfl) rfl ?_
        refine wl_nil ?_
        refine wq_then_norm (hK9 ?_)
        refine wc_ret ?_
        refine wq_then_ret ?_
        refine hret rfl ?_
        exact ⟨rfl, E⟩
      · skip
        exfalso; omega
theorem longRoots_law (n : Nat) (k : Int) (w : World) (hn : n < 18446744073709551616) :
    Calls Try.prog 4 #[.int .u64 (n : Int), .int .i64 k] w fun e w' => e = .returned (.bool true) ∧ Below w.heap.size w w' := by
  by_cases h : k < 2 ∨ 3 < k ∨ 1048576 < n
  · exact longRoots_no n k w hn h
  · obtain ⟨kn, rfl⟩ : ∃ kn : Nat, k = kn := Int.eq_ofNat_of_zero_le (by omega)
    exact longRoots_ok n kn w hn (by omega) (by omega)
end Go.Proofs.Ytbcbihdfpkeacaa
