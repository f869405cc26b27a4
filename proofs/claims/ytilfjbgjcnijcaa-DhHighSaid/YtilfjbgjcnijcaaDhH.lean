/- The law DhHigh: it answers true whatever it is given. -/
import Derived.Test.YtilfjbgjcnijcaaDhG
namespace Go.Proofs.Ytilfjbgjcnijcaa
open Go.RowKit
attribute [local irreducible] Y Ef WL WC WK WQ WM OpM WN WF OpN
theorem xor128 : ∀ x : Fin 256, x.val ^^^ 128 < 256 ∧ (x.val ^^^ 128) % 128 = x.val % 128 := by decide +kernel
theorem ofB_high {ys : List UInt8} (h : ys.length = 32) : Fp.ofB (ys.set 31 (UInt8.ofNat ((ys.getD 31 0).toNat ^^^ 128))) = Fp.ofB ys := by
  have hx : (ys.getD 31 0).toNat ^^^ 128 < 256 ∧ ((ys.getD 31 0).toNat ^^^ 128) % 128 = (ys.getD 31 0).toNat % 128 := xor128 ⟨(ys.getD 31 0).toNat, UInt8.toNat_lt _⟩
  have e1 := Fp.num_top ys h
  have e2 := Fp.num_top (ys.set 31 (UInt8.ofNat ((ys.getD 31 0).toNat ^^^ 128))) (by rw [List.length_set]; exact h)
  rw [List.set_set] at e2
  have e3 : ((ys.set 31 (UInt8.ofNat ((ys.getD 31 0).toNat ^^^ 128))).getD 31 0).toNat % 128 = (ys.getD 31 0).toNat % 128 := by
    rw [List.getD_eq_getElem?_getD, List.getElem?_set_self (by omega)]
    show (UInt8.ofNat _).toNat % 128 = _
    rw [UInt8.toNat_ofNat']
    omega
  rw [e3, e1] at e2
  unfold Fp.ofB
  rw [List.take_of_length_le (l := ys) (by omega), List.take_of_length_le (by rw [List.length_set]; omega), ← e2]
theorem fill_ff {i : Nat} (h : i < 32) : (List.replicate i (255 : UInt8) ++ List.replicate (32 - i) 0).set i 255 = List.replicate (i + 1) 255 ++ List.replicate (32 - (i + 1)) 0 := by
  rw [List.set_append_right _ _ (by simp), List.length_replicate, Nat.sub_self, show 32 - i = (32 - (i + 1)) + 1 by omega, List.replicate_succ, List.set_cons_zero, List.replicate_succ']
  simp
def pB : List UInt8 := ((List.replicate 32 255).set 0 237).set 31 127
theorem dhHigh_law (A : Option Addr) (n c : Nat) (xs : List UInt8) (B : Option Addr) (m d : Nat) (ys : List UInt8) (w : World) (HA : Bs w A n xs) (hn : n ≤ maxLen) (HB : Bs w B m ys) (hm : m ≤ maxLen) :
    Calls Try.prog 10 #[.slice A n c, .slice B m d] w fun e w' => e = .returned (.bool true) ∧ Below w.heap.size w w' := by
  unfold maxLen at hn hm
  have E := Ext.refl w
  have hx := HA.1; have hy := HB.1
  have HA0 := HA; have HB0 := HB
  refine vc_enter1 124 Try.func10 rfl rfl rfl rfl ?_
  intro Q hret
  refine wc_seq ?_; intro K1 hK1
  refine wc_region ?_
  refine wl_y (y_assign rfl) rfl ?_
  refine wl_nil ?_
  refine wq_then_norm (hK1 ?_)
  refine wc_seq ?_; intro K2 hK2
  refine wc_seq ?_; intro K3 hK3
  refine wc_region ?_
  refine wl_call Try.func56 rfl rfl rfl (alive7_any _) rfl ?_
  rintro e w1 ⟨rfl, ex⟩
  refine ⟨_, rfl, ?_⟩
  replace HA := HA.ext ex
  replace HB := HB.ext ex
  replace E := E.ext ex
  refine wl_y (y_not rfl) rfl ?_
  refine wl_nil ?_
  refine wq_then_norm (hK3 ?_)
  refine wc_false rfl rfl ?_
  refine wc_skip ?_
  refine wq_then_norm (hK2 ?_)
  refine wc_seq ?_; intro K4 hK4
  refine wc_seq ?_; intro K5 hK5
  refine wc_region ?_
  refine wl_y (y_move rfl) rfl ?_
  refine wl_y (y_len_slice rfl Try.underlying22) rfl ?_
  refine wl_yask (y_neq rfl rfl) rfl (fun h1 => ?_) (fun h1 => ?_)
  · skip
    refine wl_y (y_move rfl) rfl ?_
    refine wl_gno 25 rfl rfl rfl rfl ?_
    refine wl_gno 25 rfl rfl rfl rfl ?_
    refine wl_gno 25 rfl rfl rfl rfl ?_
    refine wl_y (y_pickt rfl rfl) rfl ?_
    refine wl_nil ?_
    refine wq_then_norm (hK5 ?_)
    refine wc_true rfl rfl ?_
    refine wc_seq ?_; intro K6 hK6
    refine wc_region ?_
    refine wl_y (y_assign rfl) rfl ?_
    refine wl_nil ?_
    refine wq_then_norm (hK6 ?_)
    refine wc_ret ?_
    refine wq_then_ret ?_
    refine hret rfl ?_
    exact ⟨rfl, E⟩
  · skip
    refine wl_y (y_move rfl) rfl ?_
    refine wl_gy 25 rfl rfl (y_move rfl) rfl ?_
    refine wl_gy 25 rfl rfl (y_len_slice rfl Try.underlying22) rfl ?_
    refine wl_gyask 25 rfl rfl (y_neq rfl rfl) rfl (fun h2 => ?_) (fun h2 => ?_)
    · skip
      refine wl_y (y_pickf rfl rfl) rfl ?_
      refine wl_nil ?_
      refine wq_then_norm (hK5 ?_)
      refine wc_true rfl rfl ?_
      refine wc_seq ?_; intro K7 hK7
      refine wc_region ?_
      refine wl_y (y_assign rfl) rfl ?_
      refine wl_nil ?_
      refine wq_then_norm (hK7 ?_)
      refine wc_ret ?_
      refine wq_then_ret ?_
      refine hret rfl ?_
      exact ⟨rfl, E⟩
    · skip
      refine wl_y (y_pickf rfl rfl) rfl ?_
      refine wl_nil ?_
      refine wq_then_norm (hK5 ?_)
      refine wc_false rfl rfl ?_
      refine wc_skip ?_
      refine wq_then_norm (hK4 ?_)
      refine wc_seq ?_; intro K8 hK8
      refine wc_region ?_
      have E5 := E
      refine wl_ef (ef_lit (z := .int .u8 0) Try.underlying22 (by kernel_rfl) rfl rfl rfl rfl rfl) rfl ?_
      rintro _ w2 ⟨g2, rfl, B2, hg2, ex⟩
      replace HA := HA.ext ex
      replace HB := HB.ext ex
      replace E := E.ext ex
      have R2 : Row w2 w.heap.size 5 (some ⟨g2, 0, none⟩) 0 0 [] := Row.new B2 (Nat.le_trans E5.size hg2) rfl (by unfold maxLen; omega)
      refine wl_y (y_move rfl) rfl ?_
      refine wl_ef (ef_app0 rfl rfl eltB R2 HB.2 (by rw [List.length_map, HB.1]) (by intro u hu; exact bv_one u hu) (by omega) (by omega) E.size) rfl ?_
      rintro _ w3 ⟨A3, c3, rfl, R3, be, gr, hl⟩
      replace E := E.trans be; replace HA := HA0.ext E; replace HB := HB0.ext E; have WB := R3.bs
      refine wl_y (y_assign rfl) rfl ?_
      refine wl_nil ?_
      refine wq_then_norm (hK8 ?_)
      refine wc_seq ?_; intro K9 hK9
      refine wc_region ?_
      have E6 := E; have HA6 := HA; have HB6 := HB; have WB6 := WB
      refine wl_ef (ef_lit (z := .int .u8 0) Try.underlying22 (by kernel_rfl) rfl rfl rfl rfl rfl) rfl ?_
      rintro _ w4 ⟨g4, rfl, B4, hg4, ex⟩
      replace HA := HA.ext ex
      replace HB := HB.ext ex
      replace E := E.ext ex
      replace WB := WB.ext ex
      have R4 : Row w4 w3.heap.size 5 (some ⟨g4, 0, none⟩) 0 0 [] := Row.new B4 hg4 rfl (by unfold maxLen; omega); have X6 := ex
      refine wl_y (y_move rfl) rfl ?_
      refine wl_ef (ef_app0 rfl rfl eltB R4 HB.2 (by rw [List.length_map, HB.1]) (by intro u hu; exact bv_one u hu) (by omega) (by omega) X6.size) rfl ?_
      rintro _ w5 ⟨A5, c5, rfl, R5, be, gr, hl⟩
      replace X6 := X6.trans be; replace E := E6.ext X6; replace HA := HA6.ext X6; replace HB := HB6.ext X6; replace WB := WB6.ext X6
      refine wl_y (y_assign rfl) rfl ?_
      refine wl_nil ?_
      refine wq_then_norm (hK9 ?_)
      refine wc_seq ?_; intro K10 hK10
      obtain ⟨g5, hA5, hcx, hg5, _⟩ := R5.byte (i := 31) (by omega)
      subst hA5
      have hxor : (ys.getD 31 0).toNat ^^^ 128 < 256 ∧ ((ys.getD 31 0).toNat ^^^ 128) % 128 = (ys.getD 31 0).toNat % 128 := xor128 ⟨(ys.getD 31 0).toNat, UInt8.toNat_lt _⟩
      refine wc_region ?_
      refine wl_y (y_move rfl) rfl ?_
      refine wl_y (y_move rfl) rfl ?_
      refine wl_y (y_ixs1 rfl rfl Try.underlying22 (by kernel_rfl) (j := 31) rfl (by omega)) rfl ?_
      refine wl_y (y_load1 rfl Try.underlying5 rfl hcx) rfl ?_
      refine wl_y (y_xor rfl rfl (bits_u8 (q := 128) (UInt8.toNat_lt _) (by omega)).2.2) rfl ?_
      refine wl_y (y_ixs1 rfl rfl Try.underlying22 (by kernel_rfl) (j := 31) rfl (by omega)) rfl ?_
      rw [← ofNat_val hxor.1]
      refine wl_ef (ef_storeR rfl rfl rfl (by kernel_rfl) R5 (by omega)) rfl ?_
      rintro _ w6 ⟨rfl, R6, cg⟩
      replace X6 := X6.chg cg hg5; replace E := E6.ext X6; replace HA := HA6.ext X6; replace HB := HB6.ext X6; replace WB := WB6.ext X6; have HH : Bs w6 (some ⟨g5, 0, none⟩) m (ys.set 31 (UInt8.ofNat ((ys.getD 31 0).toNat ^^^ 128))) := Row.bs (R6.congr rfl (by rw [List.map_set]; rfl))
      refine wl_nil ?_
      refine wq_then_norm (hK10 ?_)
      refine wc_seq ?_; intro K11 hK11
      refine wc_region ?_
      refine wl_y (y_move rfl) rfl ?_
      refine wl_y (y_move rfl) rfl ?_
      refine wl_call Try.func59 rfl rfl rfl (dhmul_any A B n c m d xs ys _ HA HB) rfl ?_
      rintro e w7 ⟨A7, k7, c7, rfl, H7, _, ex⟩
      refine ⟨_, rfl, ?_⟩
      replace HA := HA.ext ex
      replace HB := HB.ext ex
      replace E := E.ext ex
      replace WB := WB.ext ex
      replace HH := HH.ext ex
      skip
      refine wl_y (y_move rfl) rfl ?_
      refine wl_y (y_extract rfl rfl) rfl ?_
      refine wl_y (y_extract rfl rfl) rfl ?_
      refine wl_y (y_assign rfl) rfl ?_
      refine wl_y (y_assign rfl) rfl ?_
      refine wl_nil ?_
      refine wq_then_norm (hK11 ?_)
      refine wc_seq ?_; intro K12 hK12
      refine wc_region ?_
      refine wl_y (y_move rfl) rfl ?_
      refine wl_y (y_move rfl) rfl ?_
      refine wl_call Try.func59 rfl rfl rfl (dhmul_any A _ n c m c5 xs _ _ HA HH) rfl ?_
      rintro e w8 ⟨A8, k8, c8, rfl, H8, _, ex⟩
      refine ⟨_, rfl, ?_⟩
      replace HA := HA.ext ex
      replace HB := HB.ext ex
      replace E := E.ext ex
      replace WB := WB.ext ex
      replace HH := HH.ext ex
      replace H7 := H7.ext ex
      have hM : dhM xs (ys.set 31 (UInt8.ofNat ((ys.getD 31 0).toNat ^^^ 128))) = dhM xs ys := by rw [dhM, dhM, ofB_high (by omega), List.length_set]
      rw [hM] at H8 ⊢ 
      refine wl_y (y_move rfl) rfl ?_
      refine wl_y (y_extract rfl rfl) rfl ?_
      refine wl_y (y_extract rfl rfl) rfl ?_
      refine wl_y (y_assign rfl) rfl ?_
      refine wl_y (y_assign rfl) rfl ?_
      refine wl_nil ?_
      refine wq_then_norm (hK12 ?_)
      refine wc_seq ?_; intro K13 hK13
      have E10 := E; have HA10 := HA; have HB10 := HB; have WB10 := WB; have H7_10 := H7; have H8_10 := H8
      refine wc_region ?_
      refine wl_ef (ef_make (n := 32) (z := .int .u8 0) (bytes := 1) rfl rfl Try.underlying22 (by kernel_rfl) rfl rfl rfl rfl (by omega) (by omega)) rfl ?_
      rintro _ w9 ⟨gp, rfl, BP, hgp, ex⟩
      replace HA := HA.ext ex
      replace HB := HB.ext ex
      replace E := E.ext ex
      replace WB := WB.ext ex
      replace H7 := H7.ext ex
      replace H8 := H8.ext ex
      have X10 := ex; replace BP : Blk w9 gp 5 (bys (List.replicate 0 (255 : UInt8) ++ List.replicate (32 - 0) 0)) := BP.congr (by rfl)
      refine wl_y (y_assign rfl) rfl ?_
      refine wl_nil ?_
      refine wq_then_norm (hK13 ?_)
      refine wc_seq ?_; intro K14 hK14
      refine wc_seq ?_; intro K15 hK15
      refine wc_region ?_
      refine wl_y (y_assign rfl) rfl ?_
      refine wl_nil ?_
      refine wq_then_norm (hK15 ?_)
      refine wc_block ?_
      refine wc_loop (fun n' L wr => ∃ i : Nat, L = [(0, .slice A n c), (1, .slice B m d), (5, .slice A3 m c3), (7, .slice A7 k7 c7), (8, .int .u8 ((dhM xs ys).2 : Int)), (9, .slice A8 k8 c8), (10, .int .u8 ((dhM xs ys).2 : Int)), (11, .slice (some ⟨gp, 0, none⟩) 32 32), (12, .int .i64 (i : Int))] ∧ n' = 32 - i ∧ (i ≤ 32 ∧ Ext w8 wr ∧ Blk wr gp 5 (bys (List.replicate i (255 : UInt8) ++ List.replicate (32 - i) 0)))) _ _ ⟨0, rfl, rfl, by omega, X10, BP⟩ ⟨rfl, rfl, rfl, rfl, (by first | rfl | exact congrArg some (int_val (by omega))), rfl, (by first | rfl | exact congrArg some (int_val (by omega))), rfl, (by first | rfl | exact congrArg some (int_val (by omega))), trivial⟩ ?_
      rintro KL1 n' L wr ⟨i, rfl, rfl, hi, X10, BP⟩ hL1
      refine wc_seq ?_; intro K16 hK16
      refine wc_seq ?_; intro K17 hK17
      refine wc_region ?_
      refine wl_y (y_move rfl) rfl ?_
      refine wl_y (y_lss rfl rfl) rfl ?_
      refine wl_nil ?_
      refine wq_then_norm (hK17 ?_)
      refine wc_dec rfl (fun hc3 => ?_) (fun hc3 => ?_)
      · skip
        refine wc_skip ?_
        refine wq_then_norm (hK16 ?_)
        refine wc_seq ?_; intro K18 hK18
        refine wc_block ?_
        refine wc_region ?_
        refine wl_y (y_move rfl) rfl ?_
        refine wl_y (y_move rfl) rfl ?_
        refine wl_y (y_ixs1 rfl rfl Try.underlying22 (by kernel_rfl) (j := i) rfl (by omega)) rfl ?_
        refine wl_ef (ef_storeB rfl rfl rfl (by kernel_rfl) BP (by rw [bys_size]; simp; omega)) rfl ?_
        rintro _ w10 ⟨rfl, B10, cg⟩
        rw [Nat.zero_add, show (255 : Int) = (((255 : UInt8).toNat : Nat) : Int) from rfl, bys_put, fill_ff (by omega)] at B10; replace X10 := X10.chg cg hgp
        refine wl_nil ?_
        refine wq_blk_norm ?_
        refine wq_then_norm (hK18 ?_)
        refine wc_region ?_
        refine wl_y (y_move rfl) rfl ?_
        refine wl_y (y_add rfl rfl (i64_ok (by omega) (by omega))) rfl ?_
        refine wl_y (y_assign rfl) rfl ?_
        refine wl_nil ?_
        refine wq_then_norm ?_
        refine hL1 _ _ ⟨i + 1, rfl, rfl, by omega, X10, B10⟩ (by omega) ⟨rfl, rfl, rfl, rfl, (by first | rfl | exact congrArg some (int_val (by omega))), rfl, (by first | rfl | exact congrArg some (int_val (by omega))), rfl, (by first | rfl | exact congrArg some (int_val (by omega))), trivial⟩
      · skip
        refine wc_exit ?_
        refine wq_then_exit ?_
        refine wq_then_exit ?_
        refine wq_blk_hit ?_
        refine wq_then_norm (hK14 ?_)
        refine wc_seq ?_; intro K19 hK19
        obtain rfl : i = 32 := by omega
        replace BP : Blk wr gp 5 (bys (List.replicate 32 255)) := BP.congr (by rfl)
        refine wc_region ?_
        refine wl_y (y_move rfl) rfl ?_
        refine wl_y (y_ixs1 rfl rfl Try.underlying22 (by kernel_rfl) (j := 0) rfl (by omega)) rfl ?_
        refine wl_ef (ef_storeB rfl rfl rfl (by kernel_rfl) BP (by rw [bys_size]; simp)) rfl ?_
        rintro _ w11 ⟨rfl, B11, cg⟩
        replace X10 := X10.chg cg hgp; replace B11 := B11.congr (show _ = bys ((List.replicate 32 255).set 0 237) by rfl)
        refine wl_nil ?_
        refine wq_then_norm (hK19 ?_)
        refine wc_seq ?_; intro K20 hK20
        refine wc_region ?_
        refine wl_y (y_move rfl) rfl ?_
        refine wl_y (y_ixs1 rfl rfl Try.underlying22 (by kernel_rfl) (j := 31) rfl (by omega)) rfl ?_
        refine wl_ef (ef_storeB rfl rfl rfl (by kernel_rfl) B11 (by rw [bys_size]; simp)) rfl ?_
        rintro _ w12 ⟨rfl, B12, cg⟩
        replace X10 := X10.chg cg hgp; replace B12 := B12.congr (show _ = bys pB by rfl); have E12 := E10.ext X10; have HA12 := HA10.ext X10; have HP := bs_blk' (xs := pB) B12 rfl
        refine wl_nil ?_
        refine wq_then_norm (hK20 ?_)
        refine wc_seq ?_; intro K21 hK21
        refine wc_region ?_
        refine wl_y (y_move rfl) rfl ?_
        refine wl_y (y_move rfl) rfl ?_
        refine wl_call Try.func59 rfl rfl rfl (dhmul_any A _ n c 32 32 xs pB _ HA12 HP) rfl ?_
        rintro e w13 ⟨A13, k13, c13, rfl, H13, hf13, ex⟩
        refine ⟨_, rfl, ?_⟩
        rw [dhM_zero (by omega) rfl (by decide +kernel)] at H13 ⊢; have Y13 := ex; have B13 := B12.ext ex; replace X10 := X10.ext ex
        refine wl_y (y_move rfl) rfl ?_
        refine wl_y (y_extract rfl rfl) rfl ?_
        refine wl_y (y_extract rfl rfl) rfl ?_
        refine wl_y (y_assign rfl) rfl ?_
        refine wl_y (y_assign rfl) rfl ?_
        refine wl_nil ?_
        refine wq_then_norm (hK21 ?_)
        refine wc_seq ?_; intro K22 hK22
        refine wc_region ?_
        refine wl_y (y_move rfl) rfl ?_
        refine wl_y (y_ixs1 rfl rfl Try.underlying22 (by kernel_rfl) (j := 0) rfl (by omega)) rfl ?_
        refine wl_ef (ef_storeB rfl rfl rfl (by kernel_rfl) B13 (by rw [bys_size]; decide)) rfl ?_
        rintro _ w14 ⟨rfl, B14, cg⟩
        replace X10 := X10.chg cg hgp; replace B14 := B14.congr (show _ = bys (pB.set 0 238) by rfl); have H14 := H13.chg cg (fun b o h => by have := hf13 b o h; have := B12.lt; omega); have HA14 := HA10.ext X10; have HP2 := bs_blk' (xs := pB.set 0 238) B14 rfl
        refine wl_nil ?_
        refine wq_then_norm (hK22 ?_)
        refine wc_seq ?_; intro K23 hK23
        refine wc_region ?_
        refine wl_y (y_move rfl) rfl ?_
        refine wl_y (y_move rfl) rfl ?_
        refine wl_call Try.func59 rfl rfl rfl (dhmul_any A _ n c 32 32 xs (pB.set 0 238) _ HA14 HP2) rfl ?_
        rintro e w15 ⟨A15, k15, c15, rfl, H15, hf15, ex⟩
        refine ⟨_, rfl, ?_⟩
        have H14b := H14.ext ex; replace X10 := X10.ext ex; have HA15 := HA10.ext X10
        refine wl_y (y_move rfl) rfl ?_
        refine wl_y (y_extract rfl rfl) rfl ?_
        refine wl_y (y_extract rfl rfl) rfl ?_
        refine wl_y (y_assign rfl) rfl ?_
        refine wl_y (y_assign rfl) rfl ?_
        refine wl_nil ?_
        refine wq_then_norm (hK23 ?_)
        refine wc_seq ?_; intro K24 hK24
        refine wc_region ?_
        refine wl_ef (ef_make (n := 32) (z := .int .u8 0) (bytes := 1) rfl rfl Try.underlying22 (by kernel_rfl) rfl rfl rfl rfl (by omega) (by omega)) rfl ?_
        rintro _ w16 ⟨go, rfl, BO, hgo, ex⟩
        have X20 := ex; replace BO : Blk w16 go 5 (bys (List.replicate 32 0)) := BO.congr (by rfl)
        refine wl_y (y_assign rfl) rfl ?_
        refine wl_nil ?_
        refine wq_then_norm (hK24 ?_)
        refine wc_seq ?_; intro K25 hK25
        refine wc_region ?_
        refine wl_y (y_move rfl) rfl ?_
        refine wl_y (y_ixs1 rfl rfl Try.underlying22 (by kernel_rfl) (j := 0) rfl (by omega)) rfl ?_
        refine wl_ef (ef_storeB rfl rfl rfl (by kernel_rfl) BO (by rw [bys_size]; simp)) rfl ?_
        rintro _ w17 ⟨rfl, B17, cg⟩
        replace X20 := X20.chg cg hgo; replace B17 := B17.congr (show _ = bys ((List.replicate 32 0).set 0 1) by rfl); have HO := bs_blk' (xs := (List.replicate 32 0).set 0 1) B17 rfl; have HA17 := HA15.ext X20
        refine wl_nil ?_
        refine wq_then_norm (hK25 ?_)
        refine wc_seq ?_; intro K26 hK26
        refine wc_region ?_
        refine wl_y (y_move rfl) rfl ?_
        refine wl_y (y_move rfl) rfl ?_
        refine wl_call Try.func59 rfl rfl rfl (dhmul_any A _ n c 32 32 xs _ _ HA17 HO) rfl ?_
        rintro e w18 ⟨A18, k18, c18, rfl, H18, _, ex⟩
        refine ⟨_, rfl, ?_⟩
        have hone : dhM xs ((List.replicate 32 0).set 0 1) = dhM xs (pB.set 0 238) := by rw [dhM, dhM, show Fp.ofB ((List.replicate 32 0).set 0 1) = Fp.ofB (pB.set 0 238) by decide +kernel]; rfl
        rw [hone] at H18 ⊢
        refine wl_y (y_move rfl) rfl ?_
        refine wl_y (y_extract rfl rfl) rfl ?_
        refine wl_y (y_extract rfl rfl) rfl ?_
        refine wl_y (y_assign rfl) rfl ?_
        refine wl_y (y_assign rfl) rfl ?_
        refine wl_nil ?_
        refine wq_then_norm (hK26 ?_)
        refine wc_seq ?_; intro K27 hK27
        replace X20 := X20.ext ex
        have X := X10.ext X20
        replace E := E10.ext X; replace HB := HB10.ext X; replace WB := WB10.ext X; replace H7 := H7_10.ext X; replace H8 := H8_10.ext X
        have H14c := H14b.ext X20
        have H15c := H15.ext X20
        have hd : ∀ zs : List UInt8, zs.length = 32 → (dhM xs zs).2 = 0 := fun zs hz => by rw [dhM, if_neg (by omega), if_neg (by omega)]
        have hd1 := hd ys (by omega)
        have hd2 := hd (pB.set 0 238) rfl
        have hq : ∀ zs : List UInt8, zs.length = 32 → (dhM xs zs).1.length = 32 := fun zs hz => by rw [dhM, if_neg (by omega), if_neg (by omega)]; exact Fp.le_length 32 _
        have q1 := hq ys (by omega)
        have q2 := hq (pB.set 0 238) rfl
        have z7 := H7.1; have z8 := H8.1; have z14 := H14c.1; have z15 := H15c.1; have z18 := H18.1
        rw [List.length_replicate] at z14
        refine wc_region ?_
        refine wl_y (y_move rfl) rfl ?_
        refine wl_y (y_conv rfl Try.underlying61 Try.underlying3 (i64_ok (by omega) (by omega))) rfl ?_
        refine wl_y (y_move rfl) rfl ?_
        refine wl_y (y_conv rfl Try.underlying61 Try.underlying3 (i64_ok (by omega) (by omega))) rfl ?_
        refine wl_y (y_add rfl rfl (i64_ok (by omega) (by omega))) rfl ?_
        refine wl_y (y_move rfl) rfl ?_
        refine wl_y (y_conv rfl Try.underlying61 Try.underlying3 (i64_ok (by omega) (by omega))) rfl ?_
        refine wl_y (y_add rfl rfl (i64_ok (by omega) (by omega))) rfl ?_
        refine wl_y (y_move rfl) rfl ?_
        refine wl_y (y_conv rfl Try.underlying61 Try.underlying3 (i64_ok (by omega) (by omega))) rfl ?_
        refine wl_y (y_add rfl rfl (i64_ok (by omega) (by omega))) rfl ?_
        refine wl_y (y_move rfl) rfl ?_
        refine wl_y (y_conv rfl Try.underlying61 Try.underlying3 (i64_ok (by omega) (by omega))) rfl ?_
        refine wl_y (y_add rfl rfl (i64_ok (by omega) (by omega))) rfl ?_
        refine wl_y (Y.as (y_eql rfl rfl) (congrArg Value.bool (decide_eq_true (by omega)))) rfl ?_
        refine wl_y (y_move rfl) rfl ?_
        refine wl_gy 104 rfl rfl (y_move rfl) rfl ?_
        refine wl_gy 104 rfl rfl (y_move rfl) rfl ?_
        refine wl_gcall 104 rfl rfl Try.func53 rfl rfl rfl (sameE_any _ _ k7 k8 _ _ _ _ _ H7 H8 (by omega) (by omega)) rfl ?_
        rintro e w19 ⟨rfl, ex⟩
        refine ⟨_, rfl, ?_⟩
        rw [decide_eq_true rfl]
        replace HB := HB.ext ex; replace WB := WB.ext ex; replace H14c := H14c.ext ex; replace H15c := H15c.ext ex; replace H18 := H18.ext ex; replace E := E.ext ex
        refine wl_y (y_pickt rfl rfl) rfl ?_
        refine wl_y (y_move rfl) rfl ?_
        refine wl_gy 109 rfl rfl (y_move rfl) rfl ?_
        refine wl_gef 109 rfl rfl (ef_make (n := 32) (z := .int .u8 0) (bytes := 1) rfl rfl Try.underlying22 (by kernel_rfl) rfl rfl rfl rfl (by omega) (by omega)) rfl ?_
        rintro _ w20 ⟨g20, rfl, B20, hg20, ex⟩
        replace HB := HB.ext ex
        replace WB := WB.ext ex
        replace H14c := H14c.ext ex
        replace H15c := H15c.ext ex
        replace H18 := H18.ext ex
        replace E := E.ext ex
        have Z20 := zeros_bs B20
        refine wl_gcall 109 rfl rfl Try.func53 rfl rfl rfl (sameE_any _ _ k13 32 _ _ _ _ _ H14c Z20 (by omega) (by omega)) rfl ?_
        rintro e w21 ⟨rfl, ex⟩
        refine ⟨_, rfl, ?_⟩
        replace HB := HB.ext ex
        replace WB := WB.ext ex
        replace H14c := H14c.ext ex
        replace H15c := H15c.ext ex
        replace H18 := H18.ext ex
        replace E := E.ext ex
        rw [decide_eq_true rfl]
        refine wl_y (y_pickt rfl rfl) rfl ?_
        refine wl_y (y_move rfl) rfl ?_
        refine wl_gy 114 rfl rfl (y_move rfl) rfl ?_
        refine wl_gy 114 rfl rfl (y_move rfl) rfl ?_
        refine wl_gcall 114 rfl rfl Try.func53 rfl rfl rfl (sameE_any _ _ k15 k18 _ _ _ _ _ H15c H18 (by omega) (by omega)) rfl ?_
        rintro e w22 ⟨rfl, ex⟩
        refine ⟨_, rfl, ?_⟩
        replace HB := HB.ext ex
        replace WB := WB.ext ex
        replace H14c := H14c.ext ex
        replace H15c := H15c.ext ex
        replace H18 := H18.ext ex
        replace E := E.ext ex
        rw [decide_eq_true rfl]
        refine wl_y (y_pickt rfl rfl) rfl ?_
        refine wl_y (y_move rfl) rfl ?_
        refine wl_gy 119 rfl rfl (y_move rfl) rfl ?_
        refine wl_gy 119 rfl rfl (y_move rfl) rfl ?_
        refine wl_gcall 119 rfl rfl Try.func53 rfl rfl rfl (sameE_any _ _ m m _ _ _ _ _ HB WB (by omega) (by omega)) rfl ?_
        rintro e w23 ⟨rfl, ex⟩
        refine ⟨_, rfl, ?_⟩
        replace HB := HB.ext ex
        replace WB := WB.ext ex
        replace H14c := H14c.ext ex
        replace H15c := H15c.ext ex
        replace H18 := H18.ext ex
        replace E := E.ext ex
        rw [decide_eq_true rfl]
        refine wl_y (y_pickt rfl rfl) rfl ?_
        refine wl_y (y_assign rfl) rfl ?_
        refine wl_nil ?_
        refine wq_then_norm (hK27 ?_)
        refine wc_ret ?_
        refine hret rfl ?_
        exact ⟨rfl, E⟩
end Go.Proofs.Ytilfjbgjcnijcaa
