/- The law FieldLaws: it answers true whatever it is given. -/
import Derived.Test.YtilfjbgjcnijcaaFieldR
namespace Go.Proofs.Ytilfjbgjcnijcaa
open Go.RowKit
attribute [local irreducible] Y Ef WL WC WK WQ WM OpM
/-- What the field's number is that bytes tell. -/
theorem Fof_any (A : Option Addr) (n c : Nat) (xs : List UInt8) (w : World) (HA : Bs w A n xs) :
    Calls Try.prog 19 #[.slice A n c] w fun e w' => ∃ cs, e = .returned (.agg cs) ∧ FE cs (Fp.of (Fp.ofB xs)) ∧ Ext w w' :=
  (fof_any A n c xs w HA).mono fun _ _ ⟨cs, h1, h2, h3⟩ => ⟨cs, h1, FE.of h2, h3⟩
theorem Fp.ofB_le (x : Fp.F) : Fp.of (Fp.ofB (Fp.le 32 x.val)) = x := by
  have hl := x.isLt
  have hv : Fp.num (Fp.le 32 x.val) = x.val := Fp.le_num 32 x.val (by unfold Fp.p at hl; omega)
  unfold Fp.ofB
  rw [List.take_of_length_le (by rw [Fp.le_length]; omega), hv, show x.val % 57896044618658097711785492504343953926634992332820282019728792003956564819968 = x.val from Nat.mod_eq_of_lt (by unfold Fp.p at hl; omega), Nat.mod_eq_of_lt hl, Fp.of_val]
set_option maxHeartbeats 2000000 in
theorem fieldLaws_law (A : Option Addr) (n c : Nat) (xs : List UInt8) (B : Option Addr) (m d : Nat) (ys : List UInt8) (C : Option Addr) (k f : Nat) (zs : List UInt8) (z : Int) (w : World) (HA : Bs w A n xs) (hn : n ≤ maxLen) (HB : Bs w B m ys) (hm : m ≤ maxLen) (HC : Bs w C k zs) (hk : k ≤ maxLen) (hz : (Lit.int .i64 z).wf = true) :
    Calls Try.prog 6 #[.slice A n c, .slice B m d, .slice C k f, .int .i64 z] w fun e w' => e = .returned (.bool true) ∧ Below w.heap.size w w' := by
  unfold maxLen at hn hm hk
  have E := Ext.refl w
  refine vc_enter1 186 Try.func6 rfl rfl rfl rfl ?_
  intro Q hret
  refine wc_seq ?_; intro K1 hK1
  refine wc_region ?_
  refine wl_y (y_assign rfl) rfl ?_
  refine wl_nil ?_
  refine wq_then_norm (hK1 ?_)
  refine wc_seq ?_; intro K2 hK2
  refine wc_seq ?_; intro K3 hK3
  refine wc_region ?_
  refine wl_call Try.func18 rfl rfl rfl (alive6_any _) rfl ?_
  rintro e w1 ⟨rfl, ex⟩
  refine ⟨_, rfl, ?_⟩
  replace HA := HA.ext ex
  replace HB := HB.ext ex
  replace HC := HC.ext ex
  replace E := E.ext ex
  refine wl_y (y_not rfl) rfl ?_
  refine wl_nil ?_
  refine wq_then_norm (hK3 ?_)
  refine wc_false rfl rfl ?_
  refine wc_skip ?_
  refine wq_then_norm (hK2 ?_)
  refine wc_seq ?_; intro K4 hK4
  refine wc_seq ?_; intro K5 hK5
  refine wc_region ?_
  refine wl_y (y_move rfl) rfl ?_
  refine wl_y (y_len_slice rfl Try.underlying22) rfl ?_
  refine wl_yask (y_gtr rfl rfl) rfl (fun h1 => ?_) (fun h1 => ?_)
  · skip
    refine wl_y (y_move rfl) rfl ?_
    refine wl_gno 22 rfl rfl rfl rfl ?_
    refine wl_gno 22 rfl rfl rfl rfl ?_
    refine wl_gno 22 rfl rfl rfl rfl ?_
    refine wl_y (y_pickt rfl rfl) rfl ?_
    refine wl_y (y_move rfl) rfl ?_
    refine wl_gno 27 rfl rfl rfl rfl ?_
    refine wl_gno 27 rfl rfl rfl rfl ?_
    refine wl_gno 27 rfl rfl rfl rfl ?_
    refine wl_y (y_pickt rfl rfl) rfl ?_
    refine wl_nil ?_
    refine wq_then_norm (hK5 ?_)
    refine wc_true rfl rfl ?_
    refine wc_seq ?_; intro K6 hK6
    refine wc_region ?_
    refine wl_y (y_assign rfl) rfl ?_
    refine wl_nil ?_
    refine wq_then_norm (hK6 ?_)
    refine wc_ret ?_
    refine wq_then_ret ?_
    refine hret rfl ?_
    exact ⟨rfl, E⟩
  · skip
    refine wl_y (y_move rfl) rfl ?_
    refine wl_gy 22 rfl rfl (y_move rfl) rfl ?_
    refine wl_gy 22 rfl rfl (y_len_slice rfl Try.underlying22) rfl ?_
    refine wl_gyask 22 rfl rfl (y_gtr rfl rfl) rfl (fun h2 => ?_) (fun h2 => ?_)
    · skip
      refine wl_y (y_pickf rfl rfl) rfl ?_
      refine wl_y (y_move rfl) rfl ?_
      refine wl_gno 27 rfl rfl rfl rfl ?_
      refine wl_gno 27 rfl rfl rfl rfl ?_
      refine wl_gno 27 rfl rfl rfl rfl ?_
      refine wl_y (y_pickt rfl rfl) rfl ?_
      refine wl_nil ?_
      refine wq_then_norm (hK5 ?_)
      refine wc_true rfl rfl ?_
      refine wc_seq ?_; intro K7 hK7
      refine wc_region ?_
      refine wl_y (y_assign rfl) rfl ?_
      refine wl_nil ?_
      refine wq_then_norm (hK7 ?_)
      refine wc_ret ?_
      refine wq_then_ret ?_
      refine hret rfl ?_
      exact ⟨rfl, E⟩
    · skip
      refine wl_y (y_pickf rfl rfl) rfl ?_
      refine wl_y (y_move rfl) rfl ?_
      refine wl_gy 27 rfl rfl (y_move rfl) rfl ?_
      refine wl_gy 27 rfl rfl (y_len_slice rfl Try.underlying22) rfl ?_
      refine wl_gyask 27 rfl rfl (y_gtr rfl rfl) rfl (fun h3 => ?_) (fun h3 => ?_)
      · skip
        refine wl_y (y_pickf rfl rfl) rfl ?_
        refine wl_nil ?_
        refine wq_then_norm (hK5 ?_)
        refine wc_true rfl rfl ?_
        refine wc_seq ?_; intro K8 hK8
        refine wc_region ?_
        refine wl_y (y_assign rfl) rfl ?_
        refine wl_nil ?_
        refine wq_then_norm (hK8 ?_)
        refine wc_ret ?_
        refine wq_then_ret ?_
        refine hret rfl ?_
        exact ⟨rfl, E⟩
      · skip
        refine wl_y (y_pickf rfl rfl) rfl ?_
        refine wl_nil ?_
        refine wq_then_norm (hK5 ?_)
        refine wc_false rfl rfl ?_
        refine wc_skip ?_
        refine wq_then_norm (hK4 ?_)
        refine wc_seq ?_; intro K9 hK9
        refine wc_region ?_
        refine wl_y (y_move rfl) rfl ?_
        refine wl_call Try.func19 rfl rfl rfl (Fof_any A n c xs _ HA) rfl ?_
        rintro e w3 ⟨cx, rfl, FX, ex⟩
        refine ⟨_, rfl, ?_⟩
        replace HA := HA.ext ex
        replace HB := HB.ext ex
        replace HC := HC.ext ex
        replace E := E.ext ex
        obtain ⟨x, hx⟩ : ∃ x, x = Fp.of (Fp.ofB xs) := ⟨_, rfl⟩; rw [← hx] at FX
        refine wl_y (y_move rfl) rfl ?_
        refine wl_call Try.func19 rfl rfl rfl (Fof_any B m d ys _ HB) rfl ?_
        rintro e w4 ⟨cy, rfl, FY, ex⟩
        refine ⟨_, rfl, ?_⟩
        replace HA := HA.ext ex
        replace HB := HB.ext ex
        replace HC := HC.ext ex
        replace E := E.ext ex
        obtain ⟨y, hy⟩ : ∃ y, y = Fp.of (Fp.ofB ys) := ⟨_, rfl⟩; rw [← hy] at FY
        refine wl_y (y_move rfl) rfl ?_
        refine wl_call Try.func19 rfl rfl rfl (Fof_any C k f zs _ HC) rfl ?_
        rintro e w5 ⟨cz, rfl, FZ, ex⟩
        refine ⟨_, rfl, ?_⟩
        replace HA := HA.ext ex
        replace HB := HB.ext ex
        replace HC := HC.ext ex
        replace E := E.ext ex
        obtain ⟨t, ht⟩ : ∃ t, t = Fp.of (Fp.ofB zs) := ⟨_, rfl⟩; rw [← ht] at FZ
        have HA_g9 := HA
        have HB_g9 := HB
        have HC_g9 := HC
        have E_g9 := E
        refine wl_ef (ef_alloc (Z := fe (fun _ => 0)) (by kernel_rfl)) rfl ?_
        rintro _ wn5_6 ⟨g9, rfl, Bg9, hg9, ex⟩
        have Xg9 := ex
        replace HA := HA.ext ex
        replace HB := HB.ext ex
        replace HC := HC.ext ex
        replace E := E.ext ex
        refine wl_ef (ef_alloc (Z := fe (fun _ => 0)) (by kernel_rfl)) rfl ?_
        rintro _ wn5_7 ⟨g10, rfl, Bg10, hg10, ex⟩
        have lg9_g10 : g9 < g10 := Nat.lt_of_lt_of_le Bg9.lt hg10
        replace hg10 := Nat.le_trans Xg9.size hg10
        replace HA := HA.ext ex
        replace HB := HB.ext ex
        replace HC := HC.ext ex
        replace E := E.ext ex
        replace Bg9 := Bg9.ext ex
        replace Xg9 := Xg9.ext ex
        refine wl_ef (ef_alloc (Z := fe (fun _ => 0)) (by kernel_rfl)) rfl ?_
        rintro _ wn5_8 ⟨g11, rfl, Bg11, hg11, ex⟩
        have lg9_g11 : g9 < g11 := Nat.lt_of_lt_of_le Bg9.lt hg11
        have lg10_g11 : g10 < g11 := Nat.lt_of_lt_of_le Bg10.lt hg11
        replace hg11 := Nat.le_trans Xg9.size hg11
        replace HA := HA.ext ex
        replace HB := HB.ext ex
        replace HC := HC.ext ex
        replace E := E.ext ex
        replace Bg9 := Bg9.ext ex
        replace Xg9 := Xg9.ext ex
        replace Bg10 := Bg10.ext ex
        refine wl_ef (ef_storeW rfl rfl (by rw [FX.size]; kernel_rfl) Bg9 (by rw [fe_size, FX.size]) FX.one) rfl ?_
        rintro _ wn5_9 ⟨rfl, Bg9, cg⟩
        replace Xg9 := Xg9.chg cg hg9
        replace Bg10 := Bg10.chg cg (by omega)
        replace Bg11 := Bg11.chg cg (by omega)
        replace HA := HA_g9.ext Xg9
        replace HB := HB_g9.ext Xg9
        replace HC := HC_g9.ext Xg9
        replace E := E_g9.ext Xg9
        refine wl_ef (ef_storeW rfl rfl (by rw [FY.size]; kernel_rfl) Bg10 (by rw [fe_size, FY.size]) FY.one) rfl ?_
        rintro _ wn5_10 ⟨rfl, Bg10, cg⟩
        replace Xg9 := Xg9.chg cg hg10
        replace Bg9 := Bg9.chg cg (by omega)
        replace Bg11 := Bg11.chg cg (by omega)
        replace HA := HA_g9.ext Xg9
        replace HB := HB_g9.ext Xg9
        replace HC := HC_g9.ext Xg9
        replace E := E_g9.ext Xg9
        refine wl_ef (ef_storeW rfl rfl (by rw [FZ.size]; kernel_rfl) Bg11 (by rw [fe_size, FZ.size]) FZ.one) rfl ?_
        rintro _ wn5_11 ⟨rfl, Bg11, cg⟩
        replace Xg9 := Xg9.chg cg hg11
        replace Bg9 := Bg9.chg cg (by omega)
        replace Bg10 := Bg10.chg cg (by omega)
        replace HA := HA_g9.ext Xg9
        replace HB := HB_g9.ext Xg9
        replace HC := HC_g9.ext Xg9
        replace E := E_g9.ext Xg9
        refine wl_nil ?_
        refine wq_then_norm (hK9 ?_)
        refine wc_seq ?_; intro K10 hK10
        refine wc_region ?_
        refine wl_y ((y_loadw rfl Try.underlying27 rfl (by rw [FX.size]; kernel_rfl) Bg9)) rfl ?_
        have HA_g12 := HA
        have HB_g12 := HB
        have HC_g12 := HC
        have E_g12 := E
        have Bg9_g12 := Bg9
        have Bg10_g12 := Bg10
        have Bg11_g12 := Bg11
        refine wl_ef (ef_alloc (Z := fe (fun _ => 0)) (by kernel_rfl)) rfl ?_
        rintro _ wn6_1 ⟨g12, rfl, Bg12, hg12, ex⟩
        have Xg12 := ex
        replace HA := HA.ext ex
        replace HB := HB.ext ex
        replace HC := HC.ext ex
        replace E := E.ext ex
        replace Bg9 := Bg9.ext ex
        replace Bg10 := Bg10.ext ex
        replace Bg11 := Bg11.ext ex
        have l9_12 := Nat.lt_of_lt_of_le Bg9_g12.lt hg12; have l10_12 := Nat.lt_of_lt_of_le Bg10_g12.lt hg12; have l11_12 := Nat.lt_of_lt_of_le Bg11_g12.lt hg12; have hw12 := Nat.le_trans E_g12.size hg12
        refine wl_ef (ef_storeW rfl rfl (by rw [FX.size]; kernel_rfl) Bg12 (by rw [fe_size, FX.size]) FX.one) rfl ?_
        rintro _ wn6_2 ⟨rfl, Bg12, cg⟩
        replace Xg12 := Xg12.chg cg hg12
        replace HA := HA_g12.ext Xg12
        replace HB := HB_g12.ext Xg12
        replace HC := HC_g12.ext Xg12
        replace E := E_g12.ext Xg12
        replace Bg9 := Bg9_g12.ext Xg12
        replace Bg10 := Bg10_g12.ext Xg12
        replace Bg11 := Bg11_g12.ext Xg12
        refine wl_nil ?_
        refine wq_then_norm (hK10 ?_)
        refine wc_seq ?_; intro K11 hK11
        refine wc_seq ?_; intro K12 hK12
        refine wc_region ?_
        refine wl_y (y_assign rfl) rfl ?_
        refine wl_nil ?_
        refine wq_then_norm (hK12 ?_)
        refine wc_block ?_
        refine wc_loop (fun n' L wr => ∃ (i : Nat) (cw : Array Value), L = [(3, .int .i64 z), (9, .pointer (some ⟨g9, 0, none⟩)), (10, .pointer (some ⟨g10, 0, none⟩)), (11, .pointer (some ⟨g11, 0, none⟩)), (12, .pointer (some ⟨g12, 0, none⟩)), (13, .int .i64 (i : Int))] ∧ n' = 20 - i ∧ (i ≤ 20 ∧ FE cw x ∧ Ext w wr ∧ Blk wr g9 27 cx ∧ Blk wr g10 27 cy ∧ Blk wr g11 27 cz ∧ Blk wr g12 27 cw)) _ _ ⟨0, cx, rfl, rfl, by omega, FX, E, Bg9, Bg10, Bg11, Bg12⟩ ⟨(by first | rfl | exact congrArg some (int_val (by omega))), rfl, rfl, rfl, rfl, (by first | rfl | exact congrArg some (int_val (by omega))), trivial⟩ ?_
        rintro KL1 n' L wr ⟨i, cw, rfl, rfl, hi, FW, E, C9, C10, C11, C12⟩ hL1
        refine wc_seq ?_; intro K13 hK13
        refine wc_seq ?_; intro K14 hK14
        refine wc_region ?_
        refine wl_y (y_move rfl) rfl ?_
        refine wl_y (y_move rfl) rfl ?_
        refine wl_yask (y_lss rfl rfl) rfl (fun h8 => ?_) (fun h8 => ?_)
        · skip
          refine wl_y (y_move rfl) rfl ?_
          refine wl_gy 42 rfl rfl (y_move rfl) rfl ?_
          refine wl_gyask 42 rfl rfl (y_lss rfl rfl) rfl (fun h9 => ?_) (fun h9 => ?_)
          · skip
            refine wl_y (y_pickt rfl rfl) rfl ?_
            refine wl_nil ?_
            refine wq_then_norm (hK14 ?_)
            refine wc_true rfl rfl ?_
            refine wc_skip ?_
            refine wq_then_norm (hK13 ?_)
            refine wc_seq ?_; intro K15 hK15
            refine wc_block ?_
            refine wc_draw (by kernel_rfl) 10 rfl ?_; intro wd10 ex hd10
            replace E := E.ext ex
            replace C9 := C9.ext ex
            replace C10 := C10.ext ex
            replace C11 := C11.ext ex
            replace C12 := C12.ext ex
            refine wm_y 0 rfl (by kernel_rfl) ((y_loadw rfl Try.underlying27 rfl (by rw [FW.size]; kernel_rfl) C12)) rfl ?_
            refine wm_y 1 rfl (by kernel_rfl) ((y_loadw rfl Try.underlying27 rfl (by rw [FY.size]; kernel_rfl) C10)) rfl ?_
            refine wm_y 3 rfl (by kernel_rfl) ((y_loadw rfl Try.underlying27 rfl (by rw [FZ.size]; kernel_rfl) C11)) rfl ?_
            refine wm_y 5 rfl (by kernel_rfl) ((y_loadw rfl Try.underlying27 rfl (by rw [FZ.size]; kernel_rfl) C11)) rfl ?_
            refine wm_y 7 rfl (by kernel_rfl) ((y_loadw rfl Try.underlying27 rfl (by rw [FY.size]; kernel_rfl) C10)) rfl ?_
            refine wm_one 2 (by kernel_rfl) ?_; refine om_call rfl Try.func25 rfl rfl rfl (Fadd_any FW FY _) rfl ?_
            rintro e w6 ⟨c6, rfl, F6, ex⟩
            refine ⟨_, rfl, .inr ex, ?_⟩
            replace E := E.ext ex
            replace C9 := C9.ext ex
            replace C10 := C10.ext ex
            replace C11 := C11.ext ex
            replace C12 := C12.ext ex
            skip
            refine wm_one 4 (by kernel_rfl) ?_; refine om_call rfl Try.func27 rfl rfl rfl (Fsub_any F6 FZ _) rfl ?_
            rintro e w7 ⟨c7, rfl, F7, ex⟩
            refine ⟨_, rfl, .inr ex, ?_⟩
            replace E := E.ext ex
            replace C9 := C9.ext ex
            replace C10 := C10.ext ex
            replace C11 := C11.ext ex
            replace C12 := C12.ext ex
            skip
            refine wm_one 6 (by kernel_rfl) ?_; refine om_call rfl Try.func25 rfl rfl rfl (Fadd_any F7 FZ _) rfl ?_
            rintro e w8 ⟨c8, rfl, F8, ex⟩
            refine ⟨_, rfl, .inr ex, ?_⟩
            replace E := E.ext ex
            replace C9 := C9.ext ex
            replace C10 := C10.ext ex
            replace C11 := C11.ext ex
            replace C12 := C12.ext ex
            skip
            refine wm_one 8 (by kernel_rfl) ?_; refine om_call rfl Try.func27 rfl rfl rfl (Fsub_any F8 FY _) rfl ?_
            rintro e w9 ⟨c9, rfl, F9, ex⟩
            refine ⟨_, rfl, .inr ex, ?_⟩
            replace E := E.ext ex
            replace C9 := C9.ext ex
            replace C10 := C10.ext ex
            replace C11 := C11.ext ex
            replace C12 := C12.ext ex
            replace F9 := F9.congr (show _ = x by grind)
            refine wm_one 9 (by kernel_rfl) ?_; refine om_ef rfl (ef_storeW rfl rfl (by rw [F9.size]; kernel_rfl) C12 (by rw [FW.size, F9.size]) F9.one) rfl ?_
            rintro _ w10 ⟨rfl, B10, cg⟩
            refine ⟨.inl rfl, ?_⟩
            replace E := E.chg cg hw12; replace C9 := C9.chg cg (by omega); replace C10 := C10.chg cg (by omega); replace C11 := C11.chg cg (by omega); replace C12 := B10
            refine wm_done (by kernel_rfl) ?_
            refine wq_nop ?_
            refine wq_blk_norm ?_
            refine wq_then_norm (hK15 ?_)
            refine wc_region ?_
            refine wl_y (y_move rfl) rfl ?_
            refine wl_y (y_add rfl rfl (i64_ok (by omega) (by omega))) rfl ?_
            refine wl_y (y_assign rfl) rfl ?_
            refine wl_nil ?_
            refine wq_then_norm ?_
            refine hL1 _ _ ⟨i + 1, c9, rfl, rfl, by omega, F9, E, C9, C10, C11, C12⟩ (by omega) ⟨(by first | rfl | exact congrArg some (int_val (by omega))), rfl, rfl, rfl, rfl, (by first | rfl | exact congrArg some (int_val (by omega))), trivial⟩
          · skip
            refine wl_y (y_pickt rfl rfl) rfl ?_
            refine wl_nil ?_
            refine wq_then_norm (hK14 ?_)
            refine wc_false rfl rfl ?_
            refine wc_exit ?_
            refine wq_then_exit ?_
            refine wq_then_exit ?_
            refine wq_blk_hit ?_
            refine wq_then_norm (hK11 ?_)
            refine wc_seq ?_; intro K16 hK16
            refine wc_seq ?_; intro K17 hK17
            skip
            refine wc_draw (by kernel_rfl) 54 rfl ?_; intro wd11 ex hd11
            replace E := E.ext ex
            replace C9 := C9.ext ex
            replace C10 := C10.ext ex
            replace C11 := C11.ext ex
            replace C12 := C12.ext ex
            refine wm_y 0 rfl (by kernel_rfl) ((y_loadw rfl Try.underlying27 rfl (by rw [FW.size]; kernel_rfl) C12)) rfl ?_
            refine wm_y 1 rfl (by kernel_rfl) ((y_loadw rfl Try.underlying27 rfl (by rw [FX.size]; kernel_rfl) C9)) rfl ?_
            refine wm_one 2 (by kernel_rfl) ?_; refine om_call rfl Try.func33 rfl rfl rfl (Fsame_any FW FX _) rfl ?_
            rintro e w21 ⟨rfl, ex⟩
            refine ⟨_, rfl, .inr ex, ?_⟩
            replace E := E.ext ex
            replace C9 := C9.ext ex
            replace C10 := C10.ext ex
            replace C11 := C11.ext ex
            replace C12 := C12.ext ex
            rw [decide_eq_true (by grind)]
            refine wm_y 3 rfl (by kernel_rfl) (y_not rfl) rfl ?_
            refine wm_y 4 rfl (by kernel_rfl) (y_move rfl) rfl ?_
            refine wm_gy 5 rfl (by kernel_rfl) 61 rfl rfl ((y_loadw rfl Try.underlying27 rfl (by rw [FX.size]; kernel_rfl) C9)) rfl ?_
            refine wm_gy 6 rfl (by kernel_rfl) 61 rfl rfl ((y_loadw rfl Try.underlying27 rfl (by rw [FY.size]; kernel_rfl) C10)) rfl ?_
            refine wm_gy 7 rfl (by kernel_rfl) 61 rfl rfl ((y_loadw rfl Try.underlying27 rfl (by rw [FZ.size]; kernel_rfl) C11)) rfl ?_
            refine wm_gy 10 rfl (by kernel_rfl) 61 rfl rfl ((y_loadw rfl Try.underlying27 rfl (by rw [FX.size]; kernel_rfl) C9)) rfl ?_
            refine wm_gy 11 rfl (by kernel_rfl) 61 rfl rfl ((y_loadw rfl Try.underlying27 rfl (by rw [FY.size]; kernel_rfl) C10)) rfl ?_
            refine wm_gy 13 rfl (by kernel_rfl) 61 rfl rfl ((y_loadw rfl Try.underlying27 rfl (by rw [FX.size]; kernel_rfl) C9)) rfl ?_
            refine wm_gy 14 rfl (by kernel_rfl) 61 rfl rfl ((y_loadw rfl Try.underlying27 rfl (by rw [FZ.size]; kernel_rfl) C11)) rfl ?_
            refine wm_one 8 (by kernel_rfl) ?_; refine om_gcall rfl 61 rfl rfl Try.func25 rfl rfl rfl (Fadd_any FY FZ _) rfl ?_
            rintro e w22 ⟨c22, rfl, F22, ex⟩
            refine ⟨_, rfl, .inr ex, ?_⟩
            replace E := E.ext ex
            replace C9 := C9.ext ex
            replace C10 := C10.ext ex
            replace C11 := C11.ext ex
            replace C12 := C12.ext ex
            skip
            refine wm_one 9 (by kernel_rfl) ?_; refine om_gcall rfl 61 rfl rfl Try.func30 rfl rfl rfl (Fmul_any FX F22 _) rfl ?_
            rintro e w23 ⟨c23, rfl, F23, ex⟩
            refine ⟨_, rfl, .inr ex, ?_⟩
            replace E := E.ext ex
            replace C9 := C9.ext ex
            replace C10 := C10.ext ex
            replace C11 := C11.ext ex
            replace C12 := C12.ext ex
            skip
            refine wm_one 12 (by kernel_rfl) ?_; refine om_gcall rfl 61 rfl rfl Try.func30 rfl rfl rfl (Fmul_any FX FY _) rfl ?_
            rintro e w24 ⟨c24, rfl, F24, ex⟩
            refine ⟨_, rfl, .inr ex, ?_⟩
            replace E := E.ext ex
            replace C9 := C9.ext ex
            replace C10 := C10.ext ex
            replace C11 := C11.ext ex
            replace C12 := C12.ext ex
            skip
            refine wm_one 15 (by kernel_rfl) ?_; refine om_gcall rfl 61 rfl rfl Try.func30 rfl rfl rfl (Fmul_any FX FZ _) rfl ?_
            rintro e w25 ⟨c25, rfl, F25, ex⟩
            refine ⟨_, rfl, .inr ex, ?_⟩
            replace E := E.ext ex
            replace C9 := C9.ext ex
            replace C10 := C10.ext ex
            replace C11 := C11.ext ex
            replace C12 := C12.ext ex
            skip
            refine wm_one 16 (by kernel_rfl) ?_; refine om_gcall rfl 61 rfl rfl Try.func25 rfl rfl rfl (Fadd_any F24 F25 _) rfl ?_
            rintro e w26 ⟨c26, rfl, F26, ex⟩
            refine ⟨_, rfl, .inr ex, ?_⟩
            replace E := E.ext ex
            replace C9 := C9.ext ex
            replace C10 := C10.ext ex
            replace C11 := C11.ext ex
            replace C12 := C12.ext ex
            skip
            refine wm_one 17 (by kernel_rfl) ?_; refine om_gcall rfl 61 rfl rfl Try.func33 rfl rfl rfl (Fsame_any F23 F26 _) rfl ?_
            rintro e w27 ⟨rfl, ex⟩
            refine ⟨_, rfl, .inr ex, ?_⟩
            replace E := E.ext ex
            replace C9 := C9.ext ex
            replace C10 := C10.ext ex
            replace C11 := C11.ext ex
            replace C12 := C12.ext ex
            rw [decide_eq_true (by grind)]
            refine wm_gy 18 rfl (by kernel_rfl) 61 rfl rfl (y_not rfl) rfl ?_
            refine wm_y 19 rfl (by kernel_rfl) (y_pickf rfl rfl) rfl ?_
            refine wm_y 20 rfl (by kernel_rfl) (y_move rfl) rfl ?_
            refine wm_gy 21 rfl (by kernel_rfl) 77 rfl rfl ((y_loadw rfl Try.underlying27 rfl (by rw [FX.size]; kernel_rfl) C9)) rfl ?_
            refine wm_gy 22 rfl (by kernel_rfl) 77 rfl rfl ((y_loadw rfl Try.underlying27 rfl (by rw [FY.size]; kernel_rfl) C10)) rfl ?_
            refine wm_gy 24 rfl (by kernel_rfl) 77 rfl rfl ((y_loadw rfl Try.underlying27 rfl (by rw [FZ.size]; kernel_rfl) C11)) rfl ?_
            refine wm_gy 26 rfl (by kernel_rfl) 77 rfl rfl ((y_loadw rfl Try.underlying27 rfl (by rw [FX.size]; kernel_rfl) C9)) rfl ?_
            refine wm_gy 27 rfl (by kernel_rfl) 77 rfl rfl ((y_loadw rfl Try.underlying27 rfl (by rw [FY.size]; kernel_rfl) C10)) rfl ?_
            refine wm_gy 28 rfl (by kernel_rfl) 77 rfl rfl ((y_loadw rfl Try.underlying27 rfl (by rw [FZ.size]; kernel_rfl) C11)) rfl ?_
            refine wm_one 23 (by kernel_rfl) ?_; refine om_gcall rfl 77 rfl rfl Try.func30 rfl rfl rfl (Fmul_any FX FY _) rfl ?_
            rintro e w28 ⟨c28, rfl, F28, ex⟩
            refine ⟨_, rfl, .inr ex, ?_⟩
            replace E := E.ext ex
            replace C9 := C9.ext ex
            replace C10 := C10.ext ex
            replace C11 := C11.ext ex
            replace C12 := C12.ext ex
            skip
            refine wm_one 25 (by kernel_rfl) ?_; refine om_gcall rfl 77 rfl rfl Try.func30 rfl rfl rfl (Fmul_any F28 FZ _) rfl ?_
            rintro e w29 ⟨c29, rfl, F29, ex⟩
            refine ⟨_, rfl, .inr ex, ?_⟩
            replace E := E.ext ex
            replace C9 := C9.ext ex
            replace C10 := C10.ext ex
            replace C11 := C11.ext ex
            replace C12 := C12.ext ex
            skip
            refine wm_one 29 (by kernel_rfl) ?_; refine om_gcall rfl 77 rfl rfl Try.func30 rfl rfl rfl (Fmul_any FY FZ _) rfl ?_
            rintro e w30 ⟨c30, rfl, F30, ex⟩
            refine ⟨_, rfl, .inr ex, ?_⟩
            replace E := E.ext ex
            replace C9 := C9.ext ex
            replace C10 := C10.ext ex
            replace C11 := C11.ext ex
            replace C12 := C12.ext ex
            skip
            refine wm_one 30 (by kernel_rfl) ?_; refine om_gcall rfl 77 rfl rfl Try.func30 rfl rfl rfl (Fmul_any FX F30 _) rfl ?_
            rintro e w31 ⟨c31, rfl, F31, ex⟩
            refine ⟨_, rfl, .inr ex, ?_⟩
            replace E := E.ext ex
            replace C9 := C9.ext ex
            replace C10 := C10.ext ex
            replace C11 := C11.ext ex
            replace C12 := C12.ext ex
            skip
            refine wm_one 31 (by kernel_rfl) ?_; refine om_gcall rfl 77 rfl rfl Try.func33 rfl rfl rfl (Fsame_any F29 F31 _) rfl ?_
            rintro e w32 ⟨rfl, ex⟩
            refine ⟨_, rfl, .inr ex, ?_⟩
            replace E := E.ext ex
            replace C9 := C9.ext ex
            replace C10 := C10.ext ex
            replace C11 := C11.ext ex
            replace C12 := C12.ext ex
            rw [decide_eq_true (by grind)]
            refine wm_gy 32 rfl (by kernel_rfl) 77 rfl rfl (y_not rfl) rfl ?_
            refine wm_y 33 rfl (by kernel_rfl) (y_pickf rfl rfl) rfl ?_
            refine wm_y 34 rfl (by kernel_rfl) (y_move rfl) rfl ?_
            refine wm_gy 35 rfl (by kernel_rfl) 91 rfl rfl ((y_loadw rfl Try.underlying27 rfl (by rw [FX.size]; kernel_rfl) C9)) rfl ?_
            refine wm_gy 36 rfl (by kernel_rfl) 91 rfl rfl ((y_loadw rfl Try.underlying27 rfl (by rw [FY.size]; kernel_rfl) C10)) rfl ?_
            refine wm_gy 38 rfl (by kernel_rfl) 91 rfl rfl ((y_loadw rfl Try.underlying27 rfl (by rw [FY.size]; kernel_rfl) C10)) rfl ?_
            refine wm_gy 39 rfl (by kernel_rfl) 91 rfl rfl ((y_loadw rfl Try.underlying27 rfl (by rw [FX.size]; kernel_rfl) C9)) rfl ?_
            refine wm_one 37 (by kernel_rfl) ?_; refine om_gcall rfl 91 rfl rfl Try.func30 rfl rfl rfl (Fmul_any FX FY _) rfl ?_
            rintro e w33 ⟨c33, rfl, F33, ex⟩
            refine ⟨_, rfl, .inr ex, ?_⟩
            replace E := E.ext ex
            replace C9 := C9.ext ex
            replace C10 := C10.ext ex
            replace C11 := C11.ext ex
            replace C12 := C12.ext ex
            skip
            refine wm_one 40 (by kernel_rfl) ?_; refine om_gcall rfl 91 rfl rfl Try.func30 rfl rfl rfl (Fmul_any FY FX _) rfl ?_
            rintro e w34 ⟨c34, rfl, F34, ex⟩
            refine ⟨_, rfl, .inr ex, ?_⟩
            replace E := E.ext ex
            replace C9 := C9.ext ex
            replace C10 := C10.ext ex
            replace C11 := C11.ext ex
            replace C12 := C12.ext ex
            skip
            refine wm_one 41 (by kernel_rfl) ?_; refine om_gcall rfl 91 rfl rfl Try.func33 rfl rfl rfl (Fsame_any F33 F34 _) rfl ?_
            rintro e w35 ⟨rfl, ex⟩
            refine ⟨_, rfl, .inr ex, ?_⟩
            replace E := E.ext ex
            replace C9 := C9.ext ex
            replace C10 := C10.ext ex
            replace C11 := C11.ext ex
            replace C12 := C12.ext ex
            rw [decide_eq_true (by grind)]
            refine wm_gy 42 rfl (by kernel_rfl) 91 rfl rfl (y_not rfl) rfl ?_
            refine wm_y 43 rfl (by kernel_rfl) (y_pickf rfl rfl) rfl ?_
            refine wm_y 44 rfl (by kernel_rfl) (y_move rfl) rfl ?_
            refine wm_gy 45 rfl (by kernel_rfl) 101 rfl rfl ((y_loadw rfl Try.underlying27 rfl (by rw [FX.size]; kernel_rfl) C9)) rfl ?_
            refine wm_gy 46 rfl (by kernel_rfl) 101 rfl rfl ((y_loadw rfl Try.underlying27 rfl (by rw [FY.size]; kernel_rfl) C10)) rfl ?_
            refine wm_gy 48 rfl (by kernel_rfl) 101 rfl rfl ((y_loadw rfl Try.underlying27 rfl (by rw [FY.size]; kernel_rfl) C10)) rfl ?_
            refine wm_gy 49 rfl (by kernel_rfl) 101 rfl rfl ((y_loadw rfl Try.underlying27 rfl (by rw [FX.size]; kernel_rfl) C9)) rfl ?_
            refine wm_one 47 (by kernel_rfl) ?_; refine om_gcall rfl 101 rfl rfl Try.func25 rfl rfl rfl (Fadd_any FX FY _) rfl ?_
            rintro e w36 ⟨c36, rfl, F36, ex⟩
            refine ⟨_, rfl, .inr ex, ?_⟩
            replace E := E.ext ex
            replace C9 := C9.ext ex
            replace C10 := C10.ext ex
            replace C11 := C11.ext ex
            replace C12 := C12.ext ex
            skip
            refine wm_one 50 (by kernel_rfl) ?_; refine om_gcall rfl 101 rfl rfl Try.func25 rfl rfl rfl (Fadd_any FY FX _) rfl ?_
            rintro e w37 ⟨c37, rfl, F37, ex⟩
            refine ⟨_, rfl, .inr ex, ?_⟩
            replace E := E.ext ex
            replace C9 := C9.ext ex
            replace C10 := C10.ext ex
            replace C11 := C11.ext ex
            replace C12 := C12.ext ex
            skip
            refine wm_one 51 (by kernel_rfl) ?_; refine om_gcall rfl 101 rfl rfl Try.func33 rfl rfl rfl (Fsame_any F36 F37 _) rfl ?_
            rintro e w38 ⟨rfl, ex⟩
            refine ⟨_, rfl, .inr ex, ?_⟩
            replace E := E.ext ex
            replace C9 := C9.ext ex
            replace C10 := C10.ext ex
            replace C11 := C11.ext ex
            replace C12 := C12.ext ex
            rw [decide_eq_true (by grind)]
            refine wm_gy 52 rfl (by kernel_rfl) 101 rfl rfl (y_not rfl) rfl ?_
            refine wm_y 53 rfl (by kernel_rfl) (y_pickf rfl rfl) rfl ?_
            refine wm_done (by kernel_rfl) ?_
            refine wq_nop ?_
            refine wq_then_norm (hK17 ?_)
            refine wc_false rfl rfl ?_
            refine wc_skip ?_
            refine wq_then_norm (hK16 ?_)
            refine wc_seq ?_; intro K18 hK18
            refine wc_seq ?_; intro K19 hK19
            refine wc_draw (by kernel_rfl) 28 rfl ?_; intro wd13 ex hd13
            replace E := E.ext ex
            replace C9 := C9.ext ex
            replace C10 := C10.ext ex
            replace C11 := C11.ext ex
            replace C12 := C12.ext ex
            refine wm_y 0 rfl (by kernel_rfl) ((y_loadw rfl Try.underlying27 rfl (by rw [FX.size]; kernel_rfl) C9)) rfl ?_
            refine wm_y 1 rfl (by kernel_rfl) ((y_loadw rfl Try.underlying27 rfl (by rw [FX.size]; kernel_rfl) C9)) rfl ?_
            refine wm_one 2 (by kernel_rfl) ?_; refine om_call rfl Try.func27 rfl rfl rfl (Fsub_any FX FX _) rfl ?_
            rintro e w39 ⟨c39, rfl, F39, ex⟩
            refine ⟨_, rfl, .inr ex, ?_⟩
            replace E := E.ext ex
            replace C9 := C9.ext ex
            replace C10 := C10.ext ex
            replace C11 := C11.ext ex
            replace C12 := C12.ext ex
            skip
            refine wm_one 3 (by kernel_rfl) ?_; refine om_call rfl Try.func35 rfl rfl rfl (Fzero_any F39 _) rfl ?_
            rintro e w40 ⟨rfl, ex⟩
            refine ⟨_, rfl, .inr ex, ?_⟩
            replace E := E.ext ex
            replace C9 := C9.ext ex
            replace C10 := C10.ext ex
            replace C11 := C11.ext ex
            replace C12 := C12.ext ex
            rw [decide_eq_true (by grind)]
            refine wm_y 4 rfl (by kernel_rfl) (y_not rfl) rfl ?_
            refine wm_y 5 rfl (by kernel_rfl) (y_move rfl) rfl ?_
            refine wm_gy 6 rfl (by kernel_rfl) 116 rfl rfl ((y_loadw rfl Try.underlying27 rfl (by rw [FX.size]; kernel_rfl) C9)) rfl ?_
            refine wm_gy 7 rfl (by kernel_rfl) 116 rfl rfl ((y_loadw rfl Try.underlying27 rfl (by rw [FX.size]; kernel_rfl) C9)) rfl ?_
            refine wm_one 8 (by kernel_rfl) ?_; refine om_gcall rfl 116 rfl rfl Try.func29 rfl rfl rfl (Fneg_any FX _) rfl ?_
            rintro e w41 ⟨c41, rfl, F41, ex⟩
            refine ⟨_, rfl, .inr ex, ?_⟩
            replace E := E.ext ex
            replace C9 := C9.ext ex
            replace C10 := C10.ext ex
            replace C11 := C11.ext ex
            replace C12 := C12.ext ex
            skip
            refine wm_one 9 (by kernel_rfl) ?_; refine om_gcall rfl 116 rfl rfl Try.func25 rfl rfl rfl (Fadd_any FX F41 _) rfl ?_
            rintro e w42 ⟨c42, rfl, F42, ex⟩
            refine ⟨_, rfl, .inr ex, ?_⟩
            replace E := E.ext ex
            replace C9 := C9.ext ex
            replace C10 := C10.ext ex
            replace C11 := C11.ext ex
            replace C12 := C12.ext ex
            skip
            refine wm_one 10 (by kernel_rfl) ?_; refine om_gcall rfl 116 rfl rfl Try.func35 rfl rfl rfl (Fzero_any F42 _) rfl ?_
            rintro e w43 ⟨rfl, ex⟩
            refine ⟨_, rfl, .inr ex, ?_⟩
            replace E := E.ext ex
            replace C9 := C9.ext ex
            replace C10 := C10.ext ex
            replace C11 := C11.ext ex
            replace C12 := C12.ext ex
            rw [decide_eq_true (by grind)]
            refine wm_gy 11 rfl (by kernel_rfl) 116 rfl rfl (y_not rfl) rfl ?_
            refine wm_y 12 rfl (by kernel_rfl) (y_pickf rfl rfl) rfl ?_
            refine wm_y 13 rfl (by kernel_rfl) (y_move rfl) rfl ?_
            refine wm_gy 14 rfl (by kernel_rfl) 124 rfl rfl ((y_loadw rfl Try.underlying27 rfl (by rw [FX.size]; kernel_rfl) C9)) rfl ?_
            refine wm_gy 17 rfl (by kernel_rfl) 124 rfl rfl ((y_loadw rfl Try.underlying27 rfl (by rw [FX.size]; kernel_rfl) C9)) rfl ?_
            refine wm_one 15 (by kernel_rfl) ?_; refine om_gcall rfl 124 rfl rfl Try.func23 rfl rfl rfl (Fnum_any 1 _ (by omega)) rfl ?_
            rintro e wa1 ⟨ca1, rfl, Fa1, ex⟩
            refine ⟨_, rfl, .inr ex, ?_⟩
            replace E := E.ext ex
            replace C9 := C9.ext ex
            replace C10 := C10.ext ex
            replace C11 := C11.ext ex
            replace C12 := C12.ext ex
            skip
            refine wm_one 16 (by kernel_rfl) ?_; refine om_gcall rfl 124 rfl rfl Try.func30 rfl rfl rfl (Fmul_any FX Fa1 _) rfl ?_
            rintro e w44 ⟨c44, rfl, F44, ex⟩
            refine ⟨_, rfl, .inr ex, ?_⟩
            replace E := E.ext ex
            replace C9 := C9.ext ex
            replace C10 := C10.ext ex
            replace C11 := C11.ext ex
            replace C12 := C12.ext ex
            skip
            refine wm_one 18 (by kernel_rfl) ?_; refine om_gcall rfl 124 rfl rfl Try.func33 rfl rfl rfl (Fsame_any F44 FX _) rfl ?_
            rintro e wa2 ⟨rfl, ex⟩
            refine ⟨_, rfl, .inr ex, ?_⟩
            replace E := E.ext ex
            replace C9 := C9.ext ex
            replace C10 := C10.ext ex
            replace C11 := C11.ext ex
            replace C12 := C12.ext ex
            rw [decide_eq_true (by rw [Fp.of_one]; grind)]
            refine wm_gy 19 rfl (by kernel_rfl) 124 rfl rfl (y_not rfl) rfl ?_
            refine wm_y 20 rfl (by kernel_rfl) (y_pickf rfl rfl) rfl ?_
            refine wm_y 21 rfl (by kernel_rfl) (y_move rfl) rfl ?_
            refine wm_gy 22 rfl (by kernel_rfl) 132 rfl rfl ((y_loadw rfl Try.underlying27 rfl (by rw [FX.size]; kernel_rfl) C9)) rfl ?_
            refine wm_gy 23 rfl (by kernel_rfl) 132 rfl rfl (y_build rfl (cells := fe (fun _ => 0)) (by kernel_rfl)) rfl ?_
            refine wm_one 24 (by kernel_rfl) ?_; refine om_gcall rfl 132 rfl rfl Try.func30 rfl rfl rfl (Fmul_any FX FE.zero _) rfl ?_
            rintro e w45 ⟨c45, rfl, F45, ex⟩
            refine ⟨_, rfl, .inr ex, ?_⟩
            replace E := E.ext ex
            replace C9 := C9.ext ex
            replace C10 := C10.ext ex
            replace C11 := C11.ext ex
            replace C12 := C12.ext ex
            skip
            refine wm_one 25 (by kernel_rfl) ?_; refine om_gcall rfl 132 rfl rfl Try.func35 rfl rfl rfl (Fzero_any F45 _) rfl ?_
            rintro e w46 ⟨rfl, ex⟩
            refine ⟨_, rfl, .inr ex, ?_⟩
            replace E := E.ext ex
            replace C9 := C9.ext ex
            replace C10 := C10.ext ex
            replace C11 := C11.ext ex
            replace C12 := C12.ext ex
            rw [decide_eq_true (by grind)]
            refine wm_gy 26 rfl (by kernel_rfl) 132 rfl rfl (y_not rfl) rfl ?_
            refine wm_y 27 rfl (by kernel_rfl) (y_pickf rfl rfl) rfl ?_
            refine wm_done (by kernel_rfl) ?_
            refine wq_nop ?_
            refine wq_then_norm (hK19 ?_)
            refine wc_false rfl rfl ?_
            refine wc_skip ?_
            refine wq_then_norm (hK18 ?_)
            refine wc_seq ?_; intro K20 hK20
            refine wc_draw (by kernel_rfl) 6 rfl ?_; intro wd15 ex hd15
            replace E := E.ext ex
            replace C9 := C9.ext ex
            replace C10 := C10.ext ex
            replace C11 := C11.ext ex
            replace C12 := C12.ext ex
            refine wm_y 0 rfl (by kernel_rfl) ((y_loadw rfl Try.underlying27 rfl (by rw [FX.size]; kernel_rfl) C9)) rfl ?_
            refine wm_y 1 rfl (by kernel_rfl) ((y_loadw rfl Try.underlying27 rfl (by rw [FX.size]; kernel_rfl) C9)) rfl ?_
            refine wm_two 2 4 (by kernel_rfl) ?_ ?_
            · skip
              refine om_call rfl Try.func45 rfl rfl rfl (Finv_any FX _) rfl ?_
              rintro e w47 ⟨c47, rfl, F47, ex⟩
              refine ⟨_, rfl, .inr ex, ?_⟩
              replace E := E.ext ex
              replace C9 := C9.ext ex
              replace C10 := C10.ext ex
              replace C11 := C11.ext ex
              replace C12 := C12.ext ex
              skip
              refine wm_two 3 4 (by kernel_rfl) ?_ ?_
              · skip
                refine om_call rfl Try.func30 rfl rfl rfl (Fmul_any FX F47 _) rfl ?_
                rintro e w48 ⟨c50, rfl, F50, ex⟩
                refine ⟨_, rfl, .inr ex, ?_⟩
                replace E := E.ext ex
                replace C9 := C9.ext ex
                replace C10 := C10.ext ex
                replace C11 := C11.ext ex
                replace C12 := C12.ext ex
                skip
                have E_g14 := E
                have C9_g14 := C9
                have C10_g14 := C10
                have C11_g14 := C11
                have C12_g14 := C12
                refine wm_one 4 (by kernel_rfl) ?_; refine om_ef rfl (ef_alloc (Z := fe (fun _ => 0)) (by kernel_rfl)) rfl ?_
                rintro _ wn15_4 ⟨g14, rfl, Bg14, hg14, ex⟩
                have Xg14 := ex
                refine ⟨.inr ex, ?_⟩
                replace E := E.ext ex
                replace C9 := C9.ext ex
                replace C10 := C10.ext ex
                replace C11 := C11.ext ex
                replace C12 := C12.ext ex
                refine wm_one 5 (by kernel_rfl) ?_; refine om_ef rfl (ef_storeW rfl rfl (by rw [F50.size]; kernel_rfl) Bg14 (by rw [fe_size, F50.size]) F50.one) rfl ?_
                rintro _ wn15_5 ⟨rfl, Bg14, cg⟩
                replace Xg14 := Xg14.chg cg hg14
                refine ⟨.inl rfl, ?_⟩
                replace E := E_g14.ext Xg14
                replace C9 := C9_g14.ext Xg14
                replace C10 := C10_g14.ext Xg14
                replace C11 := C11_g14.ext Xg14
                replace C12 := C12_g14.ext Xg14
                refine wm_done (by kernel_rfl) ?_
                refine wq_nop ?_
                refine wq_then_norm (hK20 ?_)
                refine wc_seq ?_; intro K21 hK21
                refine wc_region ?_
                refine wl_y ((y_loadw rfl Try.underlying27 rfl (by rw [FX.size]; kernel_rfl) C9)) rfl ?_
                refine wl_call Try.func32 rfl rfl rfl (Fsquare_any FX _) rfl ?_
                rintro e wb1 ⟨cb1, rfl, Fb1, ex⟩
                refine ⟨_, rfl, ?_⟩
                replace E := E.ext ex
                replace C9 := C9.ext ex
                replace C10 := C10.ext ex
                replace C11 := C11.ext ex
                replace C12 := C12.ext ex
                replace Bg14 := Bg14.ext ex
                skip
                refine wl_call Try.func47 rfl rfl rfl (Froot_any Fb1 _) rfl ?_
                rintro e wb2 ⟨cb2, rfl, Fb2, ex⟩
                refine ⟨_, rfl, ?_⟩
                replace E := E.ext ex
                replace C9 := C9.ext ex
                replace C10 := C10.ext ex
                replace C11 := C11.ext ex
                replace C12 := C12.ext ex
                replace Bg14 := Bg14.ext ex
                have hsq : Fp.Sqr (x * x) := Fp.sqr_of rfl; rw [if_pos hsq] at Fb2; rw [decide_eq_true hsq]; have hr2 := Fp.roots_two (Fp.root_sq hsq)
                refine wl_y (y_move rfl) rfl ?_
                refine wl_y (y_extract rfl rfl) rfl ?_
                refine wl_y (y_extract rfl rfl) rfl ?_
                have E_g15 := E
                have C9_g15 := C9
                have C10_g15 := C10
                have C11_g15 := C11
                have C12_g15 := C12
                have Bg14_g15 := Bg14
                refine wl_ef (ef_alloc (Z := fe (fun _ => 0)) (by kernel_rfl)) rfl ?_
                rintro _ wn16_6 ⟨g15, rfl, Bg15, hg15, ex⟩
                have Xg15 := ex
                replace E := E.ext ex
                replace C9 := C9.ext ex
                replace C10 := C10.ext ex
                replace C11 := C11.ext ex
                replace C12 := C12.ext ex
                replace Bg14 := Bg14.ext ex
                refine wl_ef (ef_storeW rfl rfl (by rw [Fb2.size]; kernel_rfl) Bg15 (by rw [fe_size, Fb2.size]) Fb2.one) rfl ?_
                rintro _ wn16_7 ⟨rfl, Bg15, cg⟩
                replace Xg15 := Xg15.chg cg hg15
                replace E := E_g15.ext Xg15
                replace C9 := C9_g15.ext Xg15
                replace C10 := C10_g15.ext Xg15
                replace C11 := C11_g15.ext Xg15
                replace C12 := C12_g15.ext Xg15
                replace Bg14 := Bg14_g15.ext Xg15
                refine wl_y (y_assign rfl) rfl ?_
                refine wl_nil ?_
                refine wq_then_norm (hK21 ?_)
                refine wc_seq ?_; intro K22 hK22
                refine wc_draw (by kernel_rfl) 38 rfl ?_; intro wd17 ex hd17
                replace E := E.ext ex
                replace C9 := C9.ext ex
                replace C10 := C10.ext ex
                replace C11 := C11.ext ex
                replace C12 := C12.ext ex
                replace Bg14 := Bg14.ext ex
                replace Bg15 := Bg15.ext ex
                refine wm_y 0 rfl (by kernel_rfl) ((y_loadw rfl Try.underlying27 rfl (by rw [FX.size]; kernel_rfl) C9)) rfl ?_
                refine wm_one 1 (by kernel_rfl) ?_; refine om_call rfl Try.func35 rfl rfl rfl (Fzero_any FX _) rfl ?_
                rintro e wc1 ⟨rfl, ex⟩
                refine ⟨_, rfl, .inr ex, ?_⟩
                replace E := E.ext ex
                replace C9 := C9.ext ex
                replace C10 := C10.ext ex
                replace C11 := C11.ext ex
                replace C12 := C12.ext ex
                replace Bg14 := Bg14.ext ex
                replace Bg15 := Bg15.ext ex
                skip
                refine wm_yask 2 rfl (by kernel_rfl) (y_move rfl) rfl (fun hx0 => ?_) (fun hx0 => ?_)
                · skip
                  refine wm_gy 3 rfl (by kernel_rfl) 151 rfl rfl ((y_loadw rfl Try.underlying27 rfl (by rw [F50.size]; kernel_rfl) Bg14)) rfl ?_
                  refine wm_one 4 (by kernel_rfl) ?_; refine om_gcall rfl 151 rfl rfl Try.func35 rfl rfl rfl (Fzero_any F50 _) rfl ?_
                  rintro e wc2 ⟨rfl, ex⟩
                  refine ⟨_, rfl, .inr ex, ?_⟩
                  replace E := E.ext ex
                  replace C9 := C9.ext ex
                  replace C10 := C10.ext ex
                  replace C11 := C11.ext ex
                  replace C12 := C12.ext ex
                  replace Bg14 := Bg14.ext ex
                  replace Bg15 := Bg15.ext ex
                  rw [decide_eq_true (by rw [hx0]; grind)]
                  refine wm_y 5 rfl (by kernel_rfl) (y_pickt rfl rfl) rfl ?_
                  refine wm_y 6 rfl (by kernel_rfl) (y_move rfl) rfl ?_
                  refine wm_gno 7 rfl (by kernel_rfl) 155 rfl rfl rfl rfl ?_
                  refine wm_gno 8 rfl (by kernel_rfl) 155 rfl rfl rfl rfl ?_
                  refine wm_gno 9 rfl (by kernel_rfl) 155 rfl rfl rfl rfl ?_
                  refine wm_gno 10 rfl (by kernel_rfl) 155 rfl rfl rfl rfl ?_
                  refine wm_gun 11 rfl (by kernel_rfl) 159 rfl rfl rfl ?_
                  refine wm_gun 12 rfl (by kernel_rfl) 159 rfl rfl rfl ?_
                  refine wm_gun 13 rfl (by kernel_rfl) 159 rfl rfl rfl ?_
                  refine wm_gno 14 rfl (by kernel_rfl) 155 rfl rfl rfl rfl ?_
                  refine wm_y 15 rfl (by kernel_rfl) (y_pickt rfl rfl) rfl ?_
                  refine wm_y 16 rfl (by kernel_rfl) (y_move rfl) rfl ?_
                  refine wm_gy 17 rfl (by kernel_rfl) 165 rfl rfl (y_move rfl) rfl ?_
                  refine wm_y 18 rfl (by kernel_rfl) (y_pickt rfl rfl) rfl ?_
                  refine wm_y 19 rfl (by kernel_rfl) (y_move rfl) rfl ?_
                  refine wm_gy 20 rfl (by kernel_rfl) 168 rfl rfl ((y_loadw rfl Try.underlying27 rfl (by rw [Fb2.size]; kernel_rfl) Bg15)) rfl ?_
                  refine wm_gy 21 rfl (by kernel_rfl) 168 rfl rfl ((y_loadw rfl Try.underlying27 rfl (by rw [FX.size]; kernel_rfl) C9)) rfl ?_
                  refine wm_one 22 (by kernel_rfl) ?_; refine om_gcall rfl 168 rfl rfl Try.func33 rfl rfl rfl (Fsame_any Fb2 FX _) rfl ?_
                  rintro e wc6 ⟨rfl, ex⟩
                  refine ⟨_, rfl, .inr ex, ?_⟩
                  replace E := E.ext ex
                  replace C9 := C9.ext ex
                  replace C10 := C10.ext ex
                  replace C11 := C11.ext ex
                  replace C12 := C12.ext ex
                  replace Bg14 := Bg14.ext ex
                  replace Bg15 := Bg15.ext ex
                  skip
                  refine wm_gyask 23 rfl (by kernel_rfl) 168 rfl rfl (y_move rfl) rfl (fun hrx => ?_) (fun hrx => ?_)
                  · skip
                    refine wm_gno 24 rfl (by kernel_rfl) 172 rfl rfl rfl rfl ?_
                    refine wm_gno 25 rfl (by kernel_rfl) 172 rfl rfl rfl rfl ?_
                    refine wm_gno 26 rfl (by kernel_rfl) 172 rfl rfl rfl rfl ?_
                    refine wm_gno 27 rfl (by kernel_rfl) 172 rfl rfl rfl rfl ?_
                    refine wm_gy 28 rfl (by kernel_rfl) 168 rfl rfl (y_pickt rfl rfl) rfl ?_
                    refine wm_y 29 rfl (by kernel_rfl) (y_pickt rfl rfl) rfl ?_
                    refine wm_y 30 rfl (by kernel_rfl) (y_move rfl) rfl ?_
                    refine wm_gy 31 rfl (by kernel_rfl) 179 rfl rfl ((y_loadw rfl Try.underlying27 rfl (by rw [FX.size]; kernel_rfl) C9)) rfl ?_
                    refine wm_gy 34 rfl (by kernel_rfl) 179 rfl rfl ((y_loadw rfl Try.underlying27 rfl (by rw [FX.size]; kernel_rfl) C9)) rfl ?_
                    refine wm_one 32 (by kernel_rfl) ?_; refine om_gcall rfl 179 rfl rfl Try.func51 rfl rfl rfl (fbytes_any FX _) rfl ?_
                    rintro e wc9 ⟨gb, rfl, hgb, Bb, ex⟩
                    refine ⟨_, rfl, .inr ex, ?_⟩
                    replace E := E.ext ex
                    replace C9 := C9.ext ex
                    replace C10 := C10.ext ex
                    replace C11 := C11.ext ex
                    replace C12 := C12.ext ex
                    replace Bg14 := Bg14.ext ex
                    replace Bg15 := Bg15.ext ex
                    skip
                    refine wm_one 33 (by kernel_rfl) ?_; refine om_gcall rfl 179 rfl rfl Try.func19 rfl rfl rfl (Fof_any _ 32 32 _ _ (bs_blk' Bb (Fp.le_length 32 _))) rfl ?_
                    rintro e wd1 ⟨cd1, rfl, Fd1, ex⟩
                    refine ⟨_, rfl, .inr ex, ?_⟩
                    replace E := E.ext ex
                    replace C9 := C9.ext ex
                    replace C10 := C10.ext ex
                    replace C11 := C11.ext ex
                    replace C12 := C12.ext ex
                    replace Bg14 := Bg14.ext ex
                    replace Bg15 := Bg15.ext ex
                    rw [Fp.ofB_le x] at Fd1
                    refine wm_one 35 (by kernel_rfl) ?_; refine om_gcall rfl 179 rfl rfl Try.func33 rfl rfl rfl (Fsame_any Fd1 FX _) rfl ?_
                    rintro e wd2 ⟨rfl, ex⟩
                    refine ⟨_, rfl, .inr ex, ?_⟩
                    replace E := E.ext ex
                    replace C9 := C9.ext ex
                    replace C10 := C10.ext ex
                    replace C11 := C11.ext ex
                    replace C12 := C12.ext ex
                    replace Bg14 := Bg14.ext ex
                    replace Bg15 := Bg15.ext ex
                    rw [decide_eq_true rfl]
                    refine wm_y 36 rfl (by kernel_rfl) (y_pickt rfl rfl) rfl ?_
                    refine wm_y 37 rfl (by kernel_rfl) (y_assign rfl) rfl ?_
                    refine wm_done (by kernel_rfl) ?_
                    refine wq_nop ?_
                    refine wq_then_norm (hK22 ?_)
                    refine wc_ret ?_
                    refine hret rfl ?_
                    exact ⟨rfl, E⟩
                  · skip
                    refine wm_gy 24 rfl (by kernel_rfl) 172 rfl rfl ((y_loadw rfl Try.underlying27 rfl (by rw [Fb2.size]; kernel_rfl) Bg15)) rfl ?_
                    refine wm_gy 25 rfl (by kernel_rfl) 172 rfl rfl ((y_loadw rfl Try.underlying27 rfl (by rw [FX.size]; kernel_rfl) C9)) rfl ?_
                    refine wm_one 26 (by kernel_rfl) ?_; refine om_gcall rfl 172 rfl rfl Try.func29 rfl rfl rfl (Fneg_any FX _) rfl ?_
                    rintro e wc7 ⟨cc7, rfl, Fc7, ex⟩
                    refine ⟨_, rfl, .inr ex, ?_⟩
                    replace E := E.ext ex
                    replace C9 := C9.ext ex
                    replace C10 := C10.ext ex
                    replace C11 := C11.ext ex
                    replace C12 := C12.ext ex
                    replace Bg14 := Bg14.ext ex
                    replace Bg15 := Bg15.ext ex
                    skip
                    refine wm_one 27 (by kernel_rfl) ?_; refine om_gcall rfl 172 rfl rfl Try.func33 rfl rfl rfl (Fsame_any Fb2 Fc7 _) rfl ?_
                    rintro e wc8 ⟨rfl, ex⟩
                    refine ⟨_, rfl, .inr ex, ?_⟩
                    replace E := E.ext ex
                    replace C9 := C9.ext ex
                    replace C10 := C10.ext ex
                    replace C11 := C11.ext ex
                    replace C12 := C12.ext ex
                    replace Bg14 := Bg14.ext ex
                    replace Bg15 := Bg15.ext ex
                    rw [decide_eq_true (hr2.resolve_left hrx)]
                    refine wm_gy 28 rfl (by kernel_rfl) 168 rfl rfl (y_pickf rfl rfl) rfl ?_
                    refine wm_y 29 rfl (by kernel_rfl) (y_pickt rfl rfl) rfl ?_
                    refine wm_y 30 rfl (by kernel_rfl) (y_move rfl) rfl ?_
                    refine wm_gy 31 rfl (by kernel_rfl) 179 rfl rfl ((y_loadw rfl Try.underlying27 rfl (by rw [FX.size]; kernel_rfl) C9)) rfl ?_
                    refine wm_gy 34 rfl (by kernel_rfl) 179 rfl rfl ((y_loadw rfl Try.underlying27 rfl (by rw [FX.size]; kernel_rfl) C9)) rfl ?_
                    refine wm_one 32 (by kernel_rfl) ?_; refine om_gcall rfl 179 rfl rfl Try.func51 rfl rfl rfl (fbytes_any FX _) rfl ?_
                    rintro e wc9 ⟨gb, rfl, hgb, Bb, ex⟩
                    refine ⟨_, rfl, .inr ex, ?_⟩
                    replace E := E.ext ex
                    replace C9 := C9.ext ex
                    replace C10 := C10.ext ex
                    replace C11 := C11.ext ex
                    replace C12 := C12.ext ex
                    replace Bg14 := Bg14.ext ex
                    replace Bg15 := Bg15.ext ex
                    skip
                    refine wm_one 33 (by kernel_rfl) ?_; refine om_gcall rfl 179 rfl rfl Try.func19 rfl rfl rfl (Fof_any _ 32 32 _ _ (bs_blk' Bb (Fp.le_length 32 _))) rfl ?_
                    rintro e wd1 ⟨cd1, rfl, Fd1, ex⟩
                    refine ⟨_, rfl, .inr ex, ?_⟩
                    replace E := E.ext ex
                    replace C9 := C9.ext ex
                    replace C10 := C10.ext ex
                    replace C11 := C11.ext ex
                    replace C12 := C12.ext ex
                    replace Bg14 := Bg14.ext ex
                    replace Bg15 := Bg15.ext ex
                    rw [Fp.ofB_le x] at Fd1
                    refine wm_one 35 (by kernel_rfl) ?_; refine om_gcall rfl 179 rfl rfl Try.func33 rfl rfl rfl (Fsame_any Fd1 FX _) rfl ?_
                    rintro e wd2 ⟨rfl, ex⟩
                    refine ⟨_, rfl, .inr ex, ?_⟩
                    replace E := E.ext ex
                    replace C9 := C9.ext ex
                    replace C10 := C10.ext ex
                    replace C11 := C11.ext ex
                    replace C12 := C12.ext ex
                    replace Bg14 := Bg14.ext ex
                    replace Bg15 := Bg15.ext ex
                    rw [decide_eq_true rfl]
                    refine wm_y 36 rfl (by kernel_rfl) (y_pickt rfl rfl) rfl ?_
                    refine wm_y 37 rfl (by kernel_rfl) (y_assign rfl) rfl ?_
                    refine wm_done (by kernel_rfl) ?_
                    refine wq_nop ?_
                    refine wq_then_norm (hK22 ?_)
                    refine wc_ret ?_
                    refine hret rfl ?_
                    exact ⟨rfl, E⟩
                · skip
                  refine wm_gno 3 rfl (by kernel_rfl) 151 rfl rfl rfl rfl ?_
                  refine wm_gno 4 rfl (by kernel_rfl) 151 rfl rfl rfl rfl ?_
                  refine wm_y 5 rfl (by kernel_rfl) (y_pickf rfl rfl) rfl ?_
                  refine wm_y 6 rfl (by kernel_rfl) (y_move rfl) rfl ?_
                  refine wm_gy 7 rfl (by kernel_rfl) 155 rfl rfl ((y_loadw rfl Try.underlying27 rfl (by rw [FX.size]; kernel_rfl) C9)) rfl ?_
                  refine wm_one 8 (by kernel_rfl) ?_; refine om_gcall rfl 155 rfl rfl Try.func35 rfl rfl rfl (Fzero_any FX _) rfl ?_
                  rintro e wc3 ⟨rfl, ex⟩
                  refine ⟨_, rfl, .inr ex, ?_⟩
                  replace E := E.ext ex
                  replace C9 := C9.ext ex
                  replace C10 := C10.ext ex
                  replace C11 := C11.ext ex
                  replace C12 := C12.ext ex
                  replace Bg14 := Bg14.ext ex
                  replace Bg15 := Bg15.ext ex
                  rw [decide_eq_false hx0]
                  refine wm_gy 9 rfl (by kernel_rfl) 155 rfl rfl (y_not rfl) rfl ?_
                  refine wm_gy 10 rfl (by kernel_rfl) 155 rfl rfl (y_move rfl) rfl ?_
                  refine wm_gy 11 rfl (by kernel_rfl) 159 rfl rfl ((y_loadw rfl Try.underlying27 rfl (by rw [F50.size]; kernel_rfl) Bg14)) rfl ?_
                  refine wm_one 12 (by kernel_rfl) ?_; refine om_gcall rfl 159 rfl rfl Try.func23 rfl rfl rfl (Fnum_any 1 _ (by omega)) rfl ?_
                  rintro e wc4 ⟨cc4, rfl, Fc4, ex⟩
                  refine ⟨_, rfl, .inr ex, ?_⟩
                  replace E := E.ext ex
                  replace C9 := C9.ext ex
                  replace C10 := C10.ext ex
                  replace C11 := C11.ext ex
                  replace C12 := C12.ext ex
                  replace Bg14 := Bg14.ext ex
                  replace Bg15 := Bg15.ext ex
                  skip
                  refine wm_one 13 (by kernel_rfl) ?_; refine om_gcall rfl 159 rfl rfl Try.func33 rfl rfl rfl (Fsame_any F50 Fc4 _) rfl ?_
                  rintro e wc5 ⟨rfl, ex⟩
                  refine ⟨_, rfl, .inr ex, ?_⟩
                  replace E := E.ext ex
                  replace C9 := C9.ext ex
                  replace C10 := C10.ext ex
                  replace C11 := C11.ext ex
                  replace C12 := C12.ext ex
                  replace Bg14 := Bg14.ext ex
                  replace Bg15 := Bg15.ext ex
                  rw [decide_eq_true (show _ = Fp.of 1 from Fp.mul_inv hx0)]
                  refine wm_gy 14 rfl (by kernel_rfl) 155 rfl rfl (y_pickt rfl rfl) rfl ?_
                  refine wm_y 15 rfl (by kernel_rfl) (y_pickf rfl rfl) rfl ?_
                  refine wm_y 16 rfl (by kernel_rfl) (y_move rfl) rfl ?_
                  refine wm_gy 17 rfl (by kernel_rfl) 165 rfl rfl (y_move rfl) rfl ?_
                  refine wm_y 18 rfl (by kernel_rfl) (y_pickt rfl rfl) rfl ?_
                  refine wm_y 19 rfl (by kernel_rfl) (y_move rfl) rfl ?_
                  refine wm_gy 20 rfl (by kernel_rfl) 168 rfl rfl ((y_loadw rfl Try.underlying27 rfl (by rw [Fb2.size]; kernel_rfl) Bg15)) rfl ?_
                  refine wm_gy 21 rfl (by kernel_rfl) 168 rfl rfl ((y_loadw rfl Try.underlying27 rfl (by rw [FX.size]; kernel_rfl) C9)) rfl ?_
                  refine wm_one 22 (by kernel_rfl) ?_; refine om_gcall rfl 168 rfl rfl Try.func33 rfl rfl rfl (Fsame_any Fb2 FX _) rfl ?_
                  rintro e wc6 ⟨rfl, ex⟩
                  refine ⟨_, rfl, .inr ex, ?_⟩
                  replace E := E.ext ex
                  replace C9 := C9.ext ex
                  replace C10 := C10.ext ex
                  replace C11 := C11.ext ex
                  replace C12 := C12.ext ex
                  replace Bg14 := Bg14.ext ex
                  replace Bg15 := Bg15.ext ex
                  skip
                  refine wm_gyask 23 rfl (by kernel_rfl) 168 rfl rfl (y_move rfl) rfl (fun hrx => ?_) (fun hrx => ?_)
                  · skip
                    refine wm_gno 24 rfl (by kernel_rfl) 172 rfl rfl rfl rfl ?_
                    refine wm_gno 25 rfl (by kernel_rfl) 172 rfl rfl rfl rfl ?_
                    refine wm_gno 26 rfl (by kernel_rfl) 172 rfl rfl rfl rfl ?_
                    refine wm_gno 27 rfl (by kernel_rfl) 172 rfl rfl rfl rfl ?_
                    refine wm_gy 28 rfl (by kernel_rfl) 168 rfl rfl (y_pickt rfl rfl) rfl ?_
                    refine wm_y 29 rfl (by kernel_rfl) (y_pickt rfl rfl) rfl ?_
                    refine wm_y 30 rfl (by kernel_rfl) (y_move rfl) rfl ?_
                    refine wm_gy 31 rfl (by kernel_rfl) 179 rfl rfl ((y_loadw rfl Try.underlying27 rfl (by rw [FX.size]; kernel_rfl) C9)) rfl ?_
                    refine wm_gy 34 rfl (by kernel_rfl) 179 rfl rfl ((y_loadw rfl Try.underlying27 rfl (by rw [FX.size]; kernel_rfl) C9)) rfl ?_
                    refine wm_one 32 (by kernel_rfl) ?_; refine om_gcall rfl 179 rfl rfl Try.func51 rfl rfl rfl (fbytes_any FX _) rfl ?_
                    rintro e wc9 ⟨gb, rfl, hgb, Bb, ex⟩
                    refine ⟨_, rfl, .inr ex, ?_⟩
                    replace E := E.ext ex
                    replace C9 := C9.ext ex
                    replace C10 := C10.ext ex
                    replace C11 := C11.ext ex
                    replace C12 := C12.ext ex
                    replace Bg14 := Bg14.ext ex
                    replace Bg15 := Bg15.ext ex
                    skip
                    refine wm_one 33 (by kernel_rfl) ?_; refine om_gcall rfl 179 rfl rfl Try.func19 rfl rfl rfl (Fof_any _ 32 32 _ _ (bs_blk' Bb (Fp.le_length 32 _))) rfl ?_
                    rintro e wd1 ⟨cd1, rfl, Fd1, ex⟩
                    refine ⟨_, rfl, .inr ex, ?_⟩
                    replace E := E.ext ex
                    replace C9 := C9.ext ex
                    replace C10 := C10.ext ex
                    replace C11 := C11.ext ex
                    replace C12 := C12.ext ex
                    replace Bg14 := Bg14.ext ex
                    replace Bg15 := Bg15.ext ex
                    rw [Fp.ofB_le x] at Fd1
                    refine wm_one 35 (by kernel_rfl) ?_; refine om_gcall rfl 179 rfl rfl Try.func33 rfl rfl rfl (Fsame_any Fd1 FX _) rfl ?_
                    rintro e wd2 ⟨rfl, ex⟩
                    refine ⟨_, rfl, .inr ex, ?_⟩
                    replace E := E.ext ex
                    replace C9 := C9.ext ex
                    replace C10 := C10.ext ex
                    replace C11 := C11.ext ex
                    replace C12 := C12.ext ex
                    replace Bg14 := Bg14.ext ex
                    replace Bg15 := Bg15.ext ex
                    rw [decide_eq_true rfl]
                    refine wm_y 36 rfl (by kernel_rfl) (y_pickt rfl rfl) rfl ?_
                    refine wm_y 37 rfl (by kernel_rfl) (y_assign rfl) rfl ?_
                    refine wm_done (by kernel_rfl) ?_
                    refine wq_nop ?_
                    refine wq_then_norm (hK22 ?_)
                    refine wc_ret ?_
                    refine hret rfl ?_
                    exact ⟨rfl, E⟩
                  · skip
                    refine wm_gy 24 rfl (by kernel_rfl) 172 rfl rfl ((y_loadw rfl Try.underlying27 rfl (by rw [Fb2.size]; kernel_rfl) Bg15)) rfl ?_
                    refine wm_gy 25 rfl (by kernel_rfl) 172 rfl rfl ((y_loadw rfl Try.underlying27 rfl (by rw [FX.size]; kernel_rfl) C9)) rfl ?_
                    refine wm_one 26 (by kernel_rfl) ?_; refine om_gcall rfl 172 rfl rfl Try.func29 rfl rfl rfl (Fneg_any FX _) rfl ?_
                    rintro e wc7 ⟨cc7, rfl, Fc7, ex⟩
                    refine ⟨_, rfl, .inr ex, ?_⟩
                    replace E := E.ext ex
                    replace C9 := C9.ext ex
                    replace C10 := C10.ext ex
                    replace C11 := C11.ext ex
                    replace C12 := C12.ext ex
                    replace Bg14 := Bg14.ext ex
                    replace Bg15 := Bg15.ext ex
                    skip
                    refine wm_one 27 (by kernel_rfl) ?_; refine om_gcall rfl 172 rfl rfl Try.func33 rfl rfl rfl (Fsame_any Fb2 Fc7 _) rfl ?_
                    rintro e wc8 ⟨rfl, ex⟩
                    refine ⟨_, rfl, .inr ex, ?_⟩
                    replace E := E.ext ex
                    replace C9 := C9.ext ex
                    replace C10 := C10.ext ex
                    replace C11 := C11.ext ex
                    replace C12 := C12.ext ex
                    replace Bg14 := Bg14.ext ex
                    replace Bg15 := Bg15.ext ex
                    rw [decide_eq_true (hr2.resolve_left hrx)]
                    refine wm_gy 28 rfl (by kernel_rfl) 168 rfl rfl (y_pickf rfl rfl) rfl ?_
                    refine wm_y 29 rfl (by kernel_rfl) (y_pickt rfl rfl) rfl ?_
                    refine wm_y 30 rfl (by kernel_rfl) (y_move rfl) rfl ?_
                    refine wm_gy 31 rfl (by kernel_rfl) 179 rfl rfl ((y_loadw rfl Try.underlying27 rfl (by rw [FX.size]; kernel_rfl) C9)) rfl ?_
                    refine wm_gy 34 rfl (by kernel_rfl) 179 rfl rfl ((y_loadw rfl Try.underlying27 rfl (by rw [FX.size]; kernel_rfl) C9)) rfl ?_
                    refine wm_one 32 (by kernel_rfl) ?_; refine om_gcall rfl 179 rfl rfl Try.func51 rfl rfl rfl (fbytes_any FX _) rfl ?_
                    rintro e wc9 ⟨gb, rfl, hgb, Bb, ex⟩
                    refine ⟨_, rfl, .inr ex, ?_⟩
                    replace E := E.ext ex
                    replace C9 := C9.ext ex
                    replace C10 := C10.ext ex
                    replace C11 := C11.ext ex
                    replace C12 := C12.ext ex
                    replace Bg14 := Bg14.ext ex
                    replace Bg15 := Bg15.ext ex
                    skip
                    refine wm_one 33 (by kernel_rfl) ?_; refine om_gcall rfl 179 rfl rfl Try.func19 rfl rfl rfl (Fof_any _ 32 32 _ _ (bs_blk' Bb (Fp.le_length 32 _))) rfl ?_
                    rintro e wd1 ⟨cd1, rfl, Fd1, ex⟩
                    refine ⟨_, rfl, .inr ex, ?_⟩
                    replace E := E.ext ex
                    replace C9 := C9.ext ex
                    replace C10 := C10.ext ex
                    replace C11 := C11.ext ex
                    replace C12 := C12.ext ex
                    replace Bg14 := Bg14.ext ex
                    replace Bg15 := Bg15.ext ex
                    rw [Fp.ofB_le x] at Fd1
                    refine wm_one 35 (by kernel_rfl) ?_; refine om_gcall rfl 179 rfl rfl Try.func33 rfl rfl rfl (Fsame_any Fd1 FX _) rfl ?_
                    rintro e wd2 ⟨rfl, ex⟩
                    refine ⟨_, rfl, .inr ex, ?_⟩
                    replace E := E.ext ex
                    replace C9 := C9.ext ex
                    replace C10 := C10.ext ex
                    replace C11 := C11.ext ex
                    replace C12 := C12.ext ex
                    replace Bg14 := Bg14.ext ex
                    replace Bg15 := Bg15.ext ex
                    rw [decide_eq_true rfl]
                    refine wm_y 36 rfl (by kernel_rfl) (y_pickt rfl rfl) rfl ?_
                    refine wm_y 37 rfl (by kernel_rfl) (y_assign rfl) rfl ?_
                    refine wm_done (by kernel_rfl) ?_
                    refine wq_nop ?_
                    refine wq_then_norm (hK22 ?_)
                    refine wc_ret ?_
                    refine hret rfl ?_
                    exact ⟨rfl, E⟩
              · skip
                have E_g14 := E
                have C9_g14 := C9
                have C10_g14 := C10
                have C11_g14 := C11
                have C12_g14 := C12
                refine om_ef rfl (ef_alloc (Z := fe (fun _ => 0)) (by kernel_rfl)) rfl ?_
                rintro _ wn15_4 ⟨g14, rfl, Bg14, hg14, ex⟩
                have Xg14 := ex
                refine ⟨.inr ex, ?_⟩
                replace E := E.ext ex
                replace C9 := C9.ext ex
                replace C10 := C10.ext ex
                replace C11 := C11.ext ex
                replace C12 := C12.ext ex
                refine wm_one 3 (by kernel_rfl) ?_; refine om_call rfl Try.func30 rfl rfl rfl (Fmul_any FX F47 _) rfl ?_
                rintro e w48 ⟨c50, rfl, F50, ex⟩
                refine ⟨_, rfl, .inr ex, ?_⟩
                replace E := E.ext ex
                replace C9 := C9.ext ex
                replace C10 := C10.ext ex
                replace C11 := C11.ext ex
                replace C12 := C12.ext ex
                replace Bg14 := Bg14.ext ex
                replace Xg14 := Xg14.ext ex
                skip
                refine wm_one 5 (by kernel_rfl) ?_; refine om_ef rfl (ef_storeW rfl rfl (by rw [F50.size]; kernel_rfl) Bg14 (by rw [fe_size, F50.size]) F50.one) rfl ?_
                rintro _ wn15_5 ⟨rfl, Bg14, cg⟩
                replace Xg14 := Xg14.chg cg hg14
                refine ⟨.inl rfl, ?_⟩
                replace E := E_g14.ext Xg14
                replace C9 := C9_g14.ext Xg14
                replace C10 := C10_g14.ext Xg14
                replace C11 := C11_g14.ext Xg14
                replace C12 := C12_g14.ext Xg14
                refine wm_done (by kernel_rfl) ?_
                refine wq_nop ?_
                refine wq_then_norm (hK20 ?_)
                refine wc_seq ?_; intro K23 hK23
                refine wc_region ?_
                refine wl_y ((y_loadw rfl Try.underlying27 rfl (by rw [FX.size]; kernel_rfl) C9)) rfl ?_
                refine wl_call Try.func32 rfl rfl rfl (Fsquare_any FX _) rfl ?_
                rintro e wb1 ⟨cb1, rfl, Fb1, ex⟩
                refine ⟨_, rfl, ?_⟩
                replace E := E.ext ex
                replace C9 := C9.ext ex
                replace C10 := C10.ext ex
                replace C11 := C11.ext ex
                replace C12 := C12.ext ex
                replace Bg14 := Bg14.ext ex
                skip
                refine wl_call Try.func47 rfl rfl rfl (Froot_any Fb1 _) rfl ?_
                rintro e wb2 ⟨cb2, rfl, Fb2, ex⟩
                refine ⟨_, rfl, ?_⟩
                replace E := E.ext ex
                replace C9 := C9.ext ex
                replace C10 := C10.ext ex
                replace C11 := C11.ext ex
                replace C12 := C12.ext ex
                replace Bg14 := Bg14.ext ex
                have hsq : Fp.Sqr (x * x) := Fp.sqr_of rfl; rw [if_pos hsq] at Fb2; rw [decide_eq_true hsq]; have hr2 := Fp.roots_two (Fp.root_sq hsq)
                refine wl_y (y_move rfl) rfl ?_
                refine wl_y (y_extract rfl rfl) rfl ?_
                refine wl_y (y_extract rfl rfl) rfl ?_
                have E_g15 := E
                have C9_g15 := C9
                have C10_g15 := C10
                have C11_g15 := C11
                have C12_g15 := C12
                have Bg14_g15 := Bg14
                refine wl_ef (ef_alloc (Z := fe (fun _ => 0)) (by kernel_rfl)) rfl ?_
                rintro _ wn16_6 ⟨g15, rfl, Bg15, hg15, ex⟩
                have Xg15 := ex
                replace E := E.ext ex
                replace C9 := C9.ext ex
                replace C10 := C10.ext ex
                replace C11 := C11.ext ex
                replace C12 := C12.ext ex
                replace Bg14 := Bg14.ext ex
                refine wl_ef (ef_storeW rfl rfl (by rw [Fb2.size]; kernel_rfl) Bg15 (by rw [fe_size, Fb2.size]) Fb2.one) rfl ?_
                rintro _ wn16_7 ⟨rfl, Bg15, cg⟩
                replace Xg15 := Xg15.chg cg hg15
                replace E := E_g15.ext Xg15
                replace C9 := C9_g15.ext Xg15
                replace C10 := C10_g15.ext Xg15
                replace C11 := C11_g15.ext Xg15
                replace C12 := C12_g15.ext Xg15
                replace Bg14 := Bg14_g15.ext Xg15
                refine wl_y (y_assign rfl) rfl ?_
                refine wl_nil ?_
                refine wq_then_norm (hK23 ?_)
                refine wc_seq ?_; intro K24 hK24
                refine wc_draw (by kernel_rfl) 38 rfl ?_; intro wd17 ex hd17
                replace E := E.ext ex
                replace C9 := C9.ext ex
                replace C10 := C10.ext ex
                replace C11 := C11.ext ex
                replace C12 := C12.ext ex
                replace Bg14 := Bg14.ext ex
                replace Bg15 := Bg15.ext ex
                refine wm_y 0 rfl (by kernel_rfl) ((y_loadw rfl Try.underlying27 rfl (by rw [FX.size]; kernel_rfl) C9)) rfl ?_
                refine wm_one 1 (by kernel_rfl) ?_; refine om_call rfl Try.func35 rfl rfl rfl (Fzero_any FX _) rfl ?_
                rintro e wc1 ⟨rfl, ex⟩
                refine ⟨_, rfl, .inr ex, ?_⟩
                replace E := E.ext ex
                replace C9 := C9.ext ex
                replace C10 := C10.ext ex
                replace C11 := C11.ext ex
                replace C12 := C12.ext ex
                replace Bg14 := Bg14.ext ex
                replace Bg15 := Bg15.ext ex
                skip
                refine wm_yask 2 rfl (by kernel_rfl) (y_move rfl) rfl (fun hx0 => ?_) (fun hx0 => ?_)
                · skip
                  refine wm_gy 3 rfl (by kernel_rfl) 151 rfl rfl ((y_loadw rfl Try.underlying27 rfl (by rw [F50.size]; kernel_rfl) Bg14)) rfl ?_
                  refine wm_one 4 (by kernel_rfl) ?_; refine om_gcall rfl 151 rfl rfl Try.func35 rfl rfl rfl (Fzero_any F50 _) rfl ?_
                  rintro e wc2 ⟨rfl, ex⟩
                  refine ⟨_, rfl, .inr ex, ?_⟩
                  replace E := E.ext ex
                  replace C9 := C9.ext ex
                  replace C10 := C10.ext ex
                  replace C11 := C11.ext ex
                  replace C12 := C12.ext ex
                  replace Bg14 := Bg14.ext ex
                  replace Bg15 := Bg15.ext ex
                  rw [decide_eq_true (by rw [hx0]; grind)]
                  refine wm_y 5 rfl (by kernel_rfl) (y_pickt rfl rfl) rfl ?_
                  refine wm_y 6 rfl (by kernel_rfl) (y_move rfl) rfl ?_
                  refine wm_gno 7 rfl (by kernel_rfl) 155 rfl rfl rfl rfl ?_
                  refine wm_gno 8 rfl (by kernel_rfl) 155 rfl rfl rfl rfl ?_
                  refine wm_gno 9 rfl (by kernel_rfl) 155 rfl rfl rfl rfl ?_
                  refine wm_gno 10 rfl (by kernel_rfl) 155 rfl rfl rfl rfl ?_
                  refine wm_gun 11 rfl (by kernel_rfl) 159 rfl rfl rfl ?_
                  refine wm_gun 12 rfl (by kernel_rfl) 159 rfl rfl rfl ?_
                  refine wm_gun 13 rfl (by kernel_rfl) 159 rfl rfl rfl ?_
                  refine wm_gno 14 rfl (by kernel_rfl) 155 rfl rfl rfl rfl ?_
                  refine wm_y 15 rfl (by kernel_rfl) (y_pickt rfl rfl) rfl ?_
                  refine wm_y 16 rfl (by kernel_rfl) (y_move rfl) rfl ?_
                  refine wm_gy 17 rfl (by kernel_rfl) 165 rfl rfl (y_move rfl) rfl ?_
                  refine wm_y 18 rfl (by kernel_rfl) (y_pickt rfl rfl) rfl ?_
                  refine wm_y 19 rfl (by kernel_rfl) (y_move rfl) rfl ?_
                  refine wm_gy 20 rfl (by kernel_rfl) 168 rfl rfl ((y_loadw rfl Try.underlying27 rfl (by rw [Fb2.size]; kernel_rfl) Bg15)) rfl ?_
                  refine wm_gy 21 rfl (by kernel_rfl) 168 rfl rfl ((y_loadw rfl Try.underlying27 rfl (by rw [FX.size]; kernel_rfl) C9)) rfl ?_
                  refine wm_one 22 (by kernel_rfl) ?_; refine om_gcall rfl 168 rfl rfl Try.func33 rfl rfl rfl (Fsame_any Fb2 FX _) rfl ?_
                  rintro e wc6 ⟨rfl, ex⟩
                  refine ⟨_, rfl, .inr ex, ?_⟩
                  replace E := E.ext ex
                  replace C9 := C9.ext ex
                  replace C10 := C10.ext ex
                  replace C11 := C11.ext ex
                  replace C12 := C12.ext ex
                  replace Bg14 := Bg14.ext ex
                  replace Bg15 := Bg15.ext ex
                  skip
                  refine wm_gyask 23 rfl (by kernel_rfl) 168 rfl rfl (y_move rfl) rfl (fun hrx => ?_) (fun hrx => ?_)
                  · skip
                    refine wm_gno 24 rfl (by kernel_rfl) 172 rfl rfl rfl rfl ?_
                    refine wm_gno 25 rfl (by kernel_rfl) 172 rfl rfl rfl rfl ?_
                    refine wm_gno 26 rfl (by kernel_rfl) 172 rfl rfl rfl rfl ?_
                    refine wm_gno 27 rfl (by kernel_rfl) 172 rfl rfl rfl rfl ?_
                    refine wm_gy 28 rfl (by kernel_rfl) 168 rfl rfl (y_pickt rfl rfl) rfl ?_
                    refine wm_y 29 rfl (by kernel_rfl) (y_pickt rfl rfl) rfl ?_
                    refine wm_y 30 rfl (by kernel_rfl) (y_move rfl) rfl ?_
                    refine wm_gy 31 rfl (by kernel_rfl) 179 rfl rfl ((y_loadw rfl Try.underlying27 rfl (by rw [FX.size]; kernel_rfl) C9)) rfl ?_
                    refine wm_gy 34 rfl (by kernel_rfl) 179 rfl rfl ((y_loadw rfl Try.underlying27 rfl (by rw [FX.size]; kernel_rfl) C9)) rfl ?_
                    refine wm_one 32 (by kernel_rfl) ?_; refine om_gcall rfl 179 rfl rfl Try.func51 rfl rfl rfl (fbytes_any FX _) rfl ?_
                    rintro e wc9 ⟨gb, rfl, hgb, Bb, ex⟩
                    refine ⟨_, rfl, .inr ex, ?_⟩
                    replace E := E.ext ex
                    replace C9 := C9.ext ex
                    replace C10 := C10.ext ex
                    replace C11 := C11.ext ex
                    replace C12 := C12.ext ex
                    replace Bg14 := Bg14.ext ex
                    replace Bg15 := Bg15.ext ex
                    skip
                    refine wm_one 33 (by kernel_rfl) ?_; refine om_gcall rfl 179 rfl rfl Try.func19 rfl rfl rfl (Fof_any _ 32 32 _ _ (bs_blk' Bb (Fp.le_length 32 _))) rfl ?_
                    rintro e wd1 ⟨cd1, rfl, Fd1, ex⟩
                    refine ⟨_, rfl, .inr ex, ?_⟩
                    replace E := E.ext ex
                    replace C9 := C9.ext ex
                    replace C10 := C10.ext ex
                    replace C11 := C11.ext ex
                    replace C12 := C12.ext ex
                    replace Bg14 := Bg14.ext ex
                    replace Bg15 := Bg15.ext ex
                    rw [Fp.ofB_le x] at Fd1
                    refine wm_one 35 (by kernel_rfl) ?_; refine om_gcall rfl 179 rfl rfl Try.func33 rfl rfl rfl (Fsame_any Fd1 FX _) rfl ?_
                    rintro e wd2 ⟨rfl, ex⟩
                    refine ⟨_, rfl, .inr ex, ?_⟩
                    replace E := E.ext ex
                    replace C9 := C9.ext ex
                    replace C10 := C10.ext ex
                    replace C11 := C11.ext ex
                    replace C12 := C12.ext ex
                    replace Bg14 := Bg14.ext ex
                    replace Bg15 := Bg15.ext ex
                    rw [decide_eq_true rfl]
                    refine wm_y 36 rfl (by kernel_rfl) (y_pickt rfl rfl) rfl ?_
                    refine wm_y 37 rfl (by kernel_rfl) (y_assign rfl) rfl ?_
                    refine wm_done (by kernel_rfl) ?_
                    refine wq_nop ?_
                    refine wq_then_norm (hK24 ?_)
                    refine wc_ret ?_
                    refine hret rfl ?_
                    exact ⟨rfl, E⟩
                  · skip
                    refine wm_gy 24 rfl (by kernel_rfl) 172 rfl rfl ((y_loadw rfl Try.underlying27 rfl (by rw [Fb2.size]; kernel_rfl) Bg15)) rfl ?_
                    refine wm_gy 25 rfl (by kernel_rfl) 172 rfl rfl ((y_loadw rfl Try.underlying27 rfl (by rw [FX.size]; kernel_rfl) C9)) rfl ?_
                    refine wm_one 26 (by kernel_rfl) ?_; refine om_gcall rfl 172 rfl rfl Try.func29 rfl rfl rfl (Fneg_any FX _) rfl ?_
                    rintro e wc7 ⟨cc7, rfl, Fc7, ex⟩
                    refine ⟨_, rfl, .inr ex, ?_⟩
                    replace E := E.ext ex
                    replace C9 := C9.ext ex
                    replace C10 := C10.ext ex
                    replace C11 := C11.ext ex
                    replace C12 := C12.ext ex
                    replace Bg14 := Bg14.ext ex
                    replace Bg15 := Bg15.ext ex
                    skip
                    refine wm_one 27 (by kernel_rfl) ?_; refine om_gcall rfl 172 rfl rfl Try.func33 rfl rfl rfl (Fsame_any Fb2 Fc7 _) rfl ?_
                    rintro e wc8 ⟨rfl, ex⟩
                    refine ⟨_, rfl, .inr ex, ?_⟩
                    replace E := E.ext ex
                    replace C9 := C9.ext ex
                    replace C10 := C10.ext ex
                    replace C11 := C11.ext ex
                    replace C12 := C12.ext ex
                    replace Bg14 := Bg14.ext ex
                    replace Bg15 := Bg15.ext ex
                    rw [decide_eq_true (hr2.resolve_left hrx)]
                    refine wm_gy 28 rfl (by kernel_rfl) 168 rfl rfl (y_pickf rfl rfl) rfl ?_
                    refine wm_y 29 rfl (by kernel_rfl) (y_pickt rfl rfl) rfl ?_
                    refine wm_y 30 rfl (by kernel_rfl) (y_move rfl) rfl ?_
                    refine wm_gy 31 rfl (by kernel_rfl) 179 rfl rfl ((y_loadw rfl Try.underlying27 rfl (by rw [FX.size]; kernel_rfl) C9)) rfl ?_
                    refine wm_gy 34 rfl (by kernel_rfl) 179 rfl rfl ((y_loadw rfl Try.underlying27 rfl (by rw [FX.size]; kernel_rfl) C9)) rfl ?_
                    refine wm_one 32 (by kernel_rfl) ?_; refine om_gcall rfl 179 rfl rfl Try.func51 rfl rfl rfl (fbytes_any FX _) rfl ?_
                    rintro e wc9 ⟨gb, rfl, hgb, Bb, ex⟩
                    refine ⟨_, rfl, .inr ex, ?_⟩
                    replace E := E.ext ex
                    replace C9 := C9.ext ex
                    replace C10 := C10.ext ex
                    replace C11 := C11.ext ex
                    replace C12 := C12.ext ex
                    replace Bg14 := Bg14.ext ex
                    replace Bg15 := Bg15.ext ex
                    skip
                    refine wm_one 33 (by kernel_rfl) ?_; refine om_gcall rfl 179 rfl rfl Try.func19 rfl rfl rfl (Fof_any _ 32 32 _ _ (bs_blk' Bb (Fp.le_length 32 _))) rfl ?_
                    rintro e wd1 ⟨cd1, rfl, Fd1, ex⟩
                    refine ⟨_, rfl, .inr ex, ?_⟩
                    replace E := E.ext ex
                    replace C9 := C9.ext ex
                    replace C10 := C10.ext ex
                    replace C11 := C11.ext ex
                    replace C12 := C12.ext ex
                    replace Bg14 := Bg14.ext ex
                    replace Bg15 := Bg15.ext ex
                    rw [Fp.ofB_le x] at Fd1
                    refine wm_one 35 (by kernel_rfl) ?_; refine om_gcall rfl 179 rfl rfl Try.func33 rfl rfl rfl (Fsame_any Fd1 FX _) rfl ?_
                    rintro e wd2 ⟨rfl, ex⟩
                    refine ⟨_, rfl, .inr ex, ?_⟩
                    replace E := E.ext ex
                    replace C9 := C9.ext ex
                    replace C10 := C10.ext ex
                    replace C11 := C11.ext ex
                    replace C12 := C12.ext ex
                    replace Bg14 := Bg14.ext ex
                    replace Bg15 := Bg15.ext ex
                    rw [decide_eq_true rfl]
                    refine wm_y 36 rfl (by kernel_rfl) (y_pickt rfl rfl) rfl ?_
                    refine wm_y 37 rfl (by kernel_rfl) (y_assign rfl) rfl ?_
                    refine wm_done (by kernel_rfl) ?_
                    refine wq_nop ?_
                    refine wq_then_norm (hK24 ?_)
                    refine wc_ret ?_
                    refine hret rfl ?_
                    exact ⟨rfl, E⟩
                · skip
                  refine wm_gno 3 rfl (by kernel_rfl) 151 rfl rfl rfl rfl ?_
                  refine wm_gno 4 rfl (by kernel_rfl) 151 rfl rfl rfl rfl ?_
                  refine wm_y 5 rfl (by kernel_rfl) (y_pickf rfl rfl) rfl ?_
                  refine wm_y 6 rfl (by kernel_rfl) (y_move rfl) rfl ?_
                  refine wm_gy 7 rfl (by kernel_rfl) 155 rfl rfl ((y_loadw rfl Try.underlying27 rfl (by rw [FX.size]; kernel_rfl) C9)) rfl ?_
                  refine wm_one 8 (by kernel_rfl) ?_; refine om_gcall rfl 155 rfl rfl Try.func35 rfl rfl rfl (Fzero_any FX _) rfl ?_
                  rintro e wc3 ⟨rfl, ex⟩
                  refine ⟨_, rfl, .inr ex, ?_⟩
                  replace E := E.ext ex
                  replace C9 := C9.ext ex
                  replace C10 := C10.ext ex
                  replace C11 := C11.ext ex
                  replace C12 := C12.ext ex
                  replace Bg14 := Bg14.ext ex
                  replace Bg15 := Bg15.ext ex
                  rw [decide_eq_false hx0]
                  refine wm_gy 9 rfl (by kernel_rfl) 155 rfl rfl (y_not rfl) rfl ?_
                  refine wm_gy 10 rfl (by kernel_rfl) 155 rfl rfl (y_move rfl) rfl ?_
                  refine wm_gy 11 rfl (by kernel_rfl) 159 rfl rfl ((y_loadw rfl Try.underlying27 rfl (by rw [F50.size]; kernel_rfl) Bg14)) rfl ?_
                  refine wm_one 12 (by kernel_rfl) ?_; refine om_gcall rfl 159 rfl rfl Try.func23 rfl rfl rfl (Fnum_any 1 _ (by omega)) rfl ?_
                  rintro e wc4 ⟨cc4, rfl, Fc4, ex⟩
                  refine ⟨_, rfl, .inr ex, ?_⟩
                  replace E := E.ext ex
                  replace C9 := C9.ext ex
                  replace C10 := C10.ext ex
                  replace C11 := C11.ext ex
                  replace C12 := C12.ext ex
                  replace Bg14 := Bg14.ext ex
                  replace Bg15 := Bg15.ext ex
                  skip
                  refine wm_one 13 (by kernel_rfl) ?_; refine om_gcall rfl 159 rfl rfl Try.func33 rfl rfl rfl (Fsame_any F50 Fc4 _) rfl ?_
                  rintro e wc5 ⟨rfl, ex⟩
                  refine ⟨_, rfl, .inr ex, ?_⟩
                  replace E := E.ext ex
                  replace C9 := C9.ext ex
                  replace C10 := C10.ext ex
                  replace C11 := C11.ext ex
                  replace C12 := C12.ext ex
                  replace Bg14 := Bg14.ext ex
                  replace Bg15 := Bg15.ext ex
                  rw [decide_eq_true (show _ = Fp.of 1 from Fp.mul_inv hx0)]
                  refine wm_gy 14 rfl (by kernel_rfl) 155 rfl rfl (y_pickt rfl rfl) rfl ?_
                  refine wm_y 15 rfl (by kernel_rfl) (y_pickf rfl rfl) rfl ?_
                  refine wm_y 16 rfl (by kernel_rfl) (y_move rfl) rfl ?_
                  refine wm_gy 17 rfl (by kernel_rfl) 165 rfl rfl (y_move rfl) rfl ?_
                  refine wm_y 18 rfl (by kernel_rfl) (y_pickt rfl rfl) rfl ?_
                  refine wm_y 19 rfl (by kernel_rfl) (y_move rfl) rfl ?_
                  refine wm_gy 20 rfl (by kernel_rfl) 168 rfl rfl ((y_loadw rfl Try.underlying27 rfl (by rw [Fb2.size]; kernel_rfl) Bg15)) rfl ?_
                  refine wm_gy 21 rfl (by kernel_rfl) 168 rfl rfl ((y_loadw rfl Try.underlying27 rfl (by rw [FX.size]; kernel_rfl) C9)) rfl ?_
                  refine wm_one 22 (by kernel_rfl) ?_; refine om_gcall rfl 168 rfl rfl Try.func33 rfl rfl rfl (Fsame_any Fb2 FX _) rfl ?_
                  rintro e wc6 ⟨rfl, ex⟩
                  refine ⟨_, rfl, .inr ex, ?_⟩
                  replace E := E.ext ex
                  replace C9 := C9.ext ex
                  replace C10 := C10.ext ex
                  replace C11 := C11.ext ex
                  replace C12 := C12.ext ex
                  replace Bg14 := Bg14.ext ex
                  replace Bg15 := Bg15.ext ex
                  skip
                  refine wm_gyask 23 rfl (by kernel_rfl) 168 rfl rfl (y_move rfl) rfl (fun hrx => ?_) (fun hrx => ?_)
                  · skip
                    refine wm_gno 24 rfl (by kernel_rfl) 172 rfl rfl rfl rfl ?_
                    refine wm_gno 25 rfl (by kernel_rfl) 172 rfl rfl rfl rfl ?_
                    refine wm_gno 26 rfl (by kernel_rfl) 172 rfl rfl rfl rfl ?_
                    refine wm_gno 27 rfl (by kernel_rfl) 172 rfl rfl rfl rfl ?_
                    refine wm_gy 28 rfl (by kernel_rfl) 168 rfl rfl (y_pickt rfl rfl) rfl ?_
                    refine wm_y 29 rfl (by kernel_rfl) (y_pickt rfl rfl) rfl ?_
                    refine wm_y 30 rfl (by kernel_rfl) (y_move rfl) rfl ?_
                    refine wm_gy 31 rfl (by kernel_rfl) 179 rfl rfl ((y_loadw rfl Try.underlying27 rfl (by rw [FX.size]; kernel_rfl) C9)) rfl ?_
                    refine wm_gy 34 rfl (by kernel_rfl) 179 rfl rfl ((y_loadw rfl Try.underlying27 rfl (by rw [FX.size]; kernel_rfl) C9)) rfl ?_
                    refine wm_one 32 (by kernel_rfl) ?_; refine om_gcall rfl 179 rfl rfl Try.func51 rfl rfl rfl (fbytes_any FX _) rfl ?_
                    rintro e wc9 ⟨gb, rfl, hgb, Bb, ex⟩
                    refine ⟨_, rfl, .inr ex, ?_⟩
                    replace E := E.ext ex
                    replace C9 := C9.ext ex
                    replace C10 := C10.ext ex
                    replace C11 := C11.ext ex
                    replace C12 := C12.ext ex
                    replace Bg14 := Bg14.ext ex
                    replace Bg15 := Bg15.ext ex
                    skip
                    refine wm_one 33 (by kernel_rfl) ?_; refine om_gcall rfl 179 rfl rfl Try.func19 rfl rfl rfl (Fof_any _ 32 32 _ _ (bs_blk' Bb (Fp.le_length 32 _))) rfl ?_
                    rintro e wd1 ⟨cd1, rfl, Fd1, ex⟩
                    refine ⟨_, rfl, .inr ex, ?_⟩
                    replace E := E.ext ex
                    replace C9 := C9.ext ex
                    replace C10 := C10.ext ex
                    replace C11 := C11.ext ex
                    replace C12 := C12.ext ex
                    replace Bg14 := Bg14.ext ex
                    replace Bg15 := Bg15.ext ex
                    rw [Fp.ofB_le x] at Fd1
                    refine wm_one 35 (by kernel_rfl) ?_; refine om_gcall rfl 179 rfl rfl Try.func33 rfl rfl rfl (Fsame_any Fd1 FX _) rfl ?_
                    rintro e wd2 ⟨rfl, ex⟩
                    refine ⟨_, rfl, .inr ex, ?_⟩
                    replace E := E.ext ex
                    replace C9 := C9.ext ex
                    replace C10 := C10.ext ex
                    replace C11 := C11.ext ex
                    replace C12 := C12.ext ex
                    replace Bg14 := Bg14.ext ex
                    replace Bg15 := Bg15.ext ex
                    rw [decide_eq_true rfl]
                    refine wm_y 36 rfl (by kernel_rfl) (y_pickt rfl rfl) rfl ?_
                    refine wm_y 37 rfl (by kernel_rfl) (y_assign rfl) rfl ?_
                    refine wm_done (by kernel_rfl) ?_
                    refine wq_nop ?_
                    refine wq_then_norm (hK24 ?_)
                    refine wc_ret ?_
                    refine hret rfl ?_
                    exact ⟨rfl, E⟩
                  · skip
                    refine wm_gy 24 rfl (by kernel_rfl) 172 rfl rfl ((y_loadw rfl Try.underlying27 rfl (by rw [Fb2.size]; kernel_rfl) Bg15)) rfl ?_
                    refine wm_gy 25 rfl (by kernel_rfl) 172 rfl rfl ((y_loadw rfl Try.underlying27 rfl (by rw [FX.size]; kernel_rfl) C9)) rfl ?_
                    refine wm_one 26 (by kernel_rfl) ?_; refine om_gcall rfl 172 rfl rfl Try.func29 rfl rfl rfl (Fneg_any FX _) rfl ?_
                    rintro e wc7 ⟨cc7, rfl, Fc7, ex⟩
                    refine ⟨_, rfl, .inr ex, ?_⟩
                    replace E := E.ext ex
                    replace C9 := C9.ext ex
                    replace C10 := C10.ext ex
                    replace C11 := C11.ext ex
                    replace C12 := C12.ext ex
                    replace Bg14 := Bg14.ext ex
                    replace Bg15 := Bg15.ext ex
                    skip
                    refine wm_one 27 (by kernel_rfl) ?_; refine om_gcall rfl 172 rfl rfl Try.func33 rfl rfl rfl (Fsame_any Fb2 Fc7 _) rfl ?_
                    rintro e wc8 ⟨rfl, ex⟩
                    refine ⟨_, rfl, .inr ex, ?_⟩
                    replace E := E.ext ex
                    replace C9 := C9.ext ex
                    replace C10 := C10.ext ex
                    replace C11 := C11.ext ex
                    replace C12 := C12.ext ex
                    replace Bg14 := Bg14.ext ex
                    replace Bg15 := Bg15.ext ex
                    rw [decide_eq_true (hr2.resolve_left hrx)]
                    refine wm_gy 28 rfl (by kernel_rfl) 168 rfl rfl (y_pickf rfl rfl) rfl ?_
                    refine wm_y 29 rfl (by kernel_rfl) (y_pickt rfl rfl) rfl ?_
                    refine wm_y 30 rfl (by kernel_rfl) (y_move rfl) rfl ?_
                    refine wm_gy 31 rfl (by kernel_rfl) 179 rfl rfl ((y_loadw rfl Try.underlying27 rfl (by rw [FX.size]; kernel_rfl) C9)) rfl ?_
                    refine wm_gy 34 rfl (by kernel_rfl) 179 rfl rfl ((y_loadw rfl Try.underlying27 rfl (by rw [FX.size]; kernel_rfl) C9)) rfl ?_
                    refine wm_one 32 (by kernel_rfl) ?_; refine om_gcall rfl 179 rfl rfl Try.func51 rfl rfl rfl (fbytes_any FX _) rfl ?_
                    rintro e wc9 ⟨gb, rfl, hgb, Bb, ex⟩
                    refine ⟨_, rfl, .inr ex, ?_⟩
                    replace E := E.ext ex
                    replace C9 := C9.ext ex
                    replace C10 := C10.ext ex
                    replace C11 := C11.ext ex
                    replace C12 := C12.ext ex
                    replace Bg14 := Bg14.ext ex
                    replace Bg15 := Bg15.ext ex
                    skip
                    refine wm_one 33 (by kernel_rfl) ?_; refine om_gcall rfl 179 rfl rfl Try.func19 rfl rfl rfl (Fof_any _ 32 32 _ _ (bs_blk' Bb (Fp.le_length 32 _))) rfl ?_
                    rintro e wd1 ⟨cd1, rfl, Fd1, ex⟩
                    refine ⟨_, rfl, .inr ex, ?_⟩
                    replace E := E.ext ex
                    replace C9 := C9.ext ex
                    replace C10 := C10.ext ex
                    replace C11 := C11.ext ex
                    replace C12 := C12.ext ex
                    replace Bg14 := Bg14.ext ex
                    replace Bg15 := Bg15.ext ex
                    rw [Fp.ofB_le x] at Fd1
                    refine wm_one 35 (by kernel_rfl) ?_; refine om_gcall rfl 179 rfl rfl Try.func33 rfl rfl rfl (Fsame_any Fd1 FX _) rfl ?_
                    rintro e wd2 ⟨rfl, ex⟩
                    refine ⟨_, rfl, .inr ex, ?_⟩
                    replace E := E.ext ex
                    replace C9 := C9.ext ex
                    replace C10 := C10.ext ex
                    replace C11 := C11.ext ex
                    replace C12 := C12.ext ex
                    replace Bg14 := Bg14.ext ex
                    replace Bg15 := Bg15.ext ex
                    rw [decide_eq_true rfl]
                    refine wm_y 36 rfl (by kernel_rfl) (y_pickt rfl rfl) rfl ?_
                    refine wm_y 37 rfl (by kernel_rfl) (y_assign rfl) rfl ?_
                    refine wm_done (by kernel_rfl) ?_
                    refine wq_nop ?_
                    refine wq_then_norm (hK24 ?_)
                    refine wc_ret ?_
                    refine hret rfl ?_
                    exact ⟨rfl, E⟩
            · skip
              have E_g14 := E
              have C9_g14 := C9
              have C10_g14 := C10
              have C11_g14 := C11
              have C12_g14 := C12
              refine om_ef rfl (ef_alloc (Z := fe (fun _ => 0)) (by kernel_rfl)) rfl ?_
              rintro _ wn15_4 ⟨g14, rfl, Bg14, hg14, ex⟩
              have Xg14 := ex
              refine ⟨.inr ex, ?_⟩
              replace E := E.ext ex
              replace C9 := C9.ext ex
              replace C10 := C10.ext ex
              replace C11 := C11.ext ex
              replace C12 := C12.ext ex
              refine wm_one 2 (by kernel_rfl) ?_; refine om_call rfl Try.func45 rfl rfl rfl (Finv_any FX _) rfl ?_
              rintro e w47 ⟨c47, rfl, F47, ex⟩
              refine ⟨_, rfl, .inr ex, ?_⟩
              replace E := E.ext ex
              replace C9 := C9.ext ex
              replace C10 := C10.ext ex
              replace C11 := C11.ext ex
              replace C12 := C12.ext ex
              replace Bg14 := Bg14.ext ex
              replace Xg14 := Xg14.ext ex
              skip
              refine wm_one 3 (by kernel_rfl) ?_; refine om_call rfl Try.func30 rfl rfl rfl (Fmul_any FX F47 _) rfl ?_
              rintro e w48 ⟨c50, rfl, F50, ex⟩
              refine ⟨_, rfl, .inr ex, ?_⟩
              replace E := E.ext ex
              replace C9 := C9.ext ex
              replace C10 := C10.ext ex
              replace C11 := C11.ext ex
              replace C12 := C12.ext ex
              replace Bg14 := Bg14.ext ex
              replace Xg14 := Xg14.ext ex
              skip
              refine wm_one 5 (by kernel_rfl) ?_; refine om_ef rfl (ef_storeW rfl rfl (by rw [F50.size]; kernel_rfl) Bg14 (by rw [fe_size, F50.size]) F50.one) rfl ?_
              rintro _ wn15_5 ⟨rfl, Bg14, cg⟩
              replace Xg14 := Xg14.chg cg hg14
              refine ⟨.inl rfl, ?_⟩
              replace E := E_g14.ext Xg14
              replace C9 := C9_g14.ext Xg14
              replace C10 := C10_g14.ext Xg14
              replace C11 := C11_g14.ext Xg14
              replace C12 := C12_g14.ext Xg14
              refine wm_done (by kernel_rfl) ?_
              refine wq_nop ?_
              refine wq_then_norm (hK20 ?_)
              refine wc_seq ?_; intro K25 hK25
              refine wc_region ?_
              refine wl_y ((y_loadw rfl Try.underlying27 rfl (by rw [FX.size]; kernel_rfl) C9)) rfl ?_
              refine wl_call Try.func32 rfl rfl rfl (Fsquare_any FX _) rfl ?_
              rintro e wb1 ⟨cb1, rfl, Fb1, ex⟩
              refine ⟨_, rfl, ?_⟩
              replace E := E.ext ex
              replace C9 := C9.ext ex
              replace C10 := C10.ext ex
              replace C11 := C11.ext ex
              replace C12 := C12.ext ex
              replace Bg14 := Bg14.ext ex
              skip
              refine wl_call Try.func47 rfl rfl rfl (Froot_any Fb1 _) rfl ?_
              rintro e wb2 ⟨cb2, rfl, Fb2, ex⟩
              refine ⟨_, rfl, ?_⟩
              replace E := E.ext ex
              replace C9 := C9.ext ex
              replace C10 := C10.ext ex
              replace C11 := C11.ext ex
              replace C12 := C12.ext ex
              replace Bg14 := Bg14.ext ex
              have hsq : Fp.Sqr (x * x) := Fp.sqr_of rfl; rw [if_pos hsq] at Fb2; rw [decide_eq_true hsq]; have hr2 := Fp.roots_two (Fp.root_sq hsq)
              refine wl_y (y_move rfl) rfl ?_
              refine wl_y (y_extract rfl rfl) rfl ?_
              refine wl_y (y_extract rfl rfl) rfl ?_
              have E_g15 := E
              have C9_g15 := C9
              have C10_g15 := C10
              have C11_g15 := C11
              have C12_g15 := C12
              have Bg14_g15 := Bg14
              refine wl_ef (ef_alloc (Z := fe (fun _ => 0)) (by kernel_rfl)) rfl ?_
              rintro _ wn16_6 ⟨g15, rfl, Bg15, hg15, ex⟩
              have Xg15 := ex
              replace E := E.ext ex
              replace C9 := C9.ext ex
              replace C10 := C10.ext ex
              replace C11 := C11.ext ex
              replace C12 := C12.ext ex
              replace Bg14 := Bg14.ext ex
              refine wl_ef (ef_storeW rfl rfl (by rw [Fb2.size]; kernel_rfl) Bg15 (by rw [fe_size, Fb2.size]) Fb2.one) rfl ?_
              rintro _ wn16_7 ⟨rfl, Bg15, cg⟩
              replace Xg15 := Xg15.chg cg hg15
              replace E := E_g15.ext Xg15
              replace C9 := C9_g15.ext Xg15
              replace C10 := C10_g15.ext Xg15
              replace C11 := C11_g15.ext Xg15
              replace C12 := C12_g15.ext Xg15
              replace Bg14 := Bg14_g15.ext Xg15
              refine wl_y (y_assign rfl) rfl ?_
              refine wl_nil ?_
              refine wq_then_norm (hK25 ?_)
              refine wc_seq ?_; intro K26 hK26
              refine wc_draw (by kernel_rfl) 38 rfl ?_; intro wd17 ex hd17
              replace E := E.ext ex
              replace C9 := C9.ext ex
              replace C10 := C10.ext ex
              replace C11 := C11.ext ex
              replace C12 := C12.ext ex
              replace Bg14 := Bg14.ext ex
              replace Bg15 := Bg15.ext ex
              refine wm_y 0 rfl (by kernel_rfl) ((y_loadw rfl Try.underlying27 rfl (by rw [FX.size]; kernel_rfl) C9)) rfl ?_
              refine wm_one 1 (by kernel_rfl) ?_; refine om_call rfl Try.func35 rfl rfl rfl (Fzero_any FX _) rfl ?_
              rintro e wc1 ⟨rfl, ex⟩
              refine ⟨_, rfl, .inr ex, ?_⟩
              replace E := E.ext ex
              replace C9 := C9.ext ex
              replace C10 := C10.ext ex
              replace C11 := C11.ext ex
              replace C12 := C12.ext ex
              replace Bg14 := Bg14.ext ex
              replace Bg15 := Bg15.ext ex
              skip
              refine wm_yask 2 rfl (by kernel_rfl) (y_move rfl) rfl (fun hx0 => ?_) (fun hx0 => ?_)
              · skip
                refine wm_gy 3 rfl (by kernel_rfl) 151 rfl rfl ((y_loadw rfl Try.underlying27 rfl (by rw [F50.size]; kernel_rfl) Bg14)) rfl ?_
                refine wm_one 4 (by kernel_rfl) ?_; refine om_gcall rfl 151 rfl rfl Try.func35 rfl rfl rfl (Fzero_any F50 _) rfl ?_
                rintro e wc2 ⟨rfl, ex⟩
                refine ⟨_, rfl, .inr ex, ?_⟩
                replace E := E.ext ex
                replace C9 := C9.ext ex
                replace C10 := C10.ext ex
                replace C11 := C11.ext ex
                replace C12 := C12.ext ex
                replace Bg14 := Bg14.ext ex
                replace Bg15 := Bg15.ext ex
                rw [decide_eq_true (by rw [hx0]; grind)]
                refine wm_y 5 rfl (by kernel_rfl) (y_pickt rfl rfl) rfl ?_
                refine wm_y 6 rfl (by kernel_rfl) (y_move rfl) rfl ?_
                refine wm_gno 7 rfl (by kernel_rfl) 155 rfl rfl rfl rfl ?_
                refine wm_gno 8 rfl (by kernel_rfl) 155 rfl rfl rfl rfl ?_
                refine wm_gno 9 rfl (by kernel_rfl) 155 rfl rfl rfl rfl ?_
                refine wm_gno 10 rfl (by kernel_rfl) 155 rfl rfl rfl rfl ?_
                refine wm_gun 11 rfl (by kernel_rfl) 159 rfl rfl rfl ?_
                refine wm_gun 12 rfl (by kernel_rfl) 159 rfl rfl rfl ?_
                refine wm_gun 13 rfl (by kernel_rfl) 159 rfl rfl rfl ?_
                refine wm_gno 14 rfl (by kernel_rfl) 155 rfl rfl rfl rfl ?_
                refine wm_y 15 rfl (by kernel_rfl) (y_pickt rfl rfl) rfl ?_
                refine wm_y 16 rfl (by kernel_rfl) (y_move rfl) rfl ?_
                refine wm_gy 17 rfl (by kernel_rfl) 165 rfl rfl (y_move rfl) rfl ?_
                refine wm_y 18 rfl (by kernel_rfl) (y_pickt rfl rfl) rfl ?_
                refine wm_y 19 rfl (by kernel_rfl) (y_move rfl) rfl ?_
                refine wm_gy 20 rfl (by kernel_rfl) 168 rfl rfl ((y_loadw rfl Try.underlying27 rfl (by rw [Fb2.size]; kernel_rfl) Bg15)) rfl ?_
                refine wm_gy 21 rfl (by kernel_rfl) 168 rfl rfl ((y_loadw rfl Try.underlying27 rfl (by rw [FX.size]; kernel_rfl) C9)) rfl ?_
                refine wm_one 22 (by kernel_rfl) ?_; refine om_gcall rfl 168 rfl rfl Try.func33 rfl rfl rfl (Fsame_any Fb2 FX _) rfl ?_
                rintro e wc6 ⟨rfl, ex⟩
                refine ⟨_, rfl, .inr ex, ?_⟩
                replace E := E.ext ex
                replace C9 := C9.ext ex
                replace C10 := C10.ext ex
                replace C11 := C11.ext ex
                replace C12 := C12.ext ex
                replace Bg14 := Bg14.ext ex
                replace Bg15 := Bg15.ext ex
                skip
                refine wm_gyask 23 rfl (by kernel_rfl) 168 rfl rfl (y_move rfl) rfl (fun hrx => ?_) (fun hrx => ?_)
                · skip
                  refine wm_gno 24 rfl (by kernel_rfl) 172 rfl rfl rfl rfl ?_
                  refine wm_gno 25 rfl (by kernel_rfl) 172 rfl rfl rfl rfl ?_
                  refine wm_gno 26 rfl (by kernel_rfl) 172 rfl rfl rfl rfl ?_
                  refine wm_gno 27 rfl (by kernel_rfl) 172 rfl rfl rfl rfl ?_
                  refine wm_gy 28 rfl (by kernel_rfl) 168 rfl rfl (y_pickt rfl rfl) rfl ?_
                  refine wm_y 29 rfl (by kernel_rfl) (y_pickt rfl rfl) rfl ?_
                  refine wm_y 30 rfl (by kernel_rfl) (y_move rfl) rfl ?_
                  refine wm_gy 31 rfl (by kernel_rfl) 179 rfl rfl ((y_loadw rfl Try.underlying27 rfl (by rw [FX.size]; kernel_rfl) C9)) rfl ?_
                  refine wm_gy 34 rfl (by kernel_rfl) 179 rfl rfl ((y_loadw rfl Try.underlying27 rfl (by rw [FX.size]; kernel_rfl) C9)) rfl ?_
                  refine wm_one 32 (by kernel_rfl) ?_; refine om_gcall rfl 179 rfl rfl Try.func51 rfl rfl rfl (fbytes_any FX _) rfl ?_
                  rintro e wc9 ⟨gb, rfl, hgb, Bb, ex⟩
                  refine ⟨_, rfl, .inr ex, ?_⟩
                  replace E := E.ext ex
                  replace C9 := C9.ext ex
                  replace C10 := C10.ext ex
                  replace C11 := C11.ext ex
                  replace C12 := C12.ext ex
                  replace Bg14 := Bg14.ext ex
                  replace Bg15 := Bg15.ext ex
                  skip
                  refine wm_one 33 (by kernel_rfl) ?_; refine om_gcall rfl 179 rfl rfl Try.func19 rfl rfl rfl (Fof_any _ 32 32 _ _ (bs_blk' Bb (Fp.le_length 32 _))) rfl ?_
                  rintro e wd1 ⟨cd1, rfl, Fd1, ex⟩
                  refine ⟨_, rfl, .inr ex, ?_⟩
                  replace E := E.ext ex
                  replace C9 := C9.ext ex
                  replace C10 := C10.ext ex
                  replace C11 := C11.ext ex
                  replace C12 := C12.ext ex
                  replace Bg14 := Bg14.ext ex
                  replace Bg15 := Bg15.ext ex
                  rw [Fp.ofB_le x] at Fd1
                  refine wm_one 35 (by kernel_rfl) ?_; refine om_gcall rfl 179 rfl rfl Try.func33 rfl rfl rfl (Fsame_any Fd1 FX _) rfl ?_
                  rintro e wd2 ⟨rfl, ex⟩
                  refine ⟨_, rfl, .inr ex, ?_⟩
                  replace E := E.ext ex
                  replace C9 := C9.ext ex
                  replace C10 := C10.ext ex
                  replace C11 := C11.ext ex
                  replace C12 := C12.ext ex
                  replace Bg14 := Bg14.ext ex
                  replace Bg15 := Bg15.ext ex
                  rw [decide_eq_true rfl]
                  refine wm_y 36 rfl (by kernel_rfl) (y_pickt rfl rfl) rfl ?_
                  refine wm_y 37 rfl (by kernel_rfl) (y_assign rfl) rfl ?_
                  refine wm_done (by kernel_rfl) ?_
                  refine wq_nop ?_
                  refine wq_then_norm (hK26 ?_)
                  refine wc_ret ?_
                  refine hret rfl ?_
                  exact ⟨rfl, E⟩
                · skip
                  refine wm_gy 24 rfl (by kernel_rfl) 172 rfl rfl ((y_loadw rfl Try.underlying27 rfl (by rw [Fb2.size]; kernel_rfl) Bg15)) rfl ?_
                  refine wm_gy 25 rfl (by kernel_rfl) 172 rfl rfl ((y_loadw rfl Try.underlying27 rfl (by rw [FX.size]; kernel_rfl) C9)) rfl ?_
                  refine wm_one 26 (by kernel_rfl) ?_; refine om_gcall rfl 172 rfl rfl Try.func29 rfl rfl rfl (Fneg_any FX _) rfl ?_
                  rintro e wc7 ⟨cc7, rfl, Fc7, ex⟩
                  refine ⟨_, rfl, .inr ex, ?_⟩
                  replace E := E.ext ex
                  replace C9 := C9.ext ex
                  replace C10 := C10.ext ex
                  replace C11 := C11.ext ex
                  replace C12 := C12.ext ex
                  replace Bg14 := Bg14.ext ex
                  replace Bg15 := Bg15.ext ex
                  skip
                  refine wm_one 27 (by kernel_rfl) ?_; refine om_gcall rfl 172 rfl rfl Try.func33 rfl rfl rfl (Fsame_any Fb2 Fc7 _) rfl ?_
                  rintro e wc8 ⟨rfl, ex⟩
                  refine ⟨_, rfl, .inr ex, ?_⟩
                  replace E := E.ext ex
                  replace C9 := C9.ext ex
                  replace C10 := C10.ext ex
                  replace C11 := C11.ext ex
                  replace C12 := C12.ext ex
                  replace Bg14 := Bg14.ext ex
                  replace Bg15 := Bg15.ext ex
                  rw [decide_eq_true (hr2.resolve_left hrx)]
                  refine wm_gy 28 rfl (by kernel_rfl) 168 rfl rfl (y_pickf rfl rfl) rfl ?_
                  refine wm_y 29 rfl (by kernel_rfl) (y_pickt rfl rfl) rfl ?_
                  refine wm_y 30 rfl (by kernel_rfl) (y_move rfl) rfl ?_
                  refine wm_gy 31 rfl (by kernel_rfl) 179 rfl rfl ((y_loadw rfl Try.underlying27 rfl (by rw [FX.size]; kernel_rfl) C9)) rfl ?_
                  refine wm_gy 34 rfl (by kernel_rfl) 179 rfl rfl ((y_loadw rfl Try.underlying27 rfl (by rw [FX.size]; kernel_rfl) C9)) rfl ?_
                  refine wm_one 32 (by kernel_rfl) ?_; refine om_gcall rfl 179 rfl rfl Try.func51 rfl rfl rfl (fbytes_any FX _) rfl ?_
                  rintro e wc9 ⟨gb, rfl, hgb, Bb, ex⟩
                  refine ⟨_, rfl, .inr ex, ?_⟩
                  replace E := E.ext ex
                  replace C9 := C9.ext ex
                  replace C10 := C10.ext ex
                  replace C11 := C11.ext ex
                  replace C12 := C12.ext ex
                  replace Bg14 := Bg14.ext ex
                  replace Bg15 := Bg15.ext ex
                  skip
                  refine wm_one 33 (by kernel_rfl) ?_; refine om_gcall rfl 179 rfl rfl Try.func19 rfl rfl rfl (Fof_any _ 32 32 _ _ (bs_blk' Bb (Fp.le_length 32 _))) rfl ?_
                  rintro e wd1 ⟨cd1, rfl, Fd1, ex⟩
                  refine ⟨_, rfl, .inr ex, ?_⟩
                  replace E := E.ext ex
                  replace C9 := C9.ext ex
                  replace C10 := C10.ext ex
                  replace C11 := C11.ext ex
                  replace C12 := C12.ext ex
                  replace Bg14 := Bg14.ext ex
                  replace Bg15 := Bg15.ext ex
                  rw [Fp.ofB_le x] at Fd1
                  refine wm_one 35 (by kernel_rfl) ?_; refine om_gcall rfl 179 rfl rfl Try.func33 rfl rfl rfl (Fsame_any Fd1 FX _) rfl ?_
                  rintro e wd2 ⟨rfl, ex⟩
                  refine ⟨_, rfl, .inr ex, ?_⟩
                  replace E := E.ext ex
                  replace C9 := C9.ext ex
                  replace C10 := C10.ext ex
                  replace C11 := C11.ext ex
                  replace C12 := C12.ext ex
                  replace Bg14 := Bg14.ext ex
                  replace Bg15 := Bg15.ext ex
                  rw [decide_eq_true rfl]
                  refine wm_y 36 rfl (by kernel_rfl) (y_pickt rfl rfl) rfl ?_
                  refine wm_y 37 rfl (by kernel_rfl) (y_assign rfl) rfl ?_
                  refine wm_done (by kernel_rfl) ?_
                  refine wq_nop ?_
                  refine wq_then_norm (hK26 ?_)
                  refine wc_ret ?_
                  refine hret rfl ?_
                  exact ⟨rfl, E⟩
              · skip
                refine wm_gno 3 rfl (by kernel_rfl) 151 rfl rfl rfl rfl ?_
                refine wm_gno 4 rfl (by kernel_rfl) 151 rfl rfl rfl rfl ?_
                refine wm_y 5 rfl (by kernel_rfl) (y_pickf rfl rfl) rfl ?_
                refine wm_y 6 rfl (by kernel_rfl) (y_move rfl) rfl ?_
                refine wm_gy 7 rfl (by kernel_rfl) 155 rfl rfl ((y_loadw rfl Try.underlying27 rfl (by rw [FX.size]; kernel_rfl) C9)) rfl ?_
                refine wm_one 8 (by kernel_rfl) ?_; refine om_gcall rfl 155 rfl rfl Try.func35 rfl rfl rfl (Fzero_any FX _) rfl ?_
                rintro e wc3 ⟨rfl, ex⟩
                refine ⟨_, rfl, .inr ex, ?_⟩
                replace E := E.ext ex
                replace C9 := C9.ext ex
                replace C10 := C10.ext ex
                replace C11 := C11.ext ex
                replace C12 := C12.ext ex
                replace Bg14 := Bg14.ext ex
                replace Bg15 := Bg15.ext ex
                rw [decide_eq_false hx0]
                refine wm_gy 9 rfl (by kernel_rfl) 155 rfl rfl (y_not rfl) rfl ?_
                refine wm_gy 10 rfl (by kernel_rfl) 155 rfl rfl (y_move rfl) rfl ?_
                refine wm_gy 11 rfl (by kernel_rfl) 159 rfl rfl ((y_loadw rfl Try.underlying27 rfl (by rw [F50.size]; kernel_rfl) Bg14)) rfl ?_
                refine wm_one 12 (by kernel_rfl) ?_; refine om_gcall rfl 159 rfl rfl Try.func23 rfl rfl rfl (Fnum_any 1 _ (by omega)) rfl ?_
                rintro e wc4 ⟨cc4, rfl, Fc4, ex⟩
                refine ⟨_, rfl, .inr ex, ?_⟩
                replace E := E.ext ex
                replace C9 := C9.ext ex
                replace C10 := C10.ext ex
                replace C11 := C11.ext ex
                replace C12 := C12.ext ex
                replace Bg14 := Bg14.ext ex
                replace Bg15 := Bg15.ext ex
                skip
                refine wm_one 13 (by kernel_rfl) ?_; refine om_gcall rfl 159 rfl rfl Try.func33 rfl rfl rfl (Fsame_any F50 Fc4 _) rfl ?_
                rintro e wc5 ⟨rfl, ex⟩
                refine ⟨_, rfl, .inr ex, ?_⟩
                replace E := E.ext ex
                replace C9 := C9.ext ex
                replace C10 := C10.ext ex
                replace C11 := C11.ext ex
                replace C12 := C12.ext ex
                replace Bg14 := Bg14.ext ex
                replace Bg15 := Bg15.ext ex
                rw [decide_eq_true (show _ = Fp.of 1 from Fp.mul_inv hx0)]
                refine wm_gy 14 rfl (by kernel_rfl) 155 rfl rfl (y_pickt rfl rfl) rfl ?_
                refine wm_y 15 rfl (by kernel_rfl) (y_pickf rfl rfl) rfl ?_
                refine wm_y 16 rfl (by kernel_rfl) (y_move rfl) rfl ?_
                refine wm_gy 17 rfl (by kernel_rfl) 165 rfl rfl (y_move rfl) rfl ?_
                refine wm_y 18 rfl (by kernel_rfl) (y_pickt rfl rfl) rfl ?_
                refine wm_y 19 rfl (by kernel_rfl) (y_move rfl) rfl ?_
                refine wm_gy 20 rfl (by kernel_rfl) 168 rfl rfl ((y_loadw rfl Try.underlying27 rfl (by rw [Fb2.size]; kernel_rfl) Bg15)) rfl ?_
                refine wm_gy 21 rfl (by kernel_rfl) 168 rfl rfl ((y_loadw rfl Try.underlying27 rfl (by rw [FX.size]; kernel_rfl) C9)) rfl ?_
                refine wm_one 22 (by kernel_rfl) ?_; refine om_gcall rfl 168 rfl rfl Try.func33 rfl rfl rfl (Fsame_any Fb2 FX _) rfl ?_
                rintro e wc6 ⟨rfl, ex⟩
                refine ⟨_, rfl, .inr ex, ?_⟩
                replace E := E.ext ex
                replace C9 := C9.ext ex
                replace C10 := C10.ext ex
                replace C11 := C11.ext ex
                replace C12 := C12.ext ex
                replace Bg14 := Bg14.ext ex
                replace Bg15 := Bg15.ext ex
                skip
                refine wm_gyask 23 rfl (by kernel_rfl) 168 rfl rfl (y_move rfl) rfl (fun hrx => ?_) (fun hrx => ?_)
                · skip
                  refine wm_gno 24 rfl (by kernel_rfl) 172 rfl rfl rfl rfl ?_
                  refine wm_gno 25 rfl (by kernel_rfl) 172 rfl rfl rfl rfl ?_
                  refine wm_gno 26 rfl (by kernel_rfl) 172 rfl rfl rfl rfl ?_
                  refine wm_gno 27 rfl (by kernel_rfl) 172 rfl rfl rfl rfl ?_
                  refine wm_gy 28 rfl (by kernel_rfl) 168 rfl rfl (y_pickt rfl rfl) rfl ?_
                  refine wm_y 29 rfl (by kernel_rfl) (y_pickt rfl rfl) rfl ?_
                  refine wm_y 30 rfl (by kernel_rfl) (y_move rfl) rfl ?_
                  refine wm_gy 31 rfl (by kernel_rfl) 179 rfl rfl ((y_loadw rfl Try.underlying27 rfl (by rw [FX.size]; kernel_rfl) C9)) rfl ?_
                  refine wm_gy 34 rfl (by kernel_rfl) 179 rfl rfl ((y_loadw rfl Try.underlying27 rfl (by rw [FX.size]; kernel_rfl) C9)) rfl ?_
                  refine wm_one 32 (by kernel_rfl) ?_; refine om_gcall rfl 179 rfl rfl Try.func51 rfl rfl rfl (fbytes_any FX _) rfl ?_
                  rintro e wc9 ⟨gb, rfl, hgb, Bb, ex⟩
                  refine ⟨_, rfl, .inr ex, ?_⟩
                  replace E := E.ext ex
                  replace C9 := C9.ext ex
                  replace C10 := C10.ext ex
                  replace C11 := C11.ext ex
                  replace C12 := C12.ext ex
                  replace Bg14 := Bg14.ext ex
                  replace Bg15 := Bg15.ext ex
                  skip
                  refine wm_one 33 (by kernel_rfl) ?_; refine om_gcall rfl 179 rfl rfl Try.func19 rfl rfl rfl (Fof_any _ 32 32 _ _ (bs_blk' Bb (Fp.le_length 32 _))) rfl ?_
                  rintro e wd1 ⟨cd1, rfl, Fd1, ex⟩
                  refine ⟨_, rfl, .inr ex, ?_⟩
                  replace E := E.ext ex
                  replace C9 := C9.ext ex
                  replace C10 := C10.ext ex
                  replace C11 := C11.ext ex
                  replace C12 := C12.ext ex
                  replace Bg14 := Bg14.ext ex
                  replace Bg15 := Bg15.ext ex
                  rw [Fp.ofB_le x] at Fd1
                  refine wm_one 35 (by kernel_rfl) ?_; refine om_gcall rfl 179 rfl rfl Try.func33 rfl rfl rfl (Fsame_any Fd1 FX _) rfl ?_
                  rintro e wd2 ⟨rfl, ex⟩
                  refine ⟨_, rfl, .inr ex, ?_⟩
                  replace E := E.ext ex
                  replace C9 := C9.ext ex
                  replace C10 := C10.ext ex
                  replace C11 := C11.ext ex
                  replace C12 := C12.ext ex
                  replace Bg14 := Bg14.ext ex
                  replace Bg15 := Bg15.ext ex
                  rw [decide_eq_true rfl]
                  refine wm_y 36 rfl (by kernel_rfl) (y_pickt rfl rfl) rfl ?_
                  refine wm_y 37 rfl (by kernel_rfl) (y_assign rfl) rfl ?_
                  refine wm_done (by kernel_rfl) ?_
                  refine wq_nop ?_
                  refine wq_then_norm (hK26 ?_)
                  refine wc_ret ?_
                  refine hret rfl ?_
                  exact ⟨rfl, E⟩
                · skip
                  refine wm_gy 24 rfl (by kernel_rfl) 172 rfl rfl ((y_loadw rfl Try.underlying27 rfl (by rw [Fb2.size]; kernel_rfl) Bg15)) rfl ?_
                  refine wm_gy 25 rfl (by kernel_rfl) 172 rfl rfl ((y_loadw rfl Try.underlying27 rfl (by rw [FX.size]; kernel_rfl) C9)) rfl ?_
                  refine wm_one 26 (by kernel_rfl) ?_; refine om_gcall rfl 172 rfl rfl Try.func29 rfl rfl rfl (Fneg_any FX _) rfl ?_
                  rintro e wc7 ⟨cc7, rfl, Fc7, ex⟩
                  refine ⟨_, rfl, .inr ex, ?_⟩
                  replace E := E.ext ex
                  replace C9 := C9.ext ex
                  replace C10 := C10.ext ex
                  replace C11 := C11.ext ex
                  replace C12 := C12.ext ex
                  replace Bg14 := Bg14.ext ex
                  replace Bg15 := Bg15.ext ex
                  skip
                  refine wm_one 27 (by kernel_rfl) ?_; refine om_gcall rfl 172 rfl rfl Try.func33 rfl rfl rfl (Fsame_any Fb2 Fc7 _) rfl ?_
                  rintro e wc8 ⟨rfl, ex⟩
                  refine ⟨_, rfl, .inr ex, ?_⟩
                  replace E := E.ext ex
                  replace C9 := C9.ext ex
                  replace C10 := C10.ext ex
                  replace C11 := C11.ext ex
                  replace C12 := C12.ext ex
                  replace Bg14 := Bg14.ext ex
                  replace Bg15 := Bg15.ext ex
                  rw [decide_eq_true (hr2.resolve_left hrx)]
                  refine wm_gy 28 rfl (by kernel_rfl) 168 rfl rfl (y_pickf rfl rfl) rfl ?_
                  refine wm_y 29 rfl (by kernel_rfl) (y_pickt rfl rfl) rfl ?_
                  refine wm_y 30 rfl (by kernel_rfl) (y_move rfl) rfl ?_
                  refine wm_gy 31 rfl (by kernel_rfl) 179 rfl rfl ((y_loadw rfl Try.underlying27 rfl (by rw [FX.size]; kernel_rfl) C9)) rfl ?_
                  refine wm_gy 34 rfl (by kernel_rfl) 179 rfl rfl ((y_loadw rfl Try.underlying27 rfl (by rw [FX.size]; kernel_rfl) C9)) rfl ?_
                  refine wm_one 32 (by kernel_rfl) ?_; refine om_gcall rfl 179 rfl rfl Try.func51 rfl rfl rfl (fbytes_any FX _) rfl ?_
                  rintro e wc9 ⟨gb, rfl, hgb, Bb, ex⟩
                  refine ⟨_, rfl, .inr ex, ?_⟩
                  replace E := E.ext ex
                  replace C9 := C9.ext ex
                  replace C10 := C10.ext ex
                  replace C11 := C11.ext ex
                  replace C12 := C12.ext ex
                  replace Bg14 := Bg14.ext ex
                  replace Bg15 := Bg15.ext ex
                  skip
                  refine wm_one 33 (by kernel_rfl) ?_; refine om_gcall rfl 179 rfl rfl Try.func19 rfl rfl rfl (Fof_any _ 32 32 _ _ (bs_blk' Bb (Fp.le_length 32 _))) rfl ?_
                  rintro e wd1 ⟨cd1, rfl, Fd1, ex⟩
                  refine ⟨_, rfl, .inr ex, ?_⟩
                  replace E := E.ext ex
                  replace C9 := C9.ext ex
                  replace C10 := C10.ext ex
                  replace C11 := C11.ext ex
                  replace C12 := C12.ext ex
                  replace Bg14 := Bg14.ext ex
                  replace Bg15 := Bg15.ext ex
                  rw [Fp.ofB_le x] at Fd1
                  refine wm_one 35 (by kernel_rfl) ?_; refine om_gcall rfl 179 rfl rfl Try.func33 rfl rfl rfl (Fsame_any Fd1 FX _) rfl ?_
                  rintro e wd2 ⟨rfl, ex⟩
                  refine ⟨_, rfl, .inr ex, ?_⟩
                  replace E := E.ext ex
                  replace C9 := C9.ext ex
                  replace C10 := C10.ext ex
                  replace C11 := C11.ext ex
                  replace C12 := C12.ext ex
                  replace Bg14 := Bg14.ext ex
                  replace Bg15 := Bg15.ext ex
                  rw [decide_eq_true rfl]
                  refine wm_y 36 rfl (by kernel_rfl) (y_pickt rfl rfl) rfl ?_
                  refine wm_y 37 rfl (by kernel_rfl) (y_assign rfl) rfl ?_
                  refine wm_done (by kernel_rfl) ?_
                  refine wq_nop ?_
                  refine wq_then_norm (hK26 ?_)
                  refine wc_ret ?_
                  refine hret rfl ?_
                  exact ⟨rfl, E⟩
        · skip
          refine wl_y (y_move rfl) rfl ?_
          refine wl_gno 42 rfl rfl rfl rfl ?_
          refine wl_gno 42 rfl rfl rfl rfl ?_
          refine wl_y (y_pickf rfl rfl) rfl ?_
          refine wl_nil ?_
          refine wq_then_norm (hK14 ?_)
          refine wc_false rfl rfl ?_
          refine wc_exit ?_
          refine wq_then_exit ?_
          refine wq_then_exit ?_
          refine wq_blk_hit ?_
          refine wq_then_norm (hK11 ?_)
          refine wc_seq ?_; intro K27 hK27
          refine wc_seq ?_; intro K28 hK28
          skip
          refine wc_draw (by kernel_rfl) 54 rfl ?_; intro wd11 ex hd11
          replace E := E.ext ex
          replace C9 := C9.ext ex
          replace C10 := C10.ext ex
          replace C11 := C11.ext ex
          replace C12 := C12.ext ex
          refine wm_y 0 rfl (by kernel_rfl) ((y_loadw rfl Try.underlying27 rfl (by rw [FW.size]; kernel_rfl) C12)) rfl ?_
          refine wm_y 1 rfl (by kernel_rfl) ((y_loadw rfl Try.underlying27 rfl (by rw [FX.size]; kernel_rfl) C9)) rfl ?_
          refine wm_one 2 (by kernel_rfl) ?_; refine om_call rfl Try.func33 rfl rfl rfl (Fsame_any FW FX _) rfl ?_
          rintro e w21 ⟨rfl, ex⟩
          refine ⟨_, rfl, .inr ex, ?_⟩
          replace E := E.ext ex
          replace C9 := C9.ext ex
          replace C10 := C10.ext ex
          replace C11 := C11.ext ex
          replace C12 := C12.ext ex
          rw [decide_eq_true (by grind)]
          refine wm_y 3 rfl (by kernel_rfl) (y_not rfl) rfl ?_
          refine wm_y 4 rfl (by kernel_rfl) (y_move rfl) rfl ?_
          refine wm_gy 5 rfl (by kernel_rfl) 61 rfl rfl ((y_loadw rfl Try.underlying27 rfl (by rw [FX.size]; kernel_rfl) C9)) rfl ?_
          refine wm_gy 6 rfl (by kernel_rfl) 61 rfl rfl ((y_loadw rfl Try.underlying27 rfl (by rw [FY.size]; kernel_rfl) C10)) rfl ?_
          refine wm_gy 7 rfl (by kernel_rfl) 61 rfl rfl ((y_loadw rfl Try.underlying27 rfl (by rw [FZ.size]; kernel_rfl) C11)) rfl ?_
          refine wm_gy 10 rfl (by kernel_rfl) 61 rfl rfl ((y_loadw rfl Try.underlying27 rfl (by rw [FX.size]; kernel_rfl) C9)) rfl ?_
          refine wm_gy 11 rfl (by kernel_rfl) 61 rfl rfl ((y_loadw rfl Try.underlying27 rfl (by rw [FY.size]; kernel_rfl) C10)) rfl ?_
          refine wm_gy 13 rfl (by kernel_rfl) 61 rfl rfl ((y_loadw rfl Try.underlying27 rfl (by rw [FX.size]; kernel_rfl) C9)) rfl ?_
          refine wm_gy 14 rfl (by kernel_rfl) 61 rfl rfl ((y_loadw rfl Try.underlying27 rfl (by rw [FZ.size]; kernel_rfl) C11)) rfl ?_
          refine wm_one 8 (by kernel_rfl) ?_; refine om_gcall rfl 61 rfl rfl Try.func25 rfl rfl rfl (Fadd_any FY FZ _) rfl ?_
          rintro e w22 ⟨c22, rfl, F22, ex⟩
          refine ⟨_, rfl, .inr ex, ?_⟩
          replace E := E.ext ex
          replace C9 := C9.ext ex
          replace C10 := C10.ext ex
          replace C11 := C11.ext ex
          replace C12 := C12.ext ex
          skip
          refine wm_one 9 (by kernel_rfl) ?_; refine om_gcall rfl 61 rfl rfl Try.func30 rfl rfl rfl (Fmul_any FX F22 _) rfl ?_
          rintro e w23 ⟨c23, rfl, F23, ex⟩
          refine ⟨_, rfl, .inr ex, ?_⟩
          replace E := E.ext ex
          replace C9 := C9.ext ex
          replace C10 := C10.ext ex
          replace C11 := C11.ext ex
          replace C12 := C12.ext ex
          skip
          refine wm_one 12 (by kernel_rfl) ?_; refine om_gcall rfl 61 rfl rfl Try.func30 rfl rfl rfl (Fmul_any FX FY _) rfl ?_
          rintro e w24 ⟨c24, rfl, F24, ex⟩
          refine ⟨_, rfl, .inr ex, ?_⟩
          replace E := E.ext ex
          replace C9 := C9.ext ex
          replace C10 := C10.ext ex
          replace C11 := C11.ext ex
          replace C12 := C12.ext ex
          skip
          refine wm_one 15 (by kernel_rfl) ?_; refine om_gcall rfl 61 rfl rfl Try.func30 rfl rfl rfl (Fmul_any FX FZ _) rfl ?_
          rintro e w25 ⟨c25, rfl, F25, ex⟩
          refine ⟨_, rfl, .inr ex, ?_⟩
          replace E := E.ext ex
          replace C9 := C9.ext ex
          replace C10 := C10.ext ex
          replace C11 := C11.ext ex
          replace C12 := C12.ext ex
          skip
          refine wm_one 16 (by kernel_rfl) ?_; refine om_gcall rfl 61 rfl rfl Try.func25 rfl rfl rfl (Fadd_any F24 F25 _) rfl ?_
          rintro e w26 ⟨c26, rfl, F26, ex⟩
          refine ⟨_, rfl, .inr ex, ?_⟩
          replace E := E.ext ex
          replace C9 := C9.ext ex
          replace C10 := C10.ext ex
          replace C11 := C11.ext ex
          replace C12 := C12.ext ex
          skip
          refine wm_one 17 (by kernel_rfl) ?_; refine om_gcall rfl 61 rfl rfl Try.func33 rfl rfl rfl (Fsame_any F23 F26 _) rfl ?_
          rintro e w27 ⟨rfl, ex⟩
          refine ⟨_, rfl, .inr ex, ?_⟩
          replace E := E.ext ex
          replace C9 := C9.ext ex
          replace C10 := C10.ext ex
          replace C11 := C11.ext ex
          replace C12 := C12.ext ex
          rw [decide_eq_true (by grind)]
          refine wm_gy 18 rfl (by kernel_rfl) 61 rfl rfl (y_not rfl) rfl ?_
          refine wm_y 19 rfl (by kernel_rfl) (y_pickf rfl rfl) rfl ?_
          refine wm_y 20 rfl (by kernel_rfl) (y_move rfl) rfl ?_
          refine wm_gy 21 rfl (by kernel_rfl) 77 rfl rfl ((y_loadw rfl Try.underlying27 rfl (by rw [FX.size]; kernel_rfl) C9)) rfl ?_
          refine wm_gy 22 rfl (by kernel_rfl) 77 rfl rfl ((y_loadw rfl Try.underlying27 rfl (by rw [FY.size]; kernel_rfl) C10)) rfl ?_
          refine wm_gy 24 rfl (by kernel_rfl) 77 rfl rfl ((y_loadw rfl Try.underlying27 rfl (by rw [FZ.size]; kernel_rfl) C11)) rfl ?_
          refine wm_gy 26 rfl (by kernel_rfl) 77 rfl rfl ((y_loadw rfl Try.underlying27 rfl (by rw [FX.size]; kernel_rfl) C9)) rfl ?_
          refine wm_gy 27 rfl (by kernel_rfl) 77 rfl rfl ((y_loadw rfl Try.underlying27 rfl (by rw [FY.size]; kernel_rfl) C10)) rfl ?_
          refine wm_gy 28 rfl (by kernel_rfl) 77 rfl rfl ((y_loadw rfl Try.underlying27 rfl (by rw [FZ.size]; kernel_rfl) C11)) rfl ?_
          refine wm_one 23 (by kernel_rfl) ?_; refine om_gcall rfl 77 rfl rfl Try.func30 rfl rfl rfl (Fmul_any FX FY _) rfl ?_
          rintro e w28 ⟨c28, rfl, F28, ex⟩
          refine ⟨_, rfl, .inr ex, ?_⟩
          replace E := E.ext ex
          replace C9 := C9.ext ex
          replace C10 := C10.ext ex
          replace C11 := C11.ext ex
          replace C12 := C12.ext ex
          skip
          refine wm_one 25 (by kernel_rfl) ?_; refine om_gcall rfl 77 rfl rfl Try.func30 rfl rfl rfl (Fmul_any F28 FZ _) rfl ?_
          rintro e w29 ⟨c29, rfl, F29, ex⟩
          refine ⟨_, rfl, .inr ex, ?_⟩
          replace E := E.ext ex
          replace C9 := C9.ext ex
          replace C10 := C10.ext ex
          replace C11 := C11.ext ex
          replace C12 := C12.ext ex
          skip
          refine wm_one 29 (by kernel_rfl) ?_; refine om_gcall rfl 77 rfl rfl Try.func30 rfl rfl rfl (Fmul_any FY FZ _) rfl ?_
          rintro e w30 ⟨c30, rfl, F30, ex⟩
          refine ⟨_, rfl, .inr ex, ?_⟩
          replace E := E.ext ex
          replace C9 := C9.ext ex
          replace C10 := C10.ext ex
          replace C11 := C11.ext ex
          replace C12 := C12.ext ex
          skip
          refine wm_one 30 (by kernel_rfl) ?_; refine om_gcall rfl 77 rfl rfl Try.func30 rfl rfl rfl (Fmul_any FX F30 _) rfl ?_
          rintro e w31 ⟨c31, rfl, F31, ex⟩
          refine ⟨_, rfl, .inr ex, ?_⟩
          replace E := E.ext ex
          replace C9 := C9.ext ex
          replace C10 := C10.ext ex
          replace C11 := C11.ext ex
          replace C12 := C12.ext ex
          skip
          refine wm_one 31 (by kernel_rfl) ?_; refine om_gcall rfl 77 rfl rfl Try.func33 rfl rfl rfl (Fsame_any F29 F31 _) rfl ?_
          rintro e w32 ⟨rfl, ex⟩
          refine ⟨_, rfl, .inr ex, ?_⟩
          replace E := E.ext ex
          replace C9 := C9.ext ex
          replace C10 := C10.ext ex
          replace C11 := C11.ext ex
          replace C12 := C12.ext ex
          rw [decide_eq_true (by grind)]
          refine wm_gy 32 rfl (by kernel_rfl) 77 rfl rfl (y_not rfl) rfl ?_
          refine wm_y 33 rfl (by kernel_rfl) (y_pickf rfl rfl) rfl ?_
          refine wm_y 34 rfl (by kernel_rfl) (y_move rfl) rfl ?_
          refine wm_gy 35 rfl (by kernel_rfl) 91 rfl rfl ((y_loadw rfl Try.underlying27 rfl (by rw [FX.size]; kernel_rfl) C9)) rfl ?_
          refine wm_gy 36 rfl (by kernel_rfl) 91 rfl rfl ((y_loadw rfl Try.underlying27 rfl (by rw [FY.size]; kernel_rfl) C10)) rfl ?_
          refine wm_gy 38 rfl (by kernel_rfl) 91 rfl rfl ((y_loadw rfl Try.underlying27 rfl (by rw [FY.size]; kernel_rfl) C10)) rfl ?_
          refine wm_gy 39 rfl (by kernel_rfl) 91 rfl rfl ((y_loadw rfl Try.underlying27 rfl (by rw [FX.size]; kernel_rfl) C9)) rfl ?_
          refine wm_one 37 (by kernel_rfl) ?_; refine om_gcall rfl 91 rfl rfl Try.func30 rfl rfl rfl (Fmul_any FX FY _) rfl ?_
          rintro e w33 ⟨c33, rfl, F33, ex⟩
          refine ⟨_, rfl, .inr ex, ?_⟩
          replace E := E.ext ex
          replace C9 := C9.ext ex
          replace C10 := C10.ext ex
          replace C11 := C11.ext ex
          replace C12 := C12.ext ex
          skip
          refine wm_one 40 (by kernel_rfl) ?_; refine om_gcall rfl 91 rfl rfl Try.func30 rfl rfl rfl (Fmul_any FY FX _) rfl ?_
          rintro e w34 ⟨c34, rfl, F34, ex⟩
          refine ⟨_, rfl, .inr ex, ?_⟩
          replace E := E.ext ex
          replace C9 := C9.ext ex
          replace C10 := C10.ext ex
          replace C11 := C11.ext ex
          replace C12 := C12.ext ex
          skip
          refine wm_one 41 (by kernel_rfl) ?_; refine om_gcall rfl 91 rfl rfl Try.func33 rfl rfl rfl (Fsame_any F33 F34 _) rfl ?_
          rintro e w35 ⟨rfl, ex⟩
          refine ⟨_, rfl, .inr ex, ?_⟩
          replace E := E.ext ex
          replace C9 := C9.ext ex
          replace C10 := C10.ext ex
          replace C11 := C11.ext ex
          replace C12 := C12.ext ex
          rw [decide_eq_true (by grind)]
          refine wm_gy 42 rfl (by kernel_rfl) 91 rfl rfl (y_not rfl) rfl ?_
          refine wm_y 43 rfl (by kernel_rfl) (y_pickf rfl rfl) rfl ?_
          refine wm_y 44 rfl (by kernel_rfl) (y_move rfl) rfl ?_
          refine wm_gy 45 rfl (by kernel_rfl) 101 rfl rfl ((y_loadw rfl Try.underlying27 rfl (by rw [FX.size]; kernel_rfl) C9)) rfl ?_
          refine wm_gy 46 rfl (by kernel_rfl) 101 rfl rfl ((y_loadw rfl Try.underlying27 rfl (by rw [FY.size]; kernel_rfl) C10)) rfl ?_
          refine wm_gy 48 rfl (by kernel_rfl) 101 rfl rfl ((y_loadw rfl Try.underlying27 rfl (by rw [FY.size]; kernel_rfl) C10)) rfl ?_
          refine wm_gy 49 rfl (by kernel_rfl) 101 rfl rfl ((y_loadw rfl Try.underlying27 rfl (by rw [FX.size]; kernel_rfl) C9)) rfl ?_
          refine wm_one 47 (by kernel_rfl) ?_; refine om_gcall rfl 101 rfl rfl Try.func25 rfl rfl rfl (Fadd_any FX FY _) rfl ?_
          rintro e w36 ⟨c36, rfl, F36, ex⟩
          refine ⟨_, rfl, .inr ex, ?_⟩
          replace E := E.ext ex
          replace C9 := C9.ext ex
          replace C10 := C10.ext ex
          replace C11 := C11.ext ex
          replace C12 := C12.ext ex
          skip
          refine wm_one 50 (by kernel_rfl) ?_; refine om_gcall rfl 101 rfl rfl Try.func25 rfl rfl rfl (Fadd_any FY FX _) rfl ?_
          rintro e w37 ⟨c37, rfl, F37, ex⟩
          refine ⟨_, rfl, .inr ex, ?_⟩
          replace E := E.ext ex
          replace C9 := C9.ext ex
          replace C10 := C10.ext ex
          replace C11 := C11.ext ex
          replace C12 := C12.ext ex
          skip
          refine wm_one 51 (by kernel_rfl) ?_; refine om_gcall rfl 101 rfl rfl Try.func33 rfl rfl rfl (Fsame_any F36 F37 _) rfl ?_
          rintro e w38 ⟨rfl, ex⟩
          refine ⟨_, rfl, .inr ex, ?_⟩
          replace E := E.ext ex
          replace C9 := C9.ext ex
          replace C10 := C10.ext ex
          replace C11 := C11.ext ex
          replace C12 := C12.ext ex
          rw [decide_eq_true (by grind)]
          refine wm_gy 52 rfl (by kernel_rfl) 101 rfl rfl (y_not rfl) rfl ?_
          refine wm_y 53 rfl (by kernel_rfl) (y_pickf rfl rfl) rfl ?_
          refine wm_done (by kernel_rfl) ?_
          refine wq_nop ?_
          refine wq_then_norm (hK28 ?_)
          refine wc_false rfl rfl ?_
          refine wc_skip ?_
          refine wq_then_norm (hK27 ?_)
          refine wc_seq ?_; intro K29 hK29
          refine wc_seq ?_; intro K30 hK30
          refine wc_draw (by kernel_rfl) 28 rfl ?_; intro wd13 ex hd13
          replace E := E.ext ex
          replace C9 := C9.ext ex
          replace C10 := C10.ext ex
          replace C11 := C11.ext ex
          replace C12 := C12.ext ex
          refine wm_y 0 rfl (by kernel_rfl) ((y_loadw rfl Try.underlying27 rfl (by rw [FX.size]; kernel_rfl) C9)) rfl ?_
          refine wm_y 1 rfl (by kernel_rfl) ((y_loadw rfl Try.underlying27 rfl (by rw [FX.size]; kernel_rfl) C9)) rfl ?_
          refine wm_one 2 (by kernel_rfl) ?_; refine om_call rfl Try.func27 rfl rfl rfl (Fsub_any FX FX _) rfl ?_
          rintro e w39 ⟨c39, rfl, F39, ex⟩
          refine ⟨_, rfl, .inr ex, ?_⟩
          replace E := E.ext ex
          replace C9 := C9.ext ex
          replace C10 := C10.ext ex
          replace C11 := C11.ext ex
          replace C12 := C12.ext ex
          skip
          refine wm_one 3 (by kernel_rfl) ?_; refine om_call rfl Try.func35 rfl rfl rfl (Fzero_any F39 _) rfl ?_
          rintro e w40 ⟨rfl, ex⟩
          refine ⟨_, rfl, .inr ex, ?_⟩
          replace E := E.ext ex
          replace C9 := C9.ext ex
          replace C10 := C10.ext ex
          replace C11 := C11.ext ex
          replace C12 := C12.ext ex
          rw [decide_eq_true (by grind)]
          refine wm_y 4 rfl (by kernel_rfl) (y_not rfl) rfl ?_
          refine wm_y 5 rfl (by kernel_rfl) (y_move rfl) rfl ?_
          refine wm_gy 6 rfl (by kernel_rfl) 116 rfl rfl ((y_loadw rfl Try.underlying27 rfl (by rw [FX.size]; kernel_rfl) C9)) rfl ?_
          refine wm_gy 7 rfl (by kernel_rfl) 116 rfl rfl ((y_loadw rfl Try.underlying27 rfl (by rw [FX.size]; kernel_rfl) C9)) rfl ?_
          refine wm_one 8 (by kernel_rfl) ?_; refine om_gcall rfl 116 rfl rfl Try.func29 rfl rfl rfl (Fneg_any FX _) rfl ?_
          rintro e w41 ⟨c41, rfl, F41, ex⟩
          refine ⟨_, rfl, .inr ex, ?_⟩
          replace E := E.ext ex
          replace C9 := C9.ext ex
          replace C10 := C10.ext ex
          replace C11 := C11.ext ex
          replace C12 := C12.ext ex
          skip
          refine wm_one 9 (by kernel_rfl) ?_; refine om_gcall rfl 116 rfl rfl Try.func25 rfl rfl rfl (Fadd_any FX F41 _) rfl ?_
          rintro e w42 ⟨c42, rfl, F42, ex⟩
          refine ⟨_, rfl, .inr ex, ?_⟩
          replace E := E.ext ex
          replace C9 := C9.ext ex
          replace C10 := C10.ext ex
          replace C11 := C11.ext ex
          replace C12 := C12.ext ex
          skip
          refine wm_one 10 (by kernel_rfl) ?_; refine om_gcall rfl 116 rfl rfl Try.func35 rfl rfl rfl (Fzero_any F42 _) rfl ?_
          rintro e w43 ⟨rfl, ex⟩
          refine ⟨_, rfl, .inr ex, ?_⟩
          replace E := E.ext ex
          replace C9 := C9.ext ex
          replace C10 := C10.ext ex
          replace C11 := C11.ext ex
          replace C12 := C12.ext ex
          rw [decide_eq_true (by grind)]
          refine wm_gy 11 rfl (by kernel_rfl) 116 rfl rfl (y_not rfl) rfl ?_
          refine wm_y 12 rfl (by kernel_rfl) (y_pickf rfl rfl) rfl ?_
          refine wm_y 13 rfl (by kernel_rfl) (y_move rfl) rfl ?_
          refine wm_gy 14 rfl (by kernel_rfl) 124 rfl rfl ((y_loadw rfl Try.underlying27 rfl (by rw [FX.size]; kernel_rfl) C9)) rfl ?_
          refine wm_gy 17 rfl (by kernel_rfl) 124 rfl rfl ((y_loadw rfl Try.underlying27 rfl (by rw [FX.size]; kernel_rfl) C9)) rfl ?_
          refine wm_one 15 (by kernel_rfl) ?_; refine om_gcall rfl 124 rfl rfl Try.func23 rfl rfl rfl (Fnum_any 1 _ (by omega)) rfl ?_
          rintro e wa1 ⟨ca1, rfl, Fa1, ex⟩
          refine ⟨_, rfl, .inr ex, ?_⟩
          replace E := E.ext ex
          replace C9 := C9.ext ex
          replace C10 := C10.ext ex
          replace C11 := C11.ext ex
          replace C12 := C12.ext ex
          skip
          refine wm_one 16 (by kernel_rfl) ?_; refine om_gcall rfl 124 rfl rfl Try.func30 rfl rfl rfl (Fmul_any FX Fa1 _) rfl ?_
          rintro e w44 ⟨c44, rfl, F44, ex⟩
          refine ⟨_, rfl, .inr ex, ?_⟩
          replace E := E.ext ex
          replace C9 := C9.ext ex
          replace C10 := C10.ext ex
          replace C11 := C11.ext ex
          replace C12 := C12.ext ex
          skip
          refine wm_one 18 (by kernel_rfl) ?_; refine om_gcall rfl 124 rfl rfl Try.func33 rfl rfl rfl (Fsame_any F44 FX _) rfl ?_
          rintro e wa2 ⟨rfl, ex⟩
          refine ⟨_, rfl, .inr ex, ?_⟩
          replace E := E.ext ex
          replace C9 := C9.ext ex
          replace C10 := C10.ext ex
          replace C11 := C11.ext ex
          replace C12 := C12.ext ex
          rw [decide_eq_true (by rw [Fp.of_one]; grind)]
          refine wm_gy 19 rfl (by kernel_rfl) 124 rfl rfl (y_not rfl) rfl ?_
          refine wm_y 20 rfl (by kernel_rfl) (y_pickf rfl rfl) rfl ?_
          refine wm_y 21 rfl (by kernel_rfl) (y_move rfl) rfl ?_
          refine wm_gy 22 rfl (by kernel_rfl) 132 rfl rfl ((y_loadw rfl Try.underlying27 rfl (by rw [FX.size]; kernel_rfl) C9)) rfl ?_
          refine wm_gy 23 rfl (by kernel_rfl) 132 rfl rfl (y_build rfl (cells := fe (fun _ => 0)) (by kernel_rfl)) rfl ?_
          refine wm_one 24 (by kernel_rfl) ?_; refine om_gcall rfl 132 rfl rfl Try.func30 rfl rfl rfl (Fmul_any FX FE.zero _) rfl ?_
          rintro e w45 ⟨c45, rfl, F45, ex⟩
          refine ⟨_, rfl, .inr ex, ?_⟩
          replace E := E.ext ex
          replace C9 := C9.ext ex
          replace C10 := C10.ext ex
          replace C11 := C11.ext ex
          replace C12 := C12.ext ex
          skip
          refine wm_one 25 (by kernel_rfl) ?_; refine om_gcall rfl 132 rfl rfl Try.func35 rfl rfl rfl (Fzero_any F45 _) rfl ?_
          rintro e w46 ⟨rfl, ex⟩
          refine ⟨_, rfl, .inr ex, ?_⟩
          replace E := E.ext ex
          replace C9 := C9.ext ex
          replace C10 := C10.ext ex
          replace C11 := C11.ext ex
          replace C12 := C12.ext ex
          rw [decide_eq_true (by grind)]
          refine wm_gy 26 rfl (by kernel_rfl) 132 rfl rfl (y_not rfl) rfl ?_
          refine wm_y 27 rfl (by kernel_rfl) (y_pickf rfl rfl) rfl ?_
          refine wm_done (by kernel_rfl) ?_
          refine wq_nop ?_
          refine wq_then_norm (hK30 ?_)
          refine wc_false rfl rfl ?_
          refine wc_skip ?_
          refine wq_then_norm (hK29 ?_)
          refine wc_seq ?_; intro K31 hK31
          refine wc_draw (by kernel_rfl) 6 rfl ?_; intro wd15 ex hd15
          replace E := E.ext ex
          replace C9 := C9.ext ex
          replace C10 := C10.ext ex
          replace C11 := C11.ext ex
          replace C12 := C12.ext ex
          refine wm_y 0 rfl (by kernel_rfl) ((y_loadw rfl Try.underlying27 rfl (by rw [FX.size]; kernel_rfl) C9)) rfl ?_
          refine wm_y 1 rfl (by kernel_rfl) ((y_loadw rfl Try.underlying27 rfl (by rw [FX.size]; kernel_rfl) C9)) rfl ?_
          refine wm_two 2 4 (by kernel_rfl) ?_ ?_
          · skip
            refine om_call rfl Try.func45 rfl rfl rfl (Finv_any FX _) rfl ?_
            rintro e w47 ⟨c47, rfl, F47, ex⟩
            refine ⟨_, rfl, .inr ex, ?_⟩
            replace E := E.ext ex
            replace C9 := C9.ext ex
            replace C10 := C10.ext ex
            replace C11 := C11.ext ex
            replace C12 := C12.ext ex
            skip
            refine wm_two 3 4 (by kernel_rfl) ?_ ?_
            · skip
              refine om_call rfl Try.func30 rfl rfl rfl (Fmul_any FX F47 _) rfl ?_
              rintro e w48 ⟨c50, rfl, F50, ex⟩
              refine ⟨_, rfl, .inr ex, ?_⟩
              replace E := E.ext ex
              replace C9 := C9.ext ex
              replace C10 := C10.ext ex
              replace C11 := C11.ext ex
              replace C12 := C12.ext ex
              skip
              have E_g14 := E
              have C9_g14 := C9
              have C10_g14 := C10
              have C11_g14 := C11
              have C12_g14 := C12
              refine wm_one 4 (by kernel_rfl) ?_; refine om_ef rfl (ef_alloc (Z := fe (fun _ => 0)) (by kernel_rfl)) rfl ?_
              rintro _ wn15_4 ⟨g14, rfl, Bg14, hg14, ex⟩
              have Xg14 := ex
              refine ⟨.inr ex, ?_⟩
              replace E := E.ext ex
              replace C9 := C9.ext ex
              replace C10 := C10.ext ex
              replace C11 := C11.ext ex
              replace C12 := C12.ext ex
              refine wm_one 5 (by kernel_rfl) ?_; refine om_ef rfl (ef_storeW rfl rfl (by rw [F50.size]; kernel_rfl) Bg14 (by rw [fe_size, F50.size]) F50.one) rfl ?_
              rintro _ wn15_5 ⟨rfl, Bg14, cg⟩
              replace Xg14 := Xg14.chg cg hg14
              refine ⟨.inl rfl, ?_⟩
              replace E := E_g14.ext Xg14
              replace C9 := C9_g14.ext Xg14
              replace C10 := C10_g14.ext Xg14
              replace C11 := C11_g14.ext Xg14
              replace C12 := C12_g14.ext Xg14
              refine wm_done (by kernel_rfl) ?_
              refine wq_nop ?_
              refine wq_then_norm (hK31 ?_)
              refine wc_seq ?_; intro K32 hK32
              refine wc_region ?_
              refine wl_y ((y_loadw rfl Try.underlying27 rfl (by rw [FX.size]; kernel_rfl) C9)) rfl ?_
              refine wl_call Try.func32 rfl rfl rfl (Fsquare_any FX _) rfl ?_
              rintro e wb1 ⟨cb1, rfl, Fb1, ex⟩
              refine ⟨_, rfl, ?_⟩
              replace E := E.ext ex
              replace C9 := C9.ext ex
              replace C10 := C10.ext ex
              replace C11 := C11.ext ex
              replace C12 := C12.ext ex
              replace Bg14 := Bg14.ext ex
              skip
              refine wl_call Try.func47 rfl rfl rfl (Froot_any Fb1 _) rfl ?_
              rintro e wb2 ⟨cb2, rfl, Fb2, ex⟩
              refine ⟨_, rfl, ?_⟩
              replace E := E.ext ex
              replace C9 := C9.ext ex
              replace C10 := C10.ext ex
              replace C11 := C11.ext ex
              replace C12 := C12.ext ex
              replace Bg14 := Bg14.ext ex
              have hsq : Fp.Sqr (x * x) := Fp.sqr_of rfl; rw [if_pos hsq] at Fb2; rw [decide_eq_true hsq]; have hr2 := Fp.roots_two (Fp.root_sq hsq)
              refine wl_y (y_move rfl) rfl ?_
              refine wl_y (y_extract rfl rfl) rfl ?_
              refine wl_y (y_extract rfl rfl) rfl ?_
              have E_g15 := E
              have C9_g15 := C9
              have C10_g15 := C10
              have C11_g15 := C11
              have C12_g15 := C12
              have Bg14_g15 := Bg14
              refine wl_ef (ef_alloc (Z := fe (fun _ => 0)) (by kernel_rfl)) rfl ?_
              rintro _ wn16_6 ⟨g15, rfl, Bg15, hg15, ex⟩
              have Xg15 := ex
              replace E := E.ext ex
              replace C9 := C9.ext ex
              replace C10 := C10.ext ex
              replace C11 := C11.ext ex
              replace C12 := C12.ext ex
              replace Bg14 := Bg14.ext ex
              refine wl_ef (ef_storeW rfl rfl (by rw [Fb2.size]; kernel_rfl) Bg15 (by rw [fe_size, Fb2.size]) Fb2.one) rfl ?_
              rintro _ wn16_7 ⟨rfl, Bg15, cg⟩
              replace Xg15 := Xg15.chg cg hg15
              replace E := E_g15.ext Xg15
              replace C9 := C9_g15.ext Xg15
              replace C10 := C10_g15.ext Xg15
              replace C11 := C11_g15.ext Xg15
              replace C12 := C12_g15.ext Xg15
              replace Bg14 := Bg14_g15.ext Xg15
              refine wl_y (y_assign rfl) rfl ?_
              refine wl_nil ?_
              refine wq_then_norm (hK32 ?_)
              refine wc_seq ?_; intro K33 hK33
              refine wc_draw (by kernel_rfl) 38 rfl ?_; intro wd17 ex hd17
              replace E := E.ext ex
              replace C9 := C9.ext ex
              replace C10 := C10.ext ex
              replace C11 := C11.ext ex
              replace C12 := C12.ext ex
              replace Bg14 := Bg14.ext ex
              replace Bg15 := Bg15.ext ex
              refine wm_y 0 rfl (by kernel_rfl) ((y_loadw rfl Try.underlying27 rfl (by rw [FX.size]; kernel_rfl) C9)) rfl ?_
              refine wm_one 1 (by kernel_rfl) ?_; refine om_call rfl Try.func35 rfl rfl rfl (Fzero_any FX _) rfl ?_
              rintro e wc1 ⟨rfl, ex⟩
              refine ⟨_, rfl, .inr ex, ?_⟩
              replace E := E.ext ex
              replace C9 := C9.ext ex
              replace C10 := C10.ext ex
              replace C11 := C11.ext ex
              replace C12 := C12.ext ex
              replace Bg14 := Bg14.ext ex
              replace Bg15 := Bg15.ext ex
              skip
              refine wm_yask 2 rfl (by kernel_rfl) (y_move rfl) rfl (fun hx0 => ?_) (fun hx0 => ?_)
              · skip
                refine wm_gy 3 rfl (by kernel_rfl) 151 rfl rfl ((y_loadw rfl Try.underlying27 rfl (by rw [F50.size]; kernel_rfl) Bg14)) rfl ?_
                refine wm_one 4 (by kernel_rfl) ?_; refine om_gcall rfl 151 rfl rfl Try.func35 rfl rfl rfl (Fzero_any F50 _) rfl ?_
                rintro e wc2 ⟨rfl, ex⟩
                refine ⟨_, rfl, .inr ex, ?_⟩
                replace E := E.ext ex
                replace C9 := C9.ext ex
                replace C10 := C10.ext ex
                replace C11 := C11.ext ex
                replace C12 := C12.ext ex
                replace Bg14 := Bg14.ext ex
                replace Bg15 := Bg15.ext ex
                rw [decide_eq_true (by rw [hx0]; grind)]
                refine wm_y 5 rfl (by kernel_rfl) (y_pickt rfl rfl) rfl ?_
                refine wm_y 6 rfl (by kernel_rfl) (y_move rfl) rfl ?_
                refine wm_gno 7 rfl (by kernel_rfl) 155 rfl rfl rfl rfl ?_
                refine wm_gno 8 rfl (by kernel_rfl) 155 rfl rfl rfl rfl ?_
                refine wm_gno 9 rfl (by kernel_rfl) 155 rfl rfl rfl rfl ?_
                refine wm_gno 10 rfl (by kernel_rfl) 155 rfl rfl rfl rfl ?_
                refine wm_gun 11 rfl (by kernel_rfl) 159 rfl rfl rfl ?_
                refine wm_gun 12 rfl (by kernel_rfl) 159 rfl rfl rfl ?_
                refine wm_gun 13 rfl (by kernel_rfl) 159 rfl rfl rfl ?_
                refine wm_gno 14 rfl (by kernel_rfl) 155 rfl rfl rfl rfl ?_
                refine wm_y 15 rfl (by kernel_rfl) (y_pickt rfl rfl) rfl ?_
                refine wm_y 16 rfl (by kernel_rfl) (y_move rfl) rfl ?_
                refine wm_gy 17 rfl (by kernel_rfl) 165 rfl rfl (y_move rfl) rfl ?_
                refine wm_y 18 rfl (by kernel_rfl) (y_pickt rfl rfl) rfl ?_
                refine wm_y 19 rfl (by kernel_rfl) (y_move rfl) rfl ?_
                refine wm_gy 20 rfl (by kernel_rfl) 168 rfl rfl ((y_loadw rfl Try.underlying27 rfl (by rw [Fb2.size]; kernel_rfl) Bg15)) rfl ?_
                refine wm_gy 21 rfl (by kernel_rfl) 168 rfl rfl ((y_loadw rfl Try.underlying27 rfl (by rw [FX.size]; kernel_rfl) C9)) rfl ?_
                refine wm_one 22 (by kernel_rfl) ?_; refine om_gcall rfl 168 rfl rfl Try.func33 rfl rfl rfl (Fsame_any Fb2 FX _) rfl ?_
                rintro e wc6 ⟨rfl, ex⟩
                refine ⟨_, rfl, .inr ex, ?_⟩
                replace E := E.ext ex
                replace C9 := C9.ext ex
                replace C10 := C10.ext ex
                replace C11 := C11.ext ex
                replace C12 := C12.ext ex
                replace Bg14 := Bg14.ext ex
                replace Bg15 := Bg15.ext ex
                skip
                refine wm_gyask 23 rfl (by kernel_rfl) 168 rfl rfl (y_move rfl) rfl (fun hrx => ?_) (fun hrx => ?_)
                · skip
                  refine wm_gno 24 rfl (by kernel_rfl) 172 rfl rfl rfl rfl ?_
                  refine wm_gno 25 rfl (by kernel_rfl) 172 rfl rfl rfl rfl ?_
                  refine wm_gno 26 rfl (by kernel_rfl) 172 rfl rfl rfl rfl ?_
                  refine wm_gno 27 rfl (by kernel_rfl) 172 rfl rfl rfl rfl ?_
                  refine wm_gy 28 rfl (by kernel_rfl) 168 rfl rfl (y_pickt rfl rfl) rfl ?_
                  refine wm_y 29 rfl (by kernel_rfl) (y_pickt rfl rfl) rfl ?_
                  refine wm_y 30 rfl (by kernel_rfl) (y_move rfl) rfl ?_
                  refine wm_gy 31 rfl (by kernel_rfl) 179 rfl rfl ((y_loadw rfl Try.underlying27 rfl (by rw [FX.size]; kernel_rfl) C9)) rfl ?_
                  refine wm_gy 34 rfl (by kernel_rfl) 179 rfl rfl ((y_loadw rfl Try.underlying27 rfl (by rw [FX.size]; kernel_rfl) C9)) rfl ?_
                  refine wm_one 32 (by kernel_rfl) ?_; refine om_gcall rfl 179 rfl rfl Try.func51 rfl rfl rfl (fbytes_any FX _) rfl ?_
                  rintro e wc9 ⟨gb, rfl, hgb, Bb, ex⟩
                  refine ⟨_, rfl, .inr ex, ?_⟩
                  replace E := E.ext ex
                  replace C9 := C9.ext ex
                  replace C10 := C10.ext ex
                  replace C11 := C11.ext ex
                  replace C12 := C12.ext ex
                  replace Bg14 := Bg14.ext ex
                  replace Bg15 := Bg15.ext ex
                  skip
                  refine wm_one 33 (by kernel_rfl) ?_; refine om_gcall rfl 179 rfl rfl Try.func19 rfl rfl rfl (Fof_any _ 32 32 _ _ (bs_blk' Bb (Fp.le_length 32 _))) rfl ?_
                  rintro e wd1 ⟨cd1, rfl, Fd1, ex⟩
                  refine ⟨_, rfl, .inr ex, ?_⟩
                  replace E := E.ext ex
                  replace C9 := C9.ext ex
                  replace C10 := C10.ext ex
                  replace C11 := C11.ext ex
                  replace C12 := C12.ext ex
                  replace Bg14 := Bg14.ext ex
                  replace Bg15 := Bg15.ext ex
                  rw [Fp.ofB_le x] at Fd1
                  refine wm_one 35 (by kernel_rfl) ?_; refine om_gcall rfl 179 rfl rfl Try.func33 rfl rfl rfl (Fsame_any Fd1 FX _) rfl ?_
                  rintro e wd2 ⟨rfl, ex⟩
                  refine ⟨_, rfl, .inr ex, ?_⟩
                  replace E := E.ext ex
                  replace C9 := C9.ext ex
                  replace C10 := C10.ext ex
                  replace C11 := C11.ext ex
                  replace C12 := C12.ext ex
                  replace Bg14 := Bg14.ext ex
                  replace Bg15 := Bg15.ext ex
                  rw [decide_eq_true rfl]
                  refine wm_y 36 rfl (by kernel_rfl) (y_pickt rfl rfl) rfl ?_
                  refine wm_y 37 rfl (by kernel_rfl) (y_assign rfl) rfl ?_
                  refine wm_done (by kernel_rfl) ?_
                  refine wq_nop ?_
                  refine wq_then_norm (hK33 ?_)
                  refine wc_ret ?_
                  refine hret rfl ?_
                  exact ⟨rfl, E⟩
                · skip
                  refine wm_gy 24 rfl (by kernel_rfl) 172 rfl rfl ((y_loadw rfl Try.underlying27 rfl (by rw [Fb2.size]; kernel_rfl) Bg15)) rfl ?_
                  refine wm_gy 25 rfl (by kernel_rfl) 172 rfl rfl ((y_loadw rfl Try.underlying27 rfl (by rw [FX.size]; kernel_rfl) C9)) rfl ?_
                  refine wm_one 26 (by kernel_rfl) ?_; refine om_gcall rfl 172 rfl rfl Try.func29 rfl rfl rfl (Fneg_any FX _) rfl ?_
                  rintro e wc7 ⟨cc7, rfl, Fc7, ex⟩
                  refine ⟨_, rfl, .inr ex, ?_⟩
                  replace E := E.ext ex
                  replace C9 := C9.ext ex
                  replace C10 := C10.ext ex
                  replace C11 := C11.ext ex
                  replace C12 := C12.ext ex
                  replace Bg14 := Bg14.ext ex
                  replace Bg15 := Bg15.ext ex
                  skip
                  refine wm_one 27 (by kernel_rfl) ?_; refine om_gcall rfl 172 rfl rfl Try.func33 rfl rfl rfl (Fsame_any Fb2 Fc7 _) rfl ?_
                  rintro e wc8 ⟨rfl, ex⟩
                  refine ⟨_, rfl, .inr ex, ?_⟩
                  replace E := E.ext ex
                  replace C9 := C9.ext ex
                  replace C10 := C10.ext ex
                  replace C11 := C11.ext ex
                  replace C12 := C12.ext ex
                  replace Bg14 := Bg14.ext ex
                  replace Bg15 := Bg15.ext ex
                  rw [decide_eq_true (hr2.resolve_left hrx)]
                  refine wm_gy 28 rfl (by kernel_rfl) 168 rfl rfl (y_pickf rfl rfl) rfl ?_
                  refine wm_y 29 rfl (by kernel_rfl) (y_pickt rfl rfl) rfl ?_
                  refine wm_y 30 rfl (by kernel_rfl) (y_move rfl) rfl ?_
                  refine wm_gy 31 rfl (by kernel_rfl) 179 rfl rfl ((y_loadw rfl Try.underlying27 rfl (by rw [FX.size]; kernel_rfl) C9)) rfl ?_
                  refine wm_gy 34 rfl (by kernel_rfl) 179 rfl rfl ((y_loadw rfl Try.underlying27 rfl (by rw [FX.size]; kernel_rfl) C9)) rfl ?_
                  refine wm_one 32 (by kernel_rfl) ?_; refine om_gcall rfl 179 rfl rfl Try.func51 rfl rfl rfl (fbytes_any FX _) rfl ?_
                  rintro e wc9 ⟨gb, rfl, hgb, Bb, ex⟩
                  refine ⟨_, rfl, .inr ex, ?_⟩
                  replace E := E.ext ex
                  replace C9 := C9.ext ex
                  replace C10 := C10.ext ex
                  replace C11 := C11.ext ex
                  replace C12 := C12.ext ex
                  replace Bg14 := Bg14.ext ex
                  replace Bg15 := Bg15.ext ex
                  skip
                  refine wm_one 33 (by kernel_rfl) ?_; refine om_gcall rfl 179 rfl rfl Try.func19 rfl rfl rfl (Fof_any _ 32 32 _ _ (bs_blk' Bb (Fp.le_length 32 _))) rfl ?_
                  rintro e wd1 ⟨cd1, rfl, Fd1, ex⟩
                  refine ⟨_, rfl, .inr ex, ?_⟩
                  replace E := E.ext ex
                  replace C9 := C9.ext ex
                  replace C10 := C10.ext ex
                  replace C11 := C11.ext ex
                  replace C12 := C12.ext ex
                  replace Bg14 := Bg14.ext ex
                  replace Bg15 := Bg15.ext ex
                  rw [Fp.ofB_le x] at Fd1
                  refine wm_one 35 (by kernel_rfl) ?_; refine om_gcall rfl 179 rfl rfl Try.func33 rfl rfl rfl (Fsame_any Fd1 FX _) rfl ?_
                  rintro e wd2 ⟨rfl, ex⟩
                  refine ⟨_, rfl, .inr ex, ?_⟩
                  replace E := E.ext ex
                  replace C9 := C9.ext ex
                  replace C10 := C10.ext ex
                  replace C11 := C11.ext ex
                  replace C12 := C12.ext ex
                  replace Bg14 := Bg14.ext ex
                  replace Bg15 := Bg15.ext ex
                  rw [decide_eq_true rfl]
                  refine wm_y 36 rfl (by kernel_rfl) (y_pickt rfl rfl) rfl ?_
                  refine wm_y 37 rfl (by kernel_rfl) (y_assign rfl) rfl ?_
                  refine wm_done (by kernel_rfl) ?_
                  refine wq_nop ?_
                  refine wq_then_norm (hK33 ?_)
                  refine wc_ret ?_
                  refine hret rfl ?_
                  exact ⟨rfl, E⟩
              · skip
                refine wm_gno 3 rfl (by kernel_rfl) 151 rfl rfl rfl rfl ?_
                refine wm_gno 4 rfl (by kernel_rfl) 151 rfl rfl rfl rfl ?_
                refine wm_y 5 rfl (by kernel_rfl) (y_pickf rfl rfl) rfl ?_
                refine wm_y 6 rfl (by kernel_rfl) (y_move rfl) rfl ?_
                refine wm_gy 7 rfl (by kernel_rfl) 155 rfl rfl ((y_loadw rfl Try.underlying27 rfl (by rw [FX.size]; kernel_rfl) C9)) rfl ?_
                refine wm_one 8 (by kernel_rfl) ?_; refine om_gcall rfl 155 rfl rfl Try.func35 rfl rfl rfl (Fzero_any FX _) rfl ?_
                rintro e wc3 ⟨rfl, ex⟩
                refine ⟨_, rfl, .inr ex, ?_⟩
                replace E := E.ext ex
                replace C9 := C9.ext ex
                replace C10 := C10.ext ex
                replace C11 := C11.ext ex
                replace C12 := C12.ext ex
                replace Bg14 := Bg14.ext ex
                replace Bg15 := Bg15.ext ex
                rw [decide_eq_false hx0]
                refine wm_gy 9 rfl (by kernel_rfl) 155 rfl rfl (y_not rfl) rfl ?_
                refine wm_gy 10 rfl (by kernel_rfl) 155 rfl rfl (y_move rfl) rfl ?_
                refine wm_gy 11 rfl (by kernel_rfl) 159 rfl rfl ((y_loadw rfl Try.underlying27 rfl (by rw [F50.size]; kernel_rfl) Bg14)) rfl ?_
                refine wm_one 12 (by kernel_rfl) ?_; refine om_gcall rfl 159 rfl rfl Try.func23 rfl rfl rfl (Fnum_any 1 _ (by omega)) rfl ?_
                rintro e wc4 ⟨cc4, rfl, Fc4, ex⟩
                refine ⟨_, rfl, .inr ex, ?_⟩
                replace E := E.ext ex
                replace C9 := C9.ext ex
                replace C10 := C10.ext ex
                replace C11 := C11.ext ex
                replace C12 := C12.ext ex
                replace Bg14 := Bg14.ext ex
                replace Bg15 := Bg15.ext ex
                skip
                refine wm_one 13 (by kernel_rfl) ?_; refine om_gcall rfl 159 rfl rfl Try.func33 rfl rfl rfl (Fsame_any F50 Fc4 _) rfl ?_
                rintro e wc5 ⟨rfl, ex⟩
                refine ⟨_, rfl, .inr ex, ?_⟩
                replace E := E.ext ex
                replace C9 := C9.ext ex
                replace C10 := C10.ext ex
                replace C11 := C11.ext ex
                replace C12 := C12.ext ex
                replace Bg14 := Bg14.ext ex
                replace Bg15 := Bg15.ext ex
                rw [decide_eq_true (show _ = Fp.of 1 from Fp.mul_inv hx0)]
                refine wm_gy 14 rfl (by kernel_rfl) 155 rfl rfl (y_pickt rfl rfl) rfl ?_
                refine wm_y 15 rfl (by kernel_rfl) (y_pickf rfl rfl) rfl ?_
                refine wm_y 16 rfl (by kernel_rfl) (y_move rfl) rfl ?_
                refine wm_gy 17 rfl (by kernel_rfl) 165 rfl rfl (y_move rfl) rfl ?_
                refine wm_y 18 rfl (by kernel_rfl) (y_pickt rfl rfl) rfl ?_
                refine wm_y 19 rfl (by kernel_rfl) (y_move rfl) rfl ?_
                refine wm_gy 20 rfl (by kernel_rfl) 168 rfl rfl ((y_loadw rfl Try.underlying27 rfl (by rw [Fb2.size]; kernel_rfl) Bg15)) rfl ?_
                refine wm_gy 21 rfl (by kernel_rfl) 168 rfl rfl ((y_loadw rfl Try.underlying27 rfl (by rw [FX.size]; kernel_rfl) C9)) rfl ?_
                refine wm_one 22 (by kernel_rfl) ?_; refine om_gcall rfl 168 rfl rfl Try.func33 rfl rfl rfl (Fsame_any Fb2 FX _) rfl ?_
                rintro e wc6 ⟨rfl, ex⟩
                refine ⟨_, rfl, .inr ex, ?_⟩
                replace E := E.ext ex
                replace C9 := C9.ext ex
                replace C10 := C10.ext ex
                replace C11 := C11.ext ex
                replace C12 := C12.ext ex
                replace Bg14 := Bg14.ext ex
                replace Bg15 := Bg15.ext ex
                skip
                refine wm_gyask 23 rfl (by kernel_rfl) 168 rfl rfl (y_move rfl) rfl (fun hrx => ?_) (fun hrx => ?_)
                · skip
                  refine wm_gno 24 rfl (by kernel_rfl) 172 rfl rfl rfl rfl ?_
                  refine wm_gno 25 rfl (by kernel_rfl) 172 rfl rfl rfl rfl ?_
                  refine wm_gno 26 rfl (by kernel_rfl) 172 rfl rfl rfl rfl ?_
                  refine wm_gno 27 rfl (by kernel_rfl) 172 rfl rfl rfl rfl ?_
                  refine wm_gy 28 rfl (by kernel_rfl) 168 rfl rfl (y_pickt rfl rfl) rfl ?_
                  refine wm_y 29 rfl (by kernel_rfl) (y_pickt rfl rfl) rfl ?_
                  refine wm_y 30 rfl (by kernel_rfl) (y_move rfl) rfl ?_
                  refine wm_gy 31 rfl (by kernel_rfl) 179 rfl rfl ((y_loadw rfl Try.underlying27 rfl (by rw [FX.size]; kernel_rfl) C9)) rfl ?_
                  refine wm_gy 34 rfl (by kernel_rfl) 179 rfl rfl ((y_loadw rfl Try.underlying27 rfl (by rw [FX.size]; kernel_rfl) C9)) rfl ?_
                  refine wm_one 32 (by kernel_rfl) ?_; refine om_gcall rfl 179 rfl rfl Try.func51 rfl rfl rfl (fbytes_any FX _) rfl ?_
                  rintro e wc9 ⟨gb, rfl, hgb, Bb, ex⟩
                  refine ⟨_, rfl, .inr ex, ?_⟩
                  replace E := E.ext ex
                  replace C9 := C9.ext ex
                  replace C10 := C10.ext ex
                  replace C11 := C11.ext ex
                  replace C12 := C12.ext ex
                  replace Bg14 := Bg14.ext ex
                  replace Bg15 := Bg15.ext ex
                  skip
                  refine wm_one 33 (by kernel_rfl) ?_; refine om_gcall rfl 179 rfl rfl Try.func19 rfl rfl rfl (Fof_any _ 32 32 _ _ (bs_blk' Bb (Fp.le_length 32 _))) rfl ?_
                  rintro e wd1 ⟨cd1, rfl, Fd1, ex⟩
                  refine ⟨_, rfl, .inr ex, ?_⟩
                  replace E := E.ext ex
                  replace C9 := C9.ext ex
                  replace C10 := C10.ext ex
                  replace C11 := C11.ext ex
                  replace C12 := C12.ext ex
                  replace Bg14 := Bg14.ext ex
                  replace Bg15 := Bg15.ext ex
                  rw [Fp.ofB_le x] at Fd1
                  refine wm_one 35 (by kernel_rfl) ?_; refine om_gcall rfl 179 rfl rfl Try.func33 rfl rfl rfl (Fsame_any Fd1 FX _) rfl ?_
                  rintro e wd2 ⟨rfl, ex⟩
                  refine ⟨_, rfl, .inr ex, ?_⟩
                  replace E := E.ext ex
                  replace C9 := C9.ext ex
                  replace C10 := C10.ext ex
                  replace C11 := C11.ext ex
                  replace C12 := C12.ext ex
                  replace Bg14 := Bg14.ext ex
                  replace Bg15 := Bg15.ext ex
                  rw [decide_eq_true rfl]
                  refine wm_y 36 rfl (by kernel_rfl) (y_pickt rfl rfl) rfl ?_
                  refine wm_y 37 rfl (by kernel_rfl) (y_assign rfl) rfl ?_
                  refine wm_done (by kernel_rfl) ?_
                  refine wq_nop ?_
                  refine wq_then_norm (hK33 ?_)
                  refine wc_ret ?_
                  refine hret rfl ?_
                  exact ⟨rfl, E⟩
                · skip
                  refine wm_gy 24 rfl (by kernel_rfl) 172 rfl rfl ((y_loadw rfl Try.underlying27 rfl (by rw [Fb2.size]; kernel_rfl) Bg15)) rfl ?_
                  refine wm_gy 25 rfl (by kernel_rfl) 172 rfl rfl ((y_loadw rfl Try.underlying27 rfl (by rw [FX.size]; kernel_rfl) C9)) rfl ?_
                  refine wm_one 26 (by kernel_rfl) ?_; refine om_gcall rfl 172 rfl rfl Try.func29 rfl rfl rfl (Fneg_any FX _) rfl ?_
                  rintro e wc7 ⟨cc7, rfl, Fc7, ex⟩
                  refine ⟨_, rfl, .inr ex, ?_⟩
                  replace E := E.ext ex
                  replace C9 := C9.ext ex
                  replace C10 := C10.ext ex
                  replace C11 := C11.ext ex
                  replace C12 := C12.ext ex
                  replace Bg14 := Bg14.ext ex
                  replace Bg15 := Bg15.ext ex
                  skip
                  refine wm_one 27 (by kernel_rfl) ?_; refine om_gcall rfl 172 rfl rfl Try.func33 rfl rfl rfl (Fsame_any Fb2 Fc7 _) rfl ?_
                  rintro e wc8 ⟨rfl, ex⟩
                  refine ⟨_, rfl, .inr ex, ?_⟩
                  replace E := E.ext ex
                  replace C9 := C9.ext ex
                  replace C10 := C10.ext ex
                  replace C11 := C11.ext ex
                  replace C12 := C12.ext ex
                  replace Bg14 := Bg14.ext ex
                  replace Bg15 := Bg15.ext ex
                  rw [decide_eq_true (hr2.resolve_left hrx)]
                  refine wm_gy 28 rfl (by kernel_rfl) 168 rfl rfl (y_pickf rfl rfl) rfl ?_
                  refine wm_y 29 rfl (by kernel_rfl) (y_pickt rfl rfl) rfl ?_
                  refine wm_y 30 rfl (by kernel_rfl) (y_move rfl) rfl ?_
                  refine wm_gy 31 rfl (by kernel_rfl) 179 rfl rfl ((y_loadw rfl Try.underlying27 rfl (by rw [FX.size]; kernel_rfl) C9)) rfl ?_
                  refine wm_gy 34 rfl (by kernel_rfl) 179 rfl rfl ((y_loadw rfl Try.underlying27 rfl (by rw [FX.size]; kernel_rfl) C9)) rfl ?_
                  refine wm_one 32 (by kernel_rfl) ?_; refine om_gcall rfl 179 rfl rfl Try.func51 rfl rfl rfl (fbytes_any FX _) rfl ?_
                  rintro e wc9 ⟨gb, rfl, hgb, Bb, ex⟩
                  refine ⟨_, rfl, .inr ex, ?_⟩
                  replace E := E.ext ex
                  replace C9 := C9.ext ex
                  replace C10 := C10.ext ex
                  replace C11 := C11.ext ex
                  replace C12 := C12.ext ex
                  replace Bg14 := Bg14.ext ex
                  replace Bg15 := Bg15.ext ex
                  skip
                  refine wm_one 33 (by kernel_rfl) ?_; refine om_gcall rfl 179 rfl rfl Try.func19 rfl rfl rfl (Fof_any _ 32 32 _ _ (bs_blk' Bb (Fp.le_length 32 _))) rfl ?_
                  rintro e wd1 ⟨cd1, rfl, Fd1, ex⟩
                  refine ⟨_, rfl, .inr ex, ?_⟩
                  replace E := E.ext ex
                  replace C9 := C9.ext ex
                  replace C10 := C10.ext ex
                  replace C11 := C11.ext ex
                  replace C12 := C12.ext ex
                  replace Bg14 := Bg14.ext ex
                  replace Bg15 := Bg15.ext ex
                  rw [Fp.ofB_le x] at Fd1
                  refine wm_one 35 (by kernel_rfl) ?_; refine om_gcall rfl 179 rfl rfl Try.func33 rfl rfl rfl (Fsame_any Fd1 FX _) rfl ?_
                  rintro e wd2 ⟨rfl, ex⟩
                  refine ⟨_, rfl, .inr ex, ?_⟩
                  replace E := E.ext ex
                  replace C9 := C9.ext ex
                  replace C10 := C10.ext ex
                  replace C11 := C11.ext ex
                  replace C12 := C12.ext ex
                  replace Bg14 := Bg14.ext ex
                  replace Bg15 := Bg15.ext ex
                  rw [decide_eq_true rfl]
                  refine wm_y 36 rfl (by kernel_rfl) (y_pickt rfl rfl) rfl ?_
                  refine wm_y 37 rfl (by kernel_rfl) (y_assign rfl) rfl ?_
                  refine wm_done (by kernel_rfl) ?_
                  refine wq_nop ?_
                  refine wq_then_norm (hK33 ?_)
                  refine wc_ret ?_
                  refine hret rfl ?_
                  exact ⟨rfl, E⟩
            · skip
              have E_g14 := E
              have C9_g14 := C9
              have C10_g14 := C10
              have C11_g14 := C11
              have C12_g14 := C12
              refine om_ef rfl (ef_alloc (Z := fe (fun _ => 0)) (by kernel_rfl)) rfl ?_
              rintro _ wn15_4 ⟨g14, rfl, Bg14, hg14, ex⟩
              have Xg14 := ex
              refine ⟨.inr ex, ?_⟩
              replace E := E.ext ex
              replace C9 := C9.ext ex
              replace C10 := C10.ext ex
              replace C11 := C11.ext ex
              replace C12 := C12.ext ex
              refine wm_one 3 (by kernel_rfl) ?_; refine om_call rfl Try.func30 rfl rfl rfl (Fmul_any FX F47 _) rfl ?_
              rintro e w48 ⟨c50, rfl, F50, ex⟩
              refine ⟨_, rfl, .inr ex, ?_⟩
              replace E := E.ext ex
              replace C9 := C9.ext ex
              replace C10 := C10.ext ex
              replace C11 := C11.ext ex
              replace C12 := C12.ext ex
              replace Bg14 := Bg14.ext ex
              replace Xg14 := Xg14.ext ex
              skip
              refine wm_one 5 (by kernel_rfl) ?_; refine om_ef rfl (ef_storeW rfl rfl (by rw [F50.size]; kernel_rfl) Bg14 (by rw [fe_size, F50.size]) F50.one) rfl ?_
              rintro _ wn15_5 ⟨rfl, Bg14, cg⟩
              replace Xg14 := Xg14.chg cg hg14
              refine ⟨.inl rfl, ?_⟩
              replace E := E_g14.ext Xg14
              replace C9 := C9_g14.ext Xg14
              replace C10 := C10_g14.ext Xg14
              replace C11 := C11_g14.ext Xg14
              replace C12 := C12_g14.ext Xg14
              refine wm_done (by kernel_rfl) ?_
              refine wq_nop ?_
              refine wq_then_norm (hK31 ?_)
              refine wc_seq ?_; intro K34 hK34
              refine wc_region ?_
              refine wl_y ((y_loadw rfl Try.underlying27 rfl (by rw [FX.size]; kernel_rfl) C9)) rfl ?_
              refine wl_call Try.func32 rfl rfl rfl (Fsquare_any FX _) rfl ?_
              rintro e wb1 ⟨cb1, rfl, Fb1, ex⟩
              refine ⟨_, rfl, ?_⟩
              replace E := E.ext ex
              replace C9 := C9.ext ex
              replace C10 := C10.ext ex
              replace C11 := C11.ext ex
              replace C12 := C12.ext ex
              replace Bg14 := Bg14.ext ex
              skip
              refine wl_call Try.func47 rfl rfl rfl (Froot_any Fb1 _) rfl ?_
              rintro e wb2 ⟨cb2, rfl, Fb2, ex⟩
              refine ⟨_, rfl, ?_⟩
              replace E := E.ext ex
              replace C9 := C9.ext ex
              replace C10 := C10.ext ex
              replace C11 := C11.ext ex
              replace C12 := C12.ext ex
              replace Bg14 := Bg14.ext ex
              have hsq : Fp.Sqr (x * x) := Fp.sqr_of rfl; rw [if_pos hsq] at Fb2; rw [decide_eq_true hsq]; have hr2 := Fp.roots_two (Fp.root_sq hsq)
              refine wl_y (y_move rfl) rfl ?_
              refine wl_y (y_extract rfl rfl) rfl ?_
              refine wl_y (y_extract rfl rfl) rfl ?_
              have E_g15 := E
              have C9_g15 := C9
              have C10_g15 := C10
              have C11_g15 := C11
              have C12_g15 := C12
              have Bg14_g15 := Bg14
              refine wl_ef (ef_alloc (Z := fe (fun _ => 0)) (by kernel_rfl)) rfl ?_
              rintro _ wn16_6 ⟨g15, rfl, Bg15, hg15, ex⟩
              have Xg15 := ex
              replace E := E.ext ex
              replace C9 := C9.ext ex
              replace C10 := C10.ext ex
              replace C11 := C11.ext ex
              replace C12 := C12.ext ex
              replace Bg14 := Bg14.ext ex
              refine wl_ef (ef_storeW rfl rfl (by rw [Fb2.size]; kernel_rfl) Bg15 (by rw [fe_size, Fb2.size]) Fb2.one) rfl ?_
              rintro _ wn16_7 ⟨rfl, Bg15, cg⟩
              replace Xg15 := Xg15.chg cg hg15
              replace E := E_g15.ext Xg15
              replace C9 := C9_g15.ext Xg15
              replace C10 := C10_g15.ext Xg15
              replace C11 := C11_g15.ext Xg15
              replace C12 := C12_g15.ext Xg15
              replace Bg14 := Bg14_g15.ext Xg15
              refine wl_y (y_assign rfl) rfl ?_
              refine wl_nil ?_
              refine wq_then_norm (hK34 ?_)
              refine wc_seq ?_; intro K35 hK35
              refine wc_draw (by kernel_rfl) 38 rfl ?_; intro wd17 ex hd17
              replace E := E.ext ex
              replace C9 := C9.ext ex
              replace C10 := C10.ext ex
              replace C11 := C11.ext ex
              replace C12 := C12.ext ex
              replace Bg14 := Bg14.ext ex
              replace Bg15 := Bg15.ext ex
              refine wm_y 0 rfl (by kernel_rfl) ((y_loadw rfl Try.underlying27 rfl (by rw [FX.size]; kernel_rfl) C9)) rfl ?_
              refine wm_one 1 (by kernel_rfl) ?_; refine om_call rfl Try.func35 rfl rfl rfl (Fzero_any FX _) rfl ?_
              rintro e wc1 ⟨rfl, ex⟩
              refine ⟨_, rfl, .inr ex, ?_⟩
              replace E := E.ext ex
              replace C9 := C9.ext ex
              replace C10 := C10.ext ex
              replace C11 := C11.ext ex
              replace C12 := C12.ext ex
              replace Bg14 := Bg14.ext ex
              replace Bg15 := Bg15.ext ex
              skip
              refine wm_yask 2 rfl (by kernel_rfl) (y_move rfl) rfl (fun hx0 => ?_) (fun hx0 => ?_)
              · skip
                refine wm_gy 3 rfl (by kernel_rfl) 151 rfl rfl ((y_loadw rfl Try.underlying27 rfl (by rw [F50.size]; kernel_rfl) Bg14)) rfl ?_
                refine wm_one 4 (by kernel_rfl) ?_; refine om_gcall rfl 151 rfl rfl Try.func35 rfl rfl rfl (Fzero_any F50 _) rfl ?_
                rintro e wc2 ⟨rfl, ex⟩
                refine ⟨_, rfl, .inr ex, ?_⟩
                replace E := E.ext ex
                replace C9 := C9.ext ex
                replace C10 := C10.ext ex
                replace C11 := C11.ext ex
                replace C12 := C12.ext ex
                replace Bg14 := Bg14.ext ex
                replace Bg15 := Bg15.ext ex
                rw [decide_eq_true (by rw [hx0]; grind)]
                refine wm_y 5 rfl (by kernel_rfl) (y_pickt rfl rfl) rfl ?_
                refine wm_y 6 rfl (by kernel_rfl) (y_move rfl) rfl ?_
                refine wm_gno 7 rfl (by kernel_rfl) 155 rfl rfl rfl rfl ?_
                refine wm_gno 8 rfl (by kernel_rfl) 155 rfl rfl rfl rfl ?_
                refine wm_gno 9 rfl (by kernel_rfl) 155 rfl rfl rfl rfl ?_
                refine wm_gno 10 rfl (by kernel_rfl) 155 rfl rfl rfl rfl ?_
                refine wm_gun 11 rfl (by kernel_rfl) 159 rfl rfl rfl ?_
                refine wm_gun 12 rfl (by kernel_rfl) 159 rfl rfl rfl ?_
                refine wm_gun 13 rfl (by kernel_rfl) 159 rfl rfl rfl ?_
                refine wm_gno 14 rfl (by kernel_rfl) 155 rfl rfl rfl rfl ?_
                refine wm_y 15 rfl (by kernel_rfl) (y_pickt rfl rfl) rfl ?_
                refine wm_y 16 rfl (by kernel_rfl) (y_move rfl) rfl ?_
                refine wm_gy 17 rfl (by kernel_rfl) 165 rfl rfl (y_move rfl) rfl ?_
                refine wm_y 18 rfl (by kernel_rfl) (y_pickt rfl rfl) rfl ?_
                refine wm_y 19 rfl (by kernel_rfl) (y_move rfl) rfl ?_
                refine wm_gy 20 rfl (by kernel_rfl) 168 rfl rfl ((y_loadw rfl Try.underlying27 rfl (by rw [Fb2.size]; kernel_rfl) Bg15)) rfl ?_
                refine wm_gy 21 rfl (by kernel_rfl) 168 rfl rfl ((y_loadw rfl Try.underlying27 rfl (by rw [FX.size]; kernel_rfl) C9)) rfl ?_
                refine wm_one 22 (by kernel_rfl) ?_; refine om_gcall rfl 168 rfl rfl Try.func33 rfl rfl rfl (Fsame_any Fb2 FX _) rfl ?_
                rintro e wc6 ⟨rfl, ex⟩
                refine ⟨_, rfl, .inr ex, ?_⟩
                replace E := E.ext ex
                replace C9 := C9.ext ex
                replace C10 := C10.ext ex
                replace C11 := C11.ext ex
                replace C12 := C12.ext ex
                replace Bg14 := Bg14.ext ex
                replace Bg15 := Bg15.ext ex
                skip
                refine wm_gyask 23 rfl (by kernel_rfl) 168 rfl rfl (y_move rfl) rfl (fun hrx => ?_) (fun hrx => ?_)
                · skip
                  refine wm_gno 24 rfl (by kernel_rfl) 172 rfl rfl rfl rfl ?_
                  refine wm_gno 25 rfl (by kernel_rfl) 172 rfl rfl rfl rfl ?_
                  refine wm_gno 26 rfl (by kernel_rfl) 172 rfl rfl rfl rfl ?_
                  refine wm_gno 27 rfl (by kernel_rfl) 172 rfl rfl rfl rfl ?_
                  refine wm_gy 28 rfl (by kernel_rfl) 168 rfl rfl (y_pickt rfl rfl) rfl ?_
                  refine wm_y 29 rfl (by kernel_rfl) (y_pickt rfl rfl) rfl ?_
                  refine wm_y 30 rfl (by kernel_rfl) (y_move rfl) rfl ?_
                  refine wm_gy 31 rfl (by kernel_rfl) 179 rfl rfl ((y_loadw rfl Try.underlying27 rfl (by rw [FX.size]; kernel_rfl) C9)) rfl ?_
                  refine wm_gy 34 rfl (by kernel_rfl) 179 rfl rfl ((y_loadw rfl Try.underlying27 rfl (by rw [FX.size]; kernel_rfl) C9)) rfl ?_
                  refine wm_one 32 (by kernel_rfl) ?_; refine om_gcall rfl 179 rfl rfl Try.func51 rfl rfl rfl (fbytes_any FX _) rfl ?_
                  rintro e wc9 ⟨gb, rfl, hgb, Bb, ex⟩
                  refine ⟨_, rfl, .inr ex, ?_⟩
                  replace E := E.ext ex
                  replace C9 := C9.ext ex
                  replace C10 := C10.ext ex
                  replace C11 := C11.ext ex
                  replace C12 := C12.ext ex
                  replace Bg14 := Bg14.ext ex
                  replace Bg15 := Bg15.ext ex
                  skip
                  refine wm_one 33 (by kernel_rfl) ?_; refine om_gcall rfl 179 rfl rfl Try.func19 rfl rfl rfl (Fof_any _ 32 32 _ _ (bs_blk' Bb (Fp.le_length 32 _))) rfl ?_
                  rintro e wd1 ⟨cd1, rfl, Fd1, ex⟩
                  refine ⟨_, rfl, .inr ex, ?_⟩
                  replace E := E.ext ex
                  replace C9 := C9.ext ex
                  replace C10 := C10.ext ex
                  replace C11 := C11.ext ex
                  replace C12 := C12.ext ex
                  replace Bg14 := Bg14.ext ex
                  replace Bg15 := Bg15.ext ex
                  rw [Fp.ofB_le x] at Fd1
                  refine wm_one 35 (by kernel_rfl) ?_; refine om_gcall rfl 179 rfl rfl Try.func33 rfl rfl rfl (Fsame_any Fd1 FX _) rfl ?_
                  rintro e wd2 ⟨rfl, ex⟩
                  refine ⟨_, rfl, .inr ex, ?_⟩
                  replace E := E.ext ex
                  replace C9 := C9.ext ex
                  replace C10 := C10.ext ex
                  replace C11 := C11.ext ex
                  replace C12 := C12.ext ex
                  replace Bg14 := Bg14.ext ex
                  replace Bg15 := Bg15.ext ex
                  rw [decide_eq_true rfl]
                  refine wm_y 36 rfl (by kernel_rfl) (y_pickt rfl rfl) rfl ?_
                  refine wm_y 37 rfl (by kernel_rfl) (y_assign rfl) rfl ?_
                  refine wm_done (by kernel_rfl) ?_
                  refine wq_nop ?_
                  refine wq_then_norm (hK35 ?_)
                  refine wc_ret ?_
                  refine hret rfl ?_
                  exact ⟨rfl, E⟩
                · skip
                  refine wm_gy 24 rfl (by kernel_rfl) 172 rfl rfl ((y_loadw rfl Try.underlying27 rfl (by rw [Fb2.size]; kernel_rfl) Bg15)) rfl ?_
                  refine wm_gy 25 rfl (by kernel_rfl) 172 rfl rfl ((y_loadw rfl Try.underlying27 rfl (by rw [FX.size]; kernel_rfl) C9)) rfl ?_
                  refine wm_one 26 (by kernel_rfl) ?_; refine om_gcall rfl 172 rfl rfl Try.func29 rfl rfl rfl (Fneg_any FX _) rfl ?_
                  rintro e wc7 ⟨cc7, rfl, Fc7, ex⟩
                  refine ⟨_, rfl, .inr ex, ?_⟩
                  replace E := E.ext ex
                  replace C9 := C9.ext ex
                  replace C10 := C10.ext ex
                  replace C11 := C11.ext ex
                  replace C12 := C12.ext ex
                  replace Bg14 := Bg14.ext ex
                  replace Bg15 := Bg15.ext ex
                  skip
                  refine wm_one 27 (by kernel_rfl) ?_; refine om_gcall rfl 172 rfl rfl Try.func33 rfl rfl rfl (Fsame_any Fb2 Fc7 _) rfl ?_
                  rintro e wc8 ⟨rfl, ex⟩
                  refine ⟨_, rfl, .inr ex, ?_⟩
                  replace E := E.ext ex
                  replace C9 := C9.ext ex
                  replace C10 := C10.ext ex
                  replace C11 := C11.ext ex
                  replace C12 := C12.ext ex
                  replace Bg14 := Bg14.ext ex
                  replace Bg15 := Bg15.ext ex
                  rw [decide_eq_true (hr2.resolve_left hrx)]
                  refine wm_gy 28 rfl (by kernel_rfl) 168 rfl rfl (y_pickf rfl rfl) rfl ?_
                  refine wm_y 29 rfl (by kernel_rfl) (y_pickt rfl rfl) rfl ?_
                  refine wm_y 30 rfl (by kernel_rfl) (y_move rfl) rfl ?_
                  refine wm_gy 31 rfl (by kernel_rfl) 179 rfl rfl ((y_loadw rfl Try.underlying27 rfl (by rw [FX.size]; kernel_rfl) C9)) rfl ?_
                  refine wm_gy 34 rfl (by kernel_rfl) 179 rfl rfl ((y_loadw rfl Try.underlying27 rfl (by rw [FX.size]; kernel_rfl) C9)) rfl ?_
                  refine wm_one 32 (by kernel_rfl) ?_; refine om_gcall rfl 179 rfl rfl Try.func51 rfl rfl rfl (fbytes_any FX _) rfl ?_
                  rintro e wc9 ⟨gb, rfl, hgb, Bb, ex⟩
                  refine ⟨_, rfl, .inr ex, ?_⟩
                  replace E := E.ext ex
                  replace C9 := C9.ext ex
                  replace C10 := C10.ext ex
                  replace C11 := C11.ext ex
                  replace C12 := C12.ext ex
                  replace Bg14 := Bg14.ext ex
                  replace Bg15 := Bg15.ext ex
                  skip
                  refine wm_one 33 (by kernel_rfl) ?_; refine om_gcall rfl 179 rfl rfl Try.func19 rfl rfl rfl (Fof_any _ 32 32 _ _ (bs_blk' Bb (Fp.le_length 32 _))) rfl ?_
                  rintro e wd1 ⟨cd1, rfl, Fd1, ex⟩
                  refine ⟨_, rfl, .inr ex, ?_⟩
                  replace E := E.ext ex
                  replace C9 := C9.ext ex
                  replace C10 := C10.ext ex
                  replace C11 := C11.ext ex
                  replace C12 := C12.ext ex
                  replace Bg14 := Bg14.ext ex
                  replace Bg15 := Bg15.ext ex
                  rw [Fp.ofB_le x] at Fd1
                  refine wm_one 35 (by kernel_rfl) ?_; refine om_gcall rfl 179 rfl rfl Try.func33 rfl rfl rfl (Fsame_any Fd1 FX _) rfl ?_
                  rintro e wd2 ⟨rfl, ex⟩
                  refine ⟨_, rfl, .inr ex, ?_⟩
                  replace E := E.ext ex
                  replace C9 := C9.ext ex
                  replace C10 := C10.ext ex
                  replace C11 := C11.ext ex
                  replace C12 := C12.ext ex
                  replace Bg14 := Bg14.ext ex
                  replace Bg15 := Bg15.ext ex
                  rw [decide_eq_true rfl]
                  refine wm_y 36 rfl (by kernel_rfl) (y_pickt rfl rfl) rfl ?_
                  refine wm_y 37 rfl (by kernel_rfl) (y_assign rfl) rfl ?_
                  refine wm_done (by kernel_rfl) ?_
                  refine wq_nop ?_
                  refine wq_then_norm (hK35 ?_)
                  refine wc_ret ?_
                  refine hret rfl ?_
                  exact ⟨rfl, E⟩
              · skip
                refine wm_gno 3 rfl (by kernel_rfl) 151 rfl rfl rfl rfl ?_
                refine wm_gno 4 rfl (by kernel_rfl) 151 rfl rfl rfl rfl ?_
                refine wm_y 5 rfl (by kernel_rfl) (y_pickf rfl rfl) rfl ?_
                refine wm_y 6 rfl (by kernel_rfl) (y_move rfl) rfl ?_
                refine wm_gy 7 rfl (by kernel_rfl) 155 rfl rfl ((y_loadw rfl Try.underlying27 rfl (by rw [FX.size]; kernel_rfl) C9)) rfl ?_
                refine wm_one 8 (by kernel_rfl) ?_; refine om_gcall rfl 155 rfl rfl Try.func35 rfl rfl rfl (Fzero_any FX _) rfl ?_
                rintro e wc3 ⟨rfl, ex⟩
                refine ⟨_, rfl, .inr ex, ?_⟩
                replace E := E.ext ex
                replace C9 := C9.ext ex
                replace C10 := C10.ext ex
                replace C11 := C11.ext ex
                replace C12 := C12.ext ex
                replace Bg14 := Bg14.ext ex
                replace Bg15 := Bg15.ext ex
                rw [decide_eq_false hx0]
                refine wm_gy 9 rfl (by kernel_rfl) 155 rfl rfl (y_not rfl) rfl ?_
                refine wm_gy 10 rfl (by kernel_rfl) 155 rfl rfl (y_move rfl) rfl ?_
                refine wm_gy 11 rfl (by kernel_rfl) 159 rfl rfl ((y_loadw rfl Try.underlying27 rfl (by rw [F50.size]; kernel_rfl) Bg14)) rfl ?_
                refine wm_one 12 (by kernel_rfl) ?_; refine om_gcall rfl 159 rfl rfl Try.func23 rfl rfl rfl (Fnum_any 1 _ (by omega)) rfl ?_
                rintro e wc4 ⟨cc4, rfl, Fc4, ex⟩
                refine ⟨_, rfl, .inr ex, ?_⟩
                replace E := E.ext ex
                replace C9 := C9.ext ex
                replace C10 := C10.ext ex
                replace C11 := C11.ext ex
                replace C12 := C12.ext ex
                replace Bg14 := Bg14.ext ex
                replace Bg15 := Bg15.ext ex
                skip
                refine wm_one 13 (by kernel_rfl) ?_; refine om_gcall rfl 159 rfl rfl Try.func33 rfl rfl rfl (Fsame_any F50 Fc4 _) rfl ?_
                rintro e wc5 ⟨rfl, ex⟩
                refine ⟨_, rfl, .inr ex, ?_⟩
                replace E := E.ext ex
                replace C9 := C9.ext ex
                replace C10 := C10.ext ex
                replace C11 := C11.ext ex
                replace C12 := C12.ext ex
                replace Bg14 := Bg14.ext ex
                replace Bg15 := Bg15.ext ex
                rw [decide_eq_true (show _ = Fp.of 1 from Fp.mul_inv hx0)]
                refine wm_gy 14 rfl (by kernel_rfl) 155 rfl rfl (y_pickt rfl rfl) rfl ?_
                refine wm_y 15 rfl (by kernel_rfl) (y_pickf rfl rfl) rfl ?_
                refine wm_y 16 rfl (by kernel_rfl) (y_move rfl) rfl ?_
                refine wm_gy 17 rfl (by kernel_rfl) 165 rfl rfl (y_move rfl) rfl ?_
                refine wm_y 18 rfl (by kernel_rfl) (y_pickt rfl rfl) rfl ?_
                refine wm_y 19 rfl (by kernel_rfl) (y_move rfl) rfl ?_
                refine wm_gy 20 rfl (by kernel_rfl) 168 rfl rfl ((y_loadw rfl Try.underlying27 rfl (by rw [Fb2.size]; kernel_rfl) Bg15)) rfl ?_
                refine wm_gy 21 rfl (by kernel_rfl) 168 rfl rfl ((y_loadw rfl Try.underlying27 rfl (by rw [FX.size]; kernel_rfl) C9)) rfl ?_
                refine wm_one 22 (by kernel_rfl) ?_; refine om_gcall rfl 168 rfl rfl Try.func33 rfl rfl rfl (Fsame_any Fb2 FX _) rfl ?_
                rintro e wc6 ⟨rfl, ex⟩
                refine ⟨_, rfl, .inr ex, ?_⟩
                replace E := E.ext ex
                replace C9 := C9.ext ex
                replace C10 := C10.ext ex
                replace C11 := C11.ext ex
                replace C12 := C12.ext ex
                replace Bg14 := Bg14.ext ex
                replace Bg15 := Bg15.ext ex
                skip
                refine wm_gyask 23 rfl (by kernel_rfl) 168 rfl rfl (y_move rfl) rfl (fun hrx => ?_) (fun hrx => ?_)
                · skip
                  refine wm_gno 24 rfl (by kernel_rfl) 172 rfl rfl rfl rfl ?_
                  refine wm_gno 25 rfl (by kernel_rfl) 172 rfl rfl rfl rfl ?_
                  refine wm_gno 26 rfl (by kernel_rfl) 172 rfl rfl rfl rfl ?_
                  refine wm_gno 27 rfl (by kernel_rfl) 172 rfl rfl rfl rfl ?_
                  refine wm_gy 28 rfl (by kernel_rfl) 168 rfl rfl (y_pickt rfl rfl) rfl ?_
                  refine wm_y 29 rfl (by kernel_rfl) (y_pickt rfl rfl) rfl ?_
                  refine wm_y 30 rfl (by kernel_rfl) (y_move rfl) rfl ?_
                  refine wm_gy 31 rfl (by kernel_rfl) 179 rfl rfl ((y_loadw rfl Try.underlying27 rfl (by rw [FX.size]; kernel_rfl) C9)) rfl ?_
                  refine wm_gy 34 rfl (by kernel_rfl) 179 rfl rfl ((y_loadw rfl Try.underlying27 rfl (by rw [FX.size]; kernel_rfl) C9)) rfl ?_
                  refine wm_one 32 (by kernel_rfl) ?_; refine om_gcall rfl 179 rfl rfl Try.func51 rfl rfl rfl (fbytes_any FX _) rfl ?_
                  rintro e wc9 ⟨gb, rfl, hgb, Bb, ex⟩
                  refine ⟨_, rfl, .inr ex, ?_⟩
                  replace E := E.ext ex
                  replace C9 := C9.ext ex
                  replace C10 := C10.ext ex
                  replace C11 := C11.ext ex
                  replace C12 := C12.ext ex
                  replace Bg14 := Bg14.ext ex
                  replace Bg15 := Bg15.ext ex
                  skip
                  refine wm_one 33 (by kernel_rfl) ?_; refine om_gcall rfl 179 rfl rfl Try.func19 rfl rfl rfl (Fof_any _ 32 32 _ _ (bs_blk' Bb (Fp.le_length 32 _))) rfl ?_
                  rintro e wd1 ⟨cd1, rfl, Fd1, ex⟩
                  refine ⟨_, rfl, .inr ex, ?_⟩
                  replace E := E.ext ex
                  replace C9 := C9.ext ex
                  replace C10 := C10.ext ex
                  replace C11 := C11.ext ex
                  replace C12 := C12.ext ex
                  replace Bg14 := Bg14.ext ex
                  replace Bg15 := Bg15.ext ex
                  rw [Fp.ofB_le x] at Fd1
                  refine wm_one 35 (by kernel_rfl) ?_; refine om_gcall rfl 179 rfl rfl Try.func33 rfl rfl rfl (Fsame_any Fd1 FX _) rfl ?_
                  rintro e wd2 ⟨rfl, ex⟩
                  refine ⟨_, rfl, .inr ex, ?_⟩
                  replace E := E.ext ex
                  replace C9 := C9.ext ex
                  replace C10 := C10.ext ex
                  replace C11 := C11.ext ex
                  replace C12 := C12.ext ex
                  replace Bg14 := Bg14.ext ex
                  replace Bg15 := Bg15.ext ex
                  rw [decide_eq_true rfl]
                  refine wm_y 36 rfl (by kernel_rfl) (y_pickt rfl rfl) rfl ?_
                  refine wm_y 37 rfl (by kernel_rfl) (y_assign rfl) rfl ?_
                  refine wm_done (by kernel_rfl) ?_
                  refine wq_nop ?_
                  refine wq_then_norm (hK35 ?_)
                  refine wc_ret ?_
                  refine hret rfl ?_
                  exact ⟨rfl, E⟩
                · skip
                  refine wm_gy 24 rfl (by kernel_rfl) 172 rfl rfl ((y_loadw rfl Try.underlying27 rfl (by rw [Fb2.size]; kernel_rfl) Bg15)) rfl ?_
                  refine wm_gy 25 rfl (by kernel_rfl) 172 rfl rfl ((y_loadw rfl Try.underlying27 rfl (by rw [FX.size]; kernel_rfl) C9)) rfl ?_
                  refine wm_one 26 (by kernel_rfl) ?_; refine om_gcall rfl 172 rfl rfl Try.func29 rfl rfl rfl (Fneg_any FX _) rfl ?_
                  rintro e wc7 ⟨cc7, rfl, Fc7, ex⟩
                  refine ⟨_, rfl, .inr ex, ?_⟩
                  replace E := E.ext ex
                  replace C9 := C9.ext ex
                  replace C10 := C10.ext ex
                  replace C11 := C11.ext ex
                  replace C12 := C12.ext ex
                  replace Bg14 := Bg14.ext ex
                  replace Bg15 := Bg15.ext ex
                  skip
                  refine wm_one 27 (by kernel_rfl) ?_; refine om_gcall rfl 172 rfl rfl Try.func33 rfl rfl rfl (Fsame_any Fb2 Fc7 _) rfl ?_
                  rintro e wc8 ⟨rfl, ex⟩
                  refine ⟨_, rfl, .inr ex, ?_⟩
                  replace E := E.ext ex
                  replace C9 := C9.ext ex
                  replace C10 := C10.ext ex
                  replace C11 := C11.ext ex
                  replace C12 := C12.ext ex
                  replace Bg14 := Bg14.ext ex
                  replace Bg15 := Bg15.ext ex
                  rw [decide_eq_true (hr2.resolve_left hrx)]
                  refine wm_gy 28 rfl (by kernel_rfl) 168 rfl rfl (y_pickf rfl rfl) rfl ?_
                  refine wm_y 29 rfl (by kernel_rfl) (y_pickt rfl rfl) rfl ?_
                  refine wm_y 30 rfl (by kernel_rfl) (y_move rfl) rfl ?_
                  refine wm_gy 31 rfl (by kernel_rfl) 179 rfl rfl ((y_loadw rfl Try.underlying27 rfl (by rw [FX.size]; kernel_rfl) C9)) rfl ?_
                  refine wm_gy 34 rfl (by kernel_rfl) 179 rfl rfl ((y_loadw rfl Try.underlying27 rfl (by rw [FX.size]; kernel_rfl) C9)) rfl ?_
                  refine wm_one 32 (by kernel_rfl) ?_; refine om_gcall rfl 179 rfl rfl Try.func51 rfl rfl rfl (fbytes_any FX _) rfl ?_
                  rintro e wc9 ⟨gb, rfl, hgb, Bb, ex⟩
                  refine ⟨_, rfl, .inr ex, ?_⟩
                  replace E := E.ext ex
                  replace C9 := C9.ext ex
                  replace C10 := C10.ext ex
                  replace C11 := C11.ext ex
                  replace C12 := C12.ext ex
                  replace Bg14 := Bg14.ext ex
                  replace Bg15 := Bg15.ext ex
                  skip
                  refine wm_one 33 (by kernel_rfl) ?_; refine om_gcall rfl 179 rfl rfl Try.func19 rfl rfl rfl (Fof_any _ 32 32 _ _ (bs_blk' Bb (Fp.le_length 32 _))) rfl ?_
                  rintro e wd1 ⟨cd1, rfl, Fd1, ex⟩
                  refine ⟨_, rfl, .inr ex, ?_⟩
                  replace E := E.ext ex
                  replace C9 := C9.ext ex
                  replace C10 := C10.ext ex
                  replace C11 := C11.ext ex
                  replace C12 := C12.ext ex
                  replace Bg14 := Bg14.ext ex
                  replace Bg15 := Bg15.ext ex
                  rw [Fp.ofB_le x] at Fd1
                  refine wm_one 35 (by kernel_rfl) ?_; refine om_gcall rfl 179 rfl rfl Try.func33 rfl rfl rfl (Fsame_any Fd1 FX _) rfl ?_
                  rintro e wd2 ⟨rfl, ex⟩
                  refine ⟨_, rfl, .inr ex, ?_⟩
                  replace E := E.ext ex
                  replace C9 := C9.ext ex
                  replace C10 := C10.ext ex
                  replace C11 := C11.ext ex
                  replace C12 := C12.ext ex
                  replace Bg14 := Bg14.ext ex
                  replace Bg15 := Bg15.ext ex
                  rw [decide_eq_true rfl]
                  refine wm_y 36 rfl (by kernel_rfl) (y_pickt rfl rfl) rfl ?_
                  refine wm_y 37 rfl (by kernel_rfl) (y_assign rfl) rfl ?_
                  refine wm_done (by kernel_rfl) ?_
                  refine wq_nop ?_
                  refine wq_then_norm (hK35 ?_)
                  refine wc_ret ?_
                  refine hret rfl ?_
                  exact ⟨rfl, E⟩
          · skip
            have E_g14 := E
            have C9_g14 := C9
            have C10_g14 := C10
            have C11_g14 := C11
            have C12_g14 := C12
            refine om_ef rfl (ef_alloc (Z := fe (fun _ => 0)) (by kernel_rfl)) rfl ?_
            rintro _ wn15_4 ⟨g14, rfl, Bg14, hg14, ex⟩
            have Xg14 := ex
            refine ⟨.inr ex, ?_⟩
            replace E := E.ext ex
            replace C9 := C9.ext ex
            replace C10 := C10.ext ex
            replace C11 := C11.ext ex
            replace C12 := C12.ext ex
            refine wm_one 2 (by kernel_rfl) ?_; refine om_call rfl Try.func45 rfl rfl rfl (Finv_any FX _) rfl ?_
            rintro e w47 ⟨c47, rfl, F47, ex⟩
            refine ⟨_, rfl, .inr ex, ?_⟩
            replace E := E.ext ex
            replace C9 := C9.ext ex
            replace C10 := C10.ext ex
            replace C11 := C11.ext ex
            replace C12 := C12.ext ex
            replace Bg14 := Bg14.ext ex
            replace Xg14 := Xg14.ext ex
            skip
            refine wm_one 3 (by kernel_rfl) ?_; refine om_call rfl Try.func30 rfl rfl rfl (Fmul_any FX F47 _) rfl ?_
            rintro e w48 ⟨c50, rfl, F50, ex⟩
            refine ⟨_, rfl, .inr ex, ?_⟩
            replace E := E.ext ex
            replace C9 := C9.ext ex
            replace C10 := C10.ext ex
            replace C11 := C11.ext ex
            replace C12 := C12.ext ex
            replace Bg14 := Bg14.ext ex
            replace Xg14 := Xg14.ext ex
            skip
            refine wm_one 5 (by kernel_rfl) ?_; refine om_ef rfl (ef_storeW rfl rfl (by rw [F50.size]; kernel_rfl) Bg14 (by rw [fe_size, F50.size]) F50.one) rfl ?_
            rintro _ wn15_5 ⟨rfl, Bg14, cg⟩
            replace Xg14 := Xg14.chg cg hg14
            refine ⟨.inl rfl, ?_⟩
            replace E := E_g14.ext Xg14
            replace C9 := C9_g14.ext Xg14
            replace C10 := C10_g14.ext Xg14
            replace C11 := C11_g14.ext Xg14
            replace C12 := C12_g14.ext Xg14
            refine wm_done (by kernel_rfl) ?_
            refine wq_nop ?_
            refine wq_then_norm (hK31 ?_)
            refine wc_seq ?_; intro K36 hK36
            refine wc_region ?_
            refine wl_y ((y_loadw rfl Try.underlying27 rfl (by rw [FX.size]; kernel_rfl) C9)) rfl ?_
            refine wl_call Try.func32 rfl rfl rfl (Fsquare_any FX _) rfl ?_
            rintro e wb1 ⟨cb1, rfl, Fb1, ex⟩
            refine ⟨_, rfl, ?_⟩
            replace E := E.ext ex
            replace C9 := C9.ext ex
            replace C10 := C10.ext ex
            replace C11 := C11.ext ex
            replace C12 := C12.ext ex
            replace Bg14 := Bg14.ext ex
            skip
            refine wl_call Try.func47 rfl rfl rfl (Froot_any Fb1 _) rfl ?_
            rintro e wb2 ⟨cb2, rfl, Fb2, ex⟩
            refine ⟨_, rfl, ?_⟩
            replace E := E.ext ex
            replace C9 := C9.ext ex
            replace C10 := C10.ext ex
            replace C11 := C11.ext ex
            replace C12 := C12.ext ex
            replace Bg14 := Bg14.ext ex
            have hsq : Fp.Sqr (x * x) := Fp.sqr_of rfl; rw [if_pos hsq] at Fb2; rw [decide_eq_true hsq]; have hr2 := Fp.roots_two (Fp.root_sq hsq)
            refine wl_y (y_move rfl) rfl ?_
            refine wl_y (y_extract rfl rfl) rfl ?_
            refine wl_y (y_extract rfl rfl) rfl ?_
            have E_g15 := E
            have C9_g15 := C9
            have C10_g15 := C10
            have C11_g15 := C11
            have C12_g15 := C12
            have Bg14_g15 := Bg14
            refine wl_ef (ef_alloc (Z := fe (fun _ => 0)) (by kernel_rfl)) rfl ?_
            rintro _ wn16_6 ⟨g15, rfl, Bg15, hg15, ex⟩
            have Xg15 := ex
            replace E := E.ext ex
            replace C9 := C9.ext ex
            replace C10 := C10.ext ex
            replace C11 := C11.ext ex
            replace C12 := C12.ext ex
            replace Bg14 := Bg14.ext ex
            refine wl_ef (ef_storeW rfl rfl (by rw [Fb2.size]; kernel_rfl) Bg15 (by rw [fe_size, Fb2.size]) Fb2.one) rfl ?_
            rintro _ wn16_7 ⟨rfl, Bg15, cg⟩
            replace Xg15 := Xg15.chg cg hg15
            replace E := E_g15.ext Xg15
            replace C9 := C9_g15.ext Xg15
            replace C10 := C10_g15.ext Xg15
            replace C11 := C11_g15.ext Xg15
            replace C12 := C12_g15.ext Xg15
            replace Bg14 := Bg14_g15.ext Xg15
            refine wl_y (y_assign rfl) rfl ?_
            refine wl_nil ?_
            refine wq_then_norm (hK36 ?_)
            refine wc_seq ?_; intro K37 hK37
            refine wc_draw (by kernel_rfl) 38 rfl ?_; intro wd17 ex hd17
            replace E := E.ext ex
            replace C9 := C9.ext ex
            replace C10 := C10.ext ex
            replace C11 := C11.ext ex
            replace C12 := C12.ext ex
            replace Bg14 := Bg14.ext ex
            replace Bg15 := Bg15.ext ex
            refine wm_y 0 rfl (by kernel_rfl) ((y_loadw rfl Try.underlying27 rfl (by rw [FX.size]; kernel_rfl) C9)) rfl ?_
            refine wm_one 1 (by kernel_rfl) ?_; refine om_call rfl Try.func35 rfl rfl rfl (Fzero_any FX _) rfl ?_
            rintro e wc1 ⟨rfl, ex⟩
            refine ⟨_, rfl, .inr ex, ?_⟩
            replace E := E.ext ex
            replace C9 := C9.ext ex
            replace C10 := C10.ext ex
            replace C11 := C11.ext ex
            replace C12 := C12.ext ex
            replace Bg14 := Bg14.ext ex
            replace Bg15 := Bg15.ext ex
            skip
            refine wm_yask 2 rfl (by kernel_rfl) (y_move rfl) rfl (fun hx0 => ?_) (fun hx0 => ?_)
            · skip
              refine wm_gy 3 rfl (by kernel_rfl) 151 rfl rfl ((y_loadw rfl Try.underlying27 rfl (by rw [F50.size]; kernel_rfl) Bg14)) rfl ?_
              refine wm_one 4 (by kernel_rfl) ?_; refine om_gcall rfl 151 rfl rfl Try.func35 rfl rfl rfl (Fzero_any F50 _) rfl ?_
              rintro e wc2 ⟨rfl, ex⟩
              refine ⟨_, rfl, .inr ex, ?_⟩
              replace E := E.ext ex
              replace C9 := C9.ext ex
              replace C10 := C10.ext ex
              replace C11 := C11.ext ex
              replace C12 := C12.ext ex
              replace Bg14 := Bg14.ext ex
              replace Bg15 := Bg15.ext ex
              rw [decide_eq_true (by rw [hx0]; grind)]
              refine wm_y 5 rfl (by kernel_rfl) (y_pickt rfl rfl) rfl ?_
              refine wm_y 6 rfl (by kernel_rfl) (y_move rfl) rfl ?_
              refine wm_gno 7 rfl (by kernel_rfl) 155 rfl rfl rfl rfl ?_
              refine wm_gno 8 rfl (by kernel_rfl) 155 rfl rfl rfl rfl ?_
              refine wm_gno 9 rfl (by kernel_rfl) 155 rfl rfl rfl rfl ?_
              refine wm_gno 10 rfl (by kernel_rfl) 155 rfl rfl rfl rfl ?_
              refine wm_gun 11 rfl (by kernel_rfl) 159 rfl rfl rfl ?_
              refine wm_gun 12 rfl (by kernel_rfl) 159 rfl rfl rfl ?_
              refine wm_gun 13 rfl (by kernel_rfl) 159 rfl rfl rfl ?_
              refine wm_gno 14 rfl (by kernel_rfl) 155 rfl rfl rfl rfl ?_
              refine wm_y 15 rfl (by kernel_rfl) (y_pickt rfl rfl) rfl ?_
              refine wm_y 16 rfl (by kernel_rfl) (y_move rfl) rfl ?_
              refine wm_gy 17 rfl (by kernel_rfl) 165 rfl rfl (y_move rfl) rfl ?_
              refine wm_y 18 rfl (by kernel_rfl) (y_pickt rfl rfl) rfl ?_
              refine wm_y 19 rfl (by kernel_rfl) (y_move rfl) rfl ?_
              refine wm_gy 20 rfl (by kernel_rfl) 168 rfl rfl ((y_loadw rfl Try.underlying27 rfl (by rw [Fb2.size]; kernel_rfl) Bg15)) rfl ?_
              refine wm_gy 21 rfl (by kernel_rfl) 168 rfl rfl ((y_loadw rfl Try.underlying27 rfl (by rw [FX.size]; kernel_rfl) C9)) rfl ?_
              refine wm_one 22 (by kernel_rfl) ?_; refine om_gcall rfl 168 rfl rfl Try.func33 rfl rfl rfl (Fsame_any Fb2 FX _) rfl ?_
              rintro e wc6 ⟨rfl, ex⟩
              refine ⟨_, rfl, .inr ex, ?_⟩
              replace E := E.ext ex
              replace C9 := C9.ext ex
              replace C10 := C10.ext ex
              replace C11 := C11.ext ex
              replace C12 := C12.ext ex
              replace Bg14 := Bg14.ext ex
              replace Bg15 := Bg15.ext ex
              skip
              refine wm_gyask 23 rfl (by kernel_rfl) 168 rfl rfl (y_move rfl) rfl (fun hrx => ?_) (fun hrx => ?_)
              · skip
                refine wm_gno 24 rfl (by kernel_rfl) 172 rfl rfl rfl rfl ?_
                refine wm_gno 25 rfl (by kernel_rfl) 172 rfl rfl rfl rfl ?_
                refine wm_gno 26 rfl (by kernel_rfl) 172 rfl rfl rfl rfl ?_
                refine wm_gno 27 rfl (by kernel_rfl) 172 rfl rfl rfl rfl ?_
                refine wm_gy 28 rfl (by kernel_rfl) 168 rfl rfl (y_pickt rfl rfl) rfl ?_
                refine wm_y 29 rfl (by kernel_rfl) (y_pickt rfl rfl) rfl ?_
                refine wm_y 30 rfl (by kernel_rfl) (y_move rfl) rfl ?_
                refine wm_gy 31 rfl (by kernel_rfl) 179 rfl rfl ((y_loadw rfl Try.underlying27 rfl (by rw [FX.size]; kernel_rfl) C9)) rfl ?_
                refine wm_gy 34 rfl (by kernel_rfl) 179 rfl rfl ((y_loadw rfl Try.underlying27 rfl (by rw [FX.size]; kernel_rfl) C9)) rfl ?_
                refine wm_one 32 (by kernel_rfl) ?_; refine om_gcall rfl 179 rfl rfl Try.func51 rfl rfl rfl (fbytes_any FX _) rfl ?_
                rintro e wc9 ⟨gb, rfl, hgb, Bb, ex⟩
                refine ⟨_, rfl, .inr ex, ?_⟩
                replace E := E.ext ex
                replace C9 := C9.ext ex
                replace C10 := C10.ext ex
                replace C11 := C11.ext ex
                replace C12 := C12.ext ex
                replace Bg14 := Bg14.ext ex
                replace Bg15 := Bg15.ext ex
                skip
                refine wm_one 33 (by kernel_rfl) ?_; refine om_gcall rfl 179 rfl rfl Try.func19 rfl rfl rfl (Fof_any _ 32 32 _ _ (bs_blk' Bb (Fp.le_length 32 _))) rfl ?_
                rintro e wd1 ⟨cd1, rfl, Fd1, ex⟩
                refine ⟨_, rfl, .inr ex, ?_⟩
                replace E := E.ext ex
                replace C9 := C9.ext ex
                replace C10 := C10.ext ex
                replace C11 := C11.ext ex
                replace C12 := C12.ext ex
                replace Bg14 := Bg14.ext ex
                replace Bg15 := Bg15.ext ex
                rw [Fp.ofB_le x] at Fd1
                refine wm_one 35 (by kernel_rfl) ?_; refine om_gcall rfl 179 rfl rfl Try.func33 rfl rfl rfl (Fsame_any Fd1 FX _) rfl ?_
                rintro e wd2 ⟨rfl, ex⟩
                refine ⟨_, rfl, .inr ex, ?_⟩
                replace E := E.ext ex
                replace C9 := C9.ext ex
                replace C10 := C10.ext ex
                replace C11 := C11.ext ex
                replace C12 := C12.ext ex
                replace Bg14 := Bg14.ext ex
                replace Bg15 := Bg15.ext ex
                rw [decide_eq_true rfl]
                refine wm_y 36 rfl (by kernel_rfl) (y_pickt rfl rfl) rfl ?_
                refine wm_y 37 rfl (by kernel_rfl) (y_assign rfl) rfl ?_
                refine wm_done (by kernel_rfl) ?_
                refine wq_nop ?_
                refine wq_then_norm (hK37 ?_)
                refine wc_ret ?_
                refine hret rfl ?_
                exact ⟨rfl, E⟩
              · skip
                refine wm_gy 24 rfl (by kernel_rfl) 172 rfl rfl ((y_loadw rfl Try.underlying27 rfl (by rw [Fb2.size]; kernel_rfl) Bg15)) rfl ?_
                refine wm_gy 25 rfl (by kernel_rfl) 172 rfl rfl ((y_loadw rfl Try.underlying27 rfl (by rw [FX.size]; kernel_rfl) C9)) rfl ?_
                refine wm_one 26 (by kernel_rfl) ?_; refine om_gcall rfl 172 rfl rfl Try.func29 rfl rfl rfl (Fneg_any FX _) rfl ?_
                rintro e wc7 ⟨cc7, rfl, Fc7, ex⟩
                refine ⟨_, rfl, .inr ex, ?_⟩
                replace E := E.ext ex
                replace C9 := C9.ext ex
                replace C10 := C10.ext ex
                replace C11 := C11.ext ex
                replace C12 := C12.ext ex
                replace Bg14 := Bg14.ext ex
                replace Bg15 := Bg15.ext ex
                skip
                refine wm_one 27 (by kernel_rfl) ?_; refine om_gcall rfl 172 rfl rfl Try.func33 rfl rfl rfl (Fsame_any Fb2 Fc7 _) rfl ?_
                rintro e wc8 ⟨rfl, ex⟩
                refine ⟨_, rfl, .inr ex, ?_⟩
                replace E := E.ext ex
                replace C9 := C9.ext ex
                replace C10 := C10.ext ex
                replace C11 := C11.ext ex
                replace C12 := C12.ext ex
                replace Bg14 := Bg14.ext ex
                replace Bg15 := Bg15.ext ex
                rw [decide_eq_true (hr2.resolve_left hrx)]
                refine wm_gy 28 rfl (by kernel_rfl) 168 rfl rfl (y_pickf rfl rfl) rfl ?_
                refine wm_y 29 rfl (by kernel_rfl) (y_pickt rfl rfl) rfl ?_
                refine wm_y 30 rfl (by kernel_rfl) (y_move rfl) rfl ?_
                refine wm_gy 31 rfl (by kernel_rfl) 179 rfl rfl ((y_loadw rfl Try.underlying27 rfl (by rw [FX.size]; kernel_rfl) C9)) rfl ?_
                refine wm_gy 34 rfl (by kernel_rfl) 179 rfl rfl ((y_loadw rfl Try.underlying27 rfl (by rw [FX.size]; kernel_rfl) C9)) rfl ?_
                refine wm_one 32 (by kernel_rfl) ?_; refine om_gcall rfl 179 rfl rfl Try.func51 rfl rfl rfl (fbytes_any FX _) rfl ?_
                rintro e wc9 ⟨gb, rfl, hgb, Bb, ex⟩
                refine ⟨_, rfl, .inr ex, ?_⟩
                replace E := E.ext ex
                replace C9 := C9.ext ex
                replace C10 := C10.ext ex
                replace C11 := C11.ext ex
                replace C12 := C12.ext ex
                replace Bg14 := Bg14.ext ex
                replace Bg15 := Bg15.ext ex
                skip
                refine wm_one 33 (by kernel_rfl) ?_; refine om_gcall rfl 179 rfl rfl Try.func19 rfl rfl rfl (Fof_any _ 32 32 _ _ (bs_blk' Bb (Fp.le_length 32 _))) rfl ?_
                rintro e wd1 ⟨cd1, rfl, Fd1, ex⟩
                refine ⟨_, rfl, .inr ex, ?_⟩
                replace E := E.ext ex
                replace C9 := C9.ext ex
                replace C10 := C10.ext ex
                replace C11 := C11.ext ex
                replace C12 := C12.ext ex
                replace Bg14 := Bg14.ext ex
                replace Bg15 := Bg15.ext ex
                rw [Fp.ofB_le x] at Fd1
                refine wm_one 35 (by kernel_rfl) ?_; refine om_gcall rfl 179 rfl rfl Try.func33 rfl rfl rfl (Fsame_any Fd1 FX _) rfl ?_
                rintro e wd2 ⟨rfl, ex⟩
                refine ⟨_, rfl, .inr ex, ?_⟩
                replace E := E.ext ex
                replace C9 := C9.ext ex
                replace C10 := C10.ext ex
                replace C11 := C11.ext ex
                replace C12 := C12.ext ex
                replace Bg14 := Bg14.ext ex
                replace Bg15 := Bg15.ext ex
                rw [decide_eq_true rfl]
                refine wm_y 36 rfl (by kernel_rfl) (y_pickt rfl rfl) rfl ?_
                refine wm_y 37 rfl (by kernel_rfl) (y_assign rfl) rfl ?_
                refine wm_done (by kernel_rfl) ?_
                refine wq_nop ?_
                refine wq_then_norm (hK37 ?_)
                refine wc_ret ?_
                refine hret rfl ?_
                exact ⟨rfl, E⟩
            · skip
              refine wm_gno 3 rfl (by kernel_rfl) 151 rfl rfl rfl rfl ?_
              refine wm_gno 4 rfl (by kernel_rfl) 151 rfl rfl rfl rfl ?_
              refine wm_y 5 rfl (by kernel_rfl) (y_pickf rfl rfl) rfl ?_
              refine wm_y 6 rfl (by kernel_rfl) (y_move rfl) rfl ?_
              refine wm_gy 7 rfl (by kernel_rfl) 155 rfl rfl ((y_loadw rfl Try.underlying27 rfl (by rw [FX.size]; kernel_rfl) C9)) rfl ?_
              refine wm_one 8 (by kernel_rfl) ?_; refine om_gcall rfl 155 rfl rfl Try.func35 rfl rfl rfl (Fzero_any FX _) rfl ?_
              rintro e wc3 ⟨rfl, ex⟩
              refine ⟨_, rfl, .inr ex, ?_⟩
              replace E := E.ext ex
              replace C9 := C9.ext ex
              replace C10 := C10.ext ex
              replace C11 := C11.ext ex
              replace C12 := C12.ext ex
              replace Bg14 := Bg14.ext ex
              replace Bg15 := Bg15.ext ex
              rw [decide_eq_false hx0]
              refine wm_gy 9 rfl (by kernel_rfl) 155 rfl rfl (y_not rfl) rfl ?_
              refine wm_gy 10 rfl (by kernel_rfl) 155 rfl rfl (y_move rfl) rfl ?_
              refine wm_gy 11 rfl (by kernel_rfl) 159 rfl rfl ((y_loadw rfl Try.underlying27 rfl (by rw [F50.size]; kernel_rfl) Bg14)) rfl ?_
              refine wm_one 12 (by kernel_rfl) ?_; refine om_gcall rfl 159 rfl rfl Try.func23 rfl rfl rfl (Fnum_any 1 _ (by omega)) rfl ?_
              rintro e wc4 ⟨cc4, rfl, Fc4, ex⟩
              refine ⟨_, rfl, .inr ex, ?_⟩
              replace E := E.ext ex
              replace C9 := C9.ext ex
              replace C10 := C10.ext ex
              replace C11 := C11.ext ex
              replace C12 := C12.ext ex
              replace Bg14 := Bg14.ext ex
              replace Bg15 := Bg15.ext ex
              skip
              refine wm_one 13 (by kernel_rfl) ?_; refine om_gcall rfl 159 rfl rfl Try.func33 rfl rfl rfl (Fsame_any F50 Fc4 _) rfl ?_
              rintro e wc5 ⟨rfl, ex⟩
              refine ⟨_, rfl, .inr ex, ?_⟩
              replace E := E.ext ex
              replace C9 := C9.ext ex
              replace C10 := C10.ext ex
              replace C11 := C11.ext ex
              replace C12 := C12.ext ex
              replace Bg14 := Bg14.ext ex
              replace Bg15 := Bg15.ext ex
              rw [decide_eq_true (show _ = Fp.of 1 from Fp.mul_inv hx0)]
              refine wm_gy 14 rfl (by kernel_rfl) 155 rfl rfl (y_pickt rfl rfl) rfl ?_
              refine wm_y 15 rfl (by kernel_rfl) (y_pickf rfl rfl) rfl ?_
              refine wm_y 16 rfl (by kernel_rfl) (y_move rfl) rfl ?_
              refine wm_gy 17 rfl (by kernel_rfl) 165 rfl rfl (y_move rfl) rfl ?_
              refine wm_y 18 rfl (by kernel_rfl) (y_pickt rfl rfl) rfl ?_
              refine wm_y 19 rfl (by kernel_rfl) (y_move rfl) rfl ?_
              refine wm_gy 20 rfl (by kernel_rfl) 168 rfl rfl ((y_loadw rfl Try.underlying27 rfl (by rw [Fb2.size]; kernel_rfl) Bg15)) rfl ?_
              refine wm_gy 21 rfl (by kernel_rfl) 168 rfl rfl ((y_loadw rfl Try.underlying27 rfl (by rw [FX.size]; kernel_rfl) C9)) rfl ?_
              refine wm_one 22 (by kernel_rfl) ?_; refine om_gcall rfl 168 rfl rfl Try.func33 rfl rfl rfl (Fsame_any Fb2 FX _) rfl ?_
              rintro e wc6 ⟨rfl, ex⟩
              refine ⟨_, rfl, .inr ex, ?_⟩
              replace E := E.ext ex
              replace C9 := C9.ext ex
              replace C10 := C10.ext ex
              replace C11 := C11.ext ex
              replace C12 := C12.ext ex
              replace Bg14 := Bg14.ext ex
              replace Bg15 := Bg15.ext ex
              skip
              refine wm_gyask 23 rfl (by kernel_rfl) 168 rfl rfl (y_move rfl) rfl (fun hrx => ?_) (fun hrx => ?_)
              · skip
                refine wm_gno 24 rfl (by kernel_rfl) 172 rfl rfl rfl rfl ?_
                refine wm_gno 25 rfl (by kernel_rfl) 172 rfl rfl rfl rfl ?_
                refine wm_gno 26 rfl (by kernel_rfl) 172 rfl rfl rfl rfl ?_
                refine wm_gno 27 rfl (by kernel_rfl) 172 rfl rfl rfl rfl ?_
                refine wm_gy 28 rfl (by kernel_rfl) 168 rfl rfl (y_pickt rfl rfl) rfl ?_
                refine wm_y 29 rfl (by kernel_rfl) (y_pickt rfl rfl) rfl ?_
                refine wm_y 30 rfl (by kernel_rfl) (y_move rfl) rfl ?_
                refine wm_gy 31 rfl (by kernel_rfl) 179 rfl rfl ((y_loadw rfl Try.underlying27 rfl (by rw [FX.size]; kernel_rfl) C9)) rfl ?_
                refine wm_gy 34 rfl (by kernel_rfl) 179 rfl rfl ((y_loadw rfl Try.underlying27 rfl (by rw [FX.size]; kernel_rfl) C9)) rfl ?_
                refine wm_one 32 (by kernel_rfl) ?_; refine om_gcall rfl 179 rfl rfl Try.func51 rfl rfl rfl (fbytes_any FX _) rfl ?_
                rintro e wc9 ⟨gb, rfl, hgb, Bb, ex⟩
                refine ⟨_, rfl, .inr ex, ?_⟩
                replace E := E.ext ex
                replace C9 := C9.ext ex
                replace C10 := C10.ext ex
                replace C11 := C11.ext ex
                replace C12 := C12.ext ex
                replace Bg14 := Bg14.ext ex
                replace Bg15 := Bg15.ext ex
                skip
                refine wm_one 33 (by kernel_rfl) ?_; refine om_gcall rfl 179 rfl rfl Try.func19 rfl rfl rfl (Fof_any _ 32 32 _ _ (bs_blk' Bb (Fp.le_length 32 _))) rfl ?_
                rintro e wd1 ⟨cd1, rfl, Fd1, ex⟩
                refine ⟨_, rfl, .inr ex, ?_⟩
                replace E := E.ext ex
                replace C9 := C9.ext ex
                replace C10 := C10.ext ex
                replace C11 := C11.ext ex
                replace C12 := C12.ext ex
                replace Bg14 := Bg14.ext ex
                replace Bg15 := Bg15.ext ex
                rw [Fp.ofB_le x] at Fd1
                refine wm_one 35 (by kernel_rfl) ?_; refine om_gcall rfl 179 rfl rfl Try.func33 rfl rfl rfl (Fsame_any Fd1 FX _) rfl ?_
                rintro e wd2 ⟨rfl, ex⟩
                refine ⟨_, rfl, .inr ex, ?_⟩
                replace E := E.ext ex
                replace C9 := C9.ext ex
                replace C10 := C10.ext ex
                replace C11 := C11.ext ex
                replace C12 := C12.ext ex
                replace Bg14 := Bg14.ext ex
                replace Bg15 := Bg15.ext ex
                rw [decide_eq_true rfl]
                refine wm_y 36 rfl (by kernel_rfl) (y_pickt rfl rfl) rfl ?_
                refine wm_y 37 rfl (by kernel_rfl) (y_assign rfl) rfl ?_
                refine wm_done (by kernel_rfl) ?_
                refine wq_nop ?_
                refine wq_then_norm (hK37 ?_)
                refine wc_ret ?_
                refine hret rfl ?_
                exact ⟨rfl, E⟩
              · skip
                refine wm_gy 24 rfl (by kernel_rfl) 172 rfl rfl ((y_loadw rfl Try.underlying27 rfl (by rw [Fb2.size]; kernel_rfl) Bg15)) rfl ?_
                refine wm_gy 25 rfl (by kernel_rfl) 172 rfl rfl ((y_loadw rfl Try.underlying27 rfl (by rw [FX.size]; kernel_rfl) C9)) rfl ?_
                refine wm_one 26 (by kernel_rfl) ?_; refine om_gcall rfl 172 rfl rfl Try.func29 rfl rfl rfl (Fneg_any FX _) rfl ?_
                rintro e wc7 ⟨cc7, rfl, Fc7, ex⟩
                refine ⟨_, rfl, .inr ex, ?_⟩
                replace E := E.ext ex
                replace C9 := C9.ext ex
                replace C10 := C10.ext ex
                replace C11 := C11.ext ex
                replace C12 := C12.ext ex
                replace Bg14 := Bg14.ext ex
                replace Bg15 := Bg15.ext ex
                skip
                refine wm_one 27 (by kernel_rfl) ?_; refine om_gcall rfl 172 rfl rfl Try.func33 rfl rfl rfl (Fsame_any Fb2 Fc7 _) rfl ?_
                rintro e wc8 ⟨rfl, ex⟩
                refine ⟨_, rfl, .inr ex, ?_⟩
                replace E := E.ext ex
                replace C9 := C9.ext ex
                replace C10 := C10.ext ex
                replace C11 := C11.ext ex
                replace C12 := C12.ext ex
                replace Bg14 := Bg14.ext ex
                replace Bg15 := Bg15.ext ex
                rw [decide_eq_true (hr2.resolve_left hrx)]
                refine wm_gy 28 rfl (by kernel_rfl) 168 rfl rfl (y_pickf rfl rfl) rfl ?_
                refine wm_y 29 rfl (by kernel_rfl) (y_pickt rfl rfl) rfl ?_
                refine wm_y 30 rfl (by kernel_rfl) (y_move rfl) rfl ?_
                refine wm_gy 31 rfl (by kernel_rfl) 179 rfl rfl ((y_loadw rfl Try.underlying27 rfl (by rw [FX.size]; kernel_rfl) C9)) rfl ?_
                refine wm_gy 34 rfl (by kernel_rfl) 179 rfl rfl ((y_loadw rfl Try.underlying27 rfl (by rw [FX.size]; kernel_rfl) C9)) rfl ?_
                refine wm_one 32 (by kernel_rfl) ?_; refine om_gcall rfl 179 rfl rfl Try.func51 rfl rfl rfl (fbytes_any FX _) rfl ?_
                rintro e wc9 ⟨gb, rfl, hgb, Bb, ex⟩
                refine ⟨_, rfl, .inr ex, ?_⟩
                replace E := E.ext ex
                replace C9 := C9.ext ex
                replace C10 := C10.ext ex
                replace C11 := C11.ext ex
                replace C12 := C12.ext ex
                replace Bg14 := Bg14.ext ex
                replace Bg15 := Bg15.ext ex
                skip
                refine wm_one 33 (by kernel_rfl) ?_; refine om_gcall rfl 179 rfl rfl Try.func19 rfl rfl rfl (Fof_any _ 32 32 _ _ (bs_blk' Bb (Fp.le_length 32 _))) rfl ?_
                rintro e wd1 ⟨cd1, rfl, Fd1, ex⟩
                refine ⟨_, rfl, .inr ex, ?_⟩
                replace E := E.ext ex
                replace C9 := C9.ext ex
                replace C10 := C10.ext ex
                replace C11 := C11.ext ex
                replace C12 := C12.ext ex
                replace Bg14 := Bg14.ext ex
                replace Bg15 := Bg15.ext ex
                rw [Fp.ofB_le x] at Fd1
                refine wm_one 35 (by kernel_rfl) ?_; refine om_gcall rfl 179 rfl rfl Try.func33 rfl rfl rfl (Fsame_any Fd1 FX _) rfl ?_
                rintro e wd2 ⟨rfl, ex⟩
                refine ⟨_, rfl, .inr ex, ?_⟩
                replace E := E.ext ex
                replace C9 := C9.ext ex
                replace C10 := C10.ext ex
                replace C11 := C11.ext ex
                replace C12 := C12.ext ex
                replace Bg14 := Bg14.ext ex
                replace Bg15 := Bg15.ext ex
                rw [decide_eq_true rfl]
                refine wm_y 36 rfl (by kernel_rfl) (y_pickt rfl rfl) rfl ?_
                refine wm_y 37 rfl (by kernel_rfl) (y_assign rfl) rfl ?_
                refine wm_done (by kernel_rfl) ?_
                refine wq_nop ?_
                refine wq_then_norm (hK37 ?_)
                refine wc_ret ?_
                refine hret rfl ?_
                exact ⟨rfl, E⟩
end Go.Proofs.Ytilfjbgjcnijcaa
