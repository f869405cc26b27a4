/- gcm.masked. No conditions: contracts of functions. -/
import Derived.Test.YtjllhimhiekchaaGmD
namespace Go.Proofs.Ytjllhimhiekchaa
open Go.RowKit
attribute [local irreducible] Y Ef WL WC WK WQ WM OpM WN WF OpN WJ OpJ WR WLr
open Ae Gm
set_option maxHeartbeats 2000000 in
theorem gmasked_any {A B C : Option Addr} {n c d e : Nat} {key nn t : List UInt8} (w : World) (HA : Bs w A 16 key) (HB : Bs w B 12 nn) (HC : Bs w C n t) (hn : n ≤ 100000) :
    Calls Try.prog 42 #[.slice A 16 c, .slice B 12 d, .slice C n e] w fun e w' => ∃ A' c', e = .returned (.slice A' n c') ∧ Row w' w.heap.size 5 A' n c' ((mkd key nn t).map bv) ∧ Ext w w' := by
  have E := Ext.refl w
  have htl := HC.1
  have hnl := HB.1
  refine vc_enterM1 (3) 40 Try.func42 rfl rfl rfl rfl ?_
  intro Q hret0 hretD
  refine wc_seq ?_; intro K1 hK1
  refine wc_region ?_
  refine wl_ef (ef_box rfl rfl) rfl ?_
  rintro _ wB3 ⟨gB3, rfl, B3, hgB3, ex⟩
  have lB3 := B3.lt; have zB3 := ex.size
  replace E := E.ext ex
  refine wl_ef (ef_box rfl rfl) rfl ?_
  rintro _ wB4 ⟨gB4, rfl, B4, hgB4, ex⟩
  have lB4 := B4.lt; have zB4 := ex.size
  replace E := E.ext ex
  replace B3 := B3.ext ex
  refine wl_y (y_assign rfl) rfl ?_
  refine wl_nil ?_
  refine wq_then_norm (hK1 ?_)
  refine wc_seq ?_; intro K2 hK2
  refine wc_region ?_
  refine wl_y (y_move rfl) rfl ?_
  refine wl_call Try.func65 rfl rfl rfl (clone_any C n e t _ (HC.wk E) (by omega)) rfl ?_
  rintro e w2 ⟨A7, c7, rfl, O7, ex⟩
  refine ⟨_, rfl, ?_⟩
  replace E := E.ext ex
  replace B3 := B3.ext ex
  replace B4 := B4.ext ex
  have R7 : Row w2 wB4.heap.size 5 A7 n c7 (t.map bv) := O7; have hz7 := E.size
  refine wl_y (y_assign rfl) rfl ?_
  refine wl_nil ?_
  refine wq_then_norm (hK2 ?_)
  refine wc_seq ?_; intro K3 hK3
  refine wc_region ?_
  refine wl_ef (ef_alloc (Z := #[.int .u32 0]) (by kernel_rfl)) rfl ?_
  rintro _ wA8 ⟨gB8, rfl, D8, hgB8, exA⟩
  refine wl_ef (ef_storeB (i := 0) rfl rfl rfl (by kernel_rfl) D8 (Nat.le_of_ble_eq_true rfl)) rfl ?_
  rintro _ wB8 ⟨rfl, B8, cg⟩
  have ex := exA.chg cg hgB8; clear cg exA D8
  have lB8 := B8.lt; have zB8 := ex.size
  replace E := E.ext ex
  replace B3 := B3.ext ex
  replace B4 := B4.ext ex
  replace R7 := R7.ext ex
  refine wl_nil ?_
  refine wq_then_norm (hK3 ?_)
  refine wc_seq ?_; intro K4 hK4
  refine wc_seq ?_; intro K5 hK5
  refine wc_region ?_
  refine wl_y (y_move rfl) rfl ?_
  obtain ⟨g7, hA7, hg7⟩ : ∃ g7, (0 < n → A7 = some ⟨g7, 0, none⟩) ∧ (0 < n → wB4.heap.size ≤ g7 ∧ g7 < gB8) := by
    rcases Nat.eq_zero_or_pos n with h | h
    · exact ⟨0, fun h' => by omega, fun h' => by omega⟩
    · obtain ⟨g, v, h1, _⟩ := R7.get (i := 0) h
      refine ⟨g, fun _ => h1, fun _ => ?_⟩
      subst h1
      exact ⟨R7.lt.1, Nat.lt_of_lt_of_le (Row.lt O7).2 hgB8⟩
  refine wl_call Try.func60 rfl rfl rfl (chunkW_any 16 n c7 A7 _ (by omega)) rfl ?_
  rintro e w6 ⟨b1, b2, rfl, hb1, hb2, C1, C2, ex⟩
  refine ⟨_, rfl, ?_⟩
  replace E := E.ext ex
  replace B3 := B3.ext ex
  replace B4 := B4.ext ex
  replace R7 := R7.ext ex
  replace B8 := B8.ext ex
  obtain ⟨M, hM⟩ : ∃ M, M = (n + 15) / 16 := ⟨_, rfl⟩; have hq1 := C1.lt; have hq2 := C2.lt
  refine wl_nil ?_
  refine wq_then_norm (hK5 ?_)
  refine wc_block ?_
  refine wc_rangeI (n := 3) (S := fun xs => xs = List.finRange M) (by omega) rfl (enters Try.func80 rfl rfl) (chunk_stopsW 2 g7 0 c7 16 n M b1 b2 A7 _ (by omega) hA7 R7.cap (by omega) (by omega) (by intro j hj; omega) C1 C2) KpB.trans (fun W l o o' hl ho _ _ => kpb_put W l o o' (by omega) (by omega) ho) (fun pre W => Row W wB4.heap.size 5 A7 n c7 ((mkL key nn n (t, 1) (pre.map (·.val))).1.map bv) ∧ Blk W gB8 85 #[.int .u32 ((1 + pre.length : Nat) : Int)] ∧ Blk W gB3 22 #[.slice A 16 c] ∧ Blk W gB4 22 #[.slice B 12 d] ∧ Below w.heap.size w W ∧ w6.heap.size ≤ W.heap.size) (OwnFrom.and own_row (OwnFrom.and own_blk (OwnFrom.and own_blk (OwnFrom.and own_blk (OwnFrom.and (ownFrom_below (Nat.le_refl _) (by omega)) own_size))))) ⟨R7, B8, B3, B4, E, Nat.le_refl _⟩ rfl rfl ?_ ?_
  · intro kR Q2 pre v W2 ⟨R, B8, B3, B4, E, hz⟩ hl hout
    have hv := v.isLt
    obtain ⟨j, hj⟩ : ∃ j, j = v.val := ⟨_, rfl⟩
    obtain ⟨e1, he1⟩ : ∃ e1, e1 = min 16 (n - 16 * j) := ⟨_, rfl⟩
    have hjn : 16 * j < n := by omega
    obtain ⟨hg71, hg72⟩ := hg7 (by omega)
    obtain rfl := hA7 (by omega)
    obtain ⟨V, hV⟩ : ∃ V, V = (mkL key nn n (t, 1) (pre.map (·.val))).1 := ⟨_, rfl⟩
    have hVl : V.length = n := by rw [hV, (mkL_len _ _ _ _ _).1]; exact htl
    have hV2 : (mkL key nn n (t, 1) (pre.map (·.val))).2 = 1 + pre.length := by rw [(mkL_len _ _ _ _ _).2, List.length_map]
    rw [← hV] at R
    have hpw : pieceW g7 0 16 n v.val = .slice (some ⟨g7, 0 + 16 * j, none⟩) e1 e1 := by unfold pieceW; rw [he1, hj]
    rw [hpw]
    have Cw := Chs.refl [g7, gB8] W2
    refine wr_seq ?_; intro K6 hK6
    refine wr_region ?_
    refine wl_y (y_load1 rfl Try.underlying85 rfl (B8.get (i := 0) rfl)) rfl ?_
    refine wl_y (y_add rfl rfl (IntWalk.u32_in _ ⟨by omega, by omega⟩)) rfl ?_
    refine wl_ef (ef_storeB (i := 0) rfl rfl rfl (by kernel_rfl) B8 (Nat.le_of_ble_eq_true rfl)) rfl ?_
    rintro _ w5 ⟨rfl, D8, cg⟩
    replace R := R.chg cg (by intro b off e; injection e with e; injection e; omega); replace B3 := B3.chg cg (by omega); replace B4 := B4.chg cg (by omega); replace E := E.chg cg (by omega); replace B8 := D8.congr (cs' := #[.int .u32 ((2 + pre.length : Nat) : Int)]) (by show #[Value.int .u32 (((1 + pre.length : Nat) : Int) + 1)] = #[Value.int .u32 ((2 + pre.length : Nat) : Int)]; rw [show (((1 + pre.length : Nat) : Int) + 1) = ((2 + pre.length : Nat) : Int) by omega]); replace Cw := Cw.chs (Chs.one cg); have hz5 := cg.size
    refine wl_nil ?_
    refine wq_then_norm (hK6 ?_)
    refine wr_seq ?_; intro K7 hK7
    refine wr_region ?_
    refine wl_y (y_load1 rfl Try.underlying22 rfl (B3.get (i := 0) rfl)) rfl ?_
    refine wl_y (y_load1 rfl Try.underlying22 rfl (B4.get (i := 0) rfl)) rfl ?_
    refine wl_y (y_load1 rfl Try.underlying85 rfl (B8.get (i := 0) rfl)) rfl ?_
    refine wl_call Try.func63 rfl rfl rfl (gmask_any _ (HA.wk E) (HB.wk E)) rfl ?_
    rintro e w8 ⟨A10, c10, rfl, R10, ex⟩
    refine ⟨_, rfl, ?_⟩
    replace R := R.ext ex
    replace B3 := B3.ext ex
    replace B4 := B4.ext ex
    replace E := E.ext ex
    replace B8 := B8.ext ex
    obtain ⟨g10, _, rfl, _⟩ := R10.get (i := 0) (by omega); replace Cw := Cw.ext ex
    refine wl_y (y_assign rfl) rfl ?_
    refine wl_nil ?_
    refine wq_then_norm (hK7 ?_)
    refine wr_seq ?_; intro K8 hK8
    refine wr_region ?_
    refine wl_y (y_move rfl) rfl ?_
    refine wl_y (y_len_slice rfl Try.underlying22) rfl ?_
    refine wl_y (y_move rfl) rfl ?_
    refine wl_nil ?_
    refine wq_then_norm (hK8 ?_)
    refine wr_block ?_
    refine wr_loop (fun n' L wr => ∃ (i : Nat), L = [(9, .slice (some ⟨g7, 0 + 16 * j, none⟩) e1 e1), (10, .slice (some ⟨g10, 0, none⟩) 16 c10), (24, .int .i64 (e1 : Int)), (25, .int .i64 (i : Int))] ∧ n' = e1 - i ∧ (i ≤ e1 ∧ Chs [g7] w8 wr ∧ Row wr wB4.heap.size 5 (some ⟨g7, 0, none⟩) n c7 ((mkP (msk key nn (2 + pre.length)) j V i).map bv))) _ _ ⟨0, rfl, rfl, Nat.zero_le _, Chs.refl _ _, R⟩ ⟨rfl, rfl, (by first | rfl | exact congrArg some (int_val (by omega))), (by first | rfl | exact congrArg some (int_val (by omega))), trivial⟩ ?_
    rintro KL1 n' L wr ⟨i, rfl, rfl, hi, X, R⟩ hL1
    refine wr_seq ?_; intro K9 hK9
    refine wr_region ?_
    refine wl_y (y_lss rfl rfl) rfl ?_
    refine wl_nil ?_
    refine wq_then_norm (hK9 ?_)
    refine wr_seq ?_; intro K10 hK10
    refine wr_dec rfl (fun hc1 => ?_) (fun hc1 => ?_)
    · skip
      refine wr_skip ?_
      refine wq_then_norm (hK10 ?_)
      refine wr_seq ?_; intro K11 hK11
      refine wr_block ?_
      refine wr_seq ?_; intro K12 hK12
      refine wr_region ?_
      refine wl_y (y_move rfl) rfl ?_
      refine wl_y (y_assign rfl) rfl ?_
      refine wl_nil ?_
      refine wq_then_norm (hK12 ?_)
      obtain ⟨U, hU⟩ : ∃ U, U = mkP (msk key nn (2 + pre.length)) j V i := ⟨_, rfl⟩
      have hUl : U.length = n := by rw [hU, mkP_length]; exact hVl
      rw [← hU] at R
      have HU := R.bs
      have HM := (R10.chs X (by simp; omega)).bs
      refine wr_draw (by kernel_rfl) 11 rfl ?_; intro wd10 ex hd10
      replace X := X.ext ex
      replace R := R.ext ex
      replace HU := HU.ext ex
      replace HM := HM.ext ex
      refine wm_z 0 rfl (by kernel_rfl) (fun _ => y_move rfl) rfl ?_
      refine wm_z 1 rfl (by kernel_rfl) (fun _ => y_move rfl) rfl ?_
      refine wm_z 2 rfl (by kernel_rfl) (fun _ => y_ixs1 rfl rfl Try.underlying22 (by kernel_rfl) (j := i) (by omega) (by omega)) rfl ?_
      refine wm_y 3 rfl (by kernel_rfl) (y_load1 rfl Try.underlying5 rfl (show _ = some (.int .u8 ((cell U (16 * j + i) : Nat) : Int)) from by rw [show 0 + 16 * j + i = 0 + (16 * j + i) by omega]; exact bsget HU (k := 16 * j + i) (by omega))) rfl ?_
      refine wm_z 4 rfl (by kernel_rfl) (fun _ => y_move rfl) rfl ?_
      refine wm_z 5 rfl (by kernel_rfl) (fun _ => y_move rfl) rfl ?_
      refine wm_z 6 rfl (by kernel_rfl) (fun _ => y_ixs1 rfl rfl Try.underlying22 (by kernel_rfl) (j := i) (by omega) (by omega)) rfl ?_
      refine wm_y 7 rfl (by kernel_rfl) (y_load1 rfl Try.underlying5 rfl (bsget HM (k := i) (by omega))) rfl ?_
      refine wm_z 8 rfl (by kernel_rfl) (fun _ => y_xor rfl rfl ((bits_u8 (Ae.c8 _ _) (Ae.c8 _ _)).2.2)) rfl ?_
      refine wm_z 9 rfl (by kernel_rfl) (fun _ => y_ixs1 rfl rfl Try.underlying22 (by kernel_rfl) (j := i) (by omega) (by omega)) rfl ?_
      refine wm_one 10 (by kernel_rfl) ?_; refine om_ef rfl (ef_storeR (i := 16 * j + i) (congrArg (fun z => some (Value.pointer (some ⟨g7, z, none⟩))) (show 0 + 16 * j + i = 0 + (16 * j + i) from Nat.add_assoc _ _ _)) rfl rfl (by kernel_rfl) R (by omega)) rfl ?_
      rintro _ w11 ⟨rfl, R11, cg⟩
      refine ⟨.inl rfl, ?_⟩
      have X11 := X.chs (Chs.one cg); have R12 : Row w11 wB4.heap.size 5 (some ⟨g7, 0, none⟩) n c7 ((U.set (16 * j + i) (UInt8.ofNat (cell U (16 * j + i) ^^^ cell (msk key nn (2 + pre.length)) i))).map bv) := (by rw [List.map_set, bv, u8_ofNat (x8 (Ae.c8 _ _) (Ae.c8 _ _))]; exact R11)
      refine wm_done (by kernel_rfl) ?_
      refine wq_nop ?_
      refine wq_blk_norm ?_
      refine wq_then_norm (hK11 ?_)
      refine wr_region ?_
      refine wl_y (y_add rfl rfl (i64_ok (by omega) (by omega))) rfl ?_
      refine wl_y (y_move rfl) rfl ?_
      refine wl_nil ?_
      refine wq_then_norm ?_
      refine hL1 _ _ ⟨i + 1, rfl, rfl, by omega, X11, (by rw [mkP, ← hU]; exact R12)⟩ (by omega) ⟨rfl, rfl, (by first | rfl | exact congrArg some (int_val (by omega))), (by first | rfl | exact congrArg some (int_val (by omega))), trivial⟩
    · skip
      refine wr_exit ?_
      refine wq_then_exit ?_
      refine wq_then_exit ?_
      refine wq_blk_hit ?_
      obtain rfl : i = e1 := by omega
      have Cz := Cw.chs X
      have hz9 := Cz.size
      refine hout (keeps_chs Cz (by simp; omega)) (kpb_chs Cz (by omega) (by omega) (by simp; omega) (by simp; omega)) ⟨?_, ?_, B3.chs X (by simp; omega), B4.chs X (by simp; omega), E.chsN X (by simp; omega), by omega⟩
      · rw [List.map_append, List.map_singleton, mkL_snoc]
        unfold mkS
        rw [← hV, hV2, ← hj, ← he1, show 1 + pre.length + 1 = 2 + pre.length by omega]
        exact R
      · exact (B8.chs X (by simp; omega)).congr (by rw [List.length_append, List.length_singleton, show 1 + (pre.length + 1) = 2 + pre.length by omega])
  · intro D xs2 W2 hD hS2 ⟨I1, I2, I3, I4, I5, I6⟩ hKD
    obtain rfl := hS2
    have hfin : ((List.finRange M).map (·.val)) = List.range M := List.ext_getElem (by simp) (fun i h1 h2 => by simp)
    rw [hfin, hM, ← htl] at I1
    have HD : Dfr W2 D := hKD
    have hDw : w.heap.size ≤ D := by omega
    refine wq_blk_norm ?_
    refine wq_then_norm (hK4 ?_)
    refine wc_seq ?_; intro K13 hK13
    refine wc_region ?_
    refine wl_y (y_move rfl) rfl ?_
    refine wl_y (y_assign rfl) rfl ?_
    refine wl_nil ?_
    refine wq_then_norm (hK13 ?_)
    refine wc_ret ?_
    refine hretD rfl HD ?_
    exact ⟨A7, c7, rfl, by unfold mkd; rw [htl] at I1 ⊢; exact Row.lower (ownsRow_putObj I1 _ HD rfl) (by omega), I5.trans (belowK_b (w := w) (Nat.le_refl _) W2 D _ _ hDw HD rfl rfl)⟩
end Go.Proofs.Ytjllhimhiekchaa
