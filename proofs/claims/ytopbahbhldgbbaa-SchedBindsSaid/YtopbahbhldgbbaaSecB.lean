/- sched.Of and Next, and the reference's: what they hand back. -/
import Derived.Test.YtopbahbhldgbbaaSecA
namespace Go.Proofs.Ytopbahbhldgbbaa
open Go.RowKit
attribute [local irreducible] Y Ef WL WC WK WQ WM OpM WN WF OpN
theorem SecAt.chg {w w' : World} {cs ds : Array Value} {l : List (List UInt8)} {g : Nat} {t : TypeId} (h : SecAt w cs l) (B : Blk w g t ds) (hs : AllSl ds) (cg : Chg w g w') : SecAt w' cs l := by
  obtain ⟨vs, h1, h2, h3, h4⟩ := h
  exact ⟨vs, h1, h2, h3, fun i hi => by obtain ⟨A, n, c, h5, h6⟩ := h4 i hi; exact ⟨A, n, c, h5, h6.sl B hs cg⟩⟩
theorem SecAt.congr {w : World} {cs : Array Value} {l l' : List (List UInt8)} (h : SecAt w cs l) (e : l = l') : SecAt w cs l' := e ▸ h
def secZ : Array Value := #[.slice none 0 0, .slice none 0 0, .slice none 0 0, .slice none 0 0, .slice none 0 0, .slice none 0 0, .slice none 0 0, .slice none 0 0, .slice none 0 0, .slice none 0 0, .slice none 0 0, .slice none 0 0]
theorem secZ_sl : AllSl secZ := fun i v hv => by
  match i, hv with
  | 0, hv => injection hv with hv; exact ⟨_, _, _, hv.symm⟩
  | 1, hv => injection hv with hv; exact ⟨_, _, _, hv.symm⟩
  | 2, hv => injection hv with hv; exact ⟨_, _, _, hv.symm⟩
  | 3, hv => injection hv with hv; exact ⟨_, _, _, hv.symm⟩
  | 4, hv => injection hv with hv; exact ⟨_, _, _, hv.symm⟩
  | 5, hv => injection hv with hv; exact ⟨_, _, _, hv.symm⟩
  | 6, hv => injection hv with hv; exact ⟨_, _, _, hv.symm⟩
  | 7, hv => injection hv with hv; exact ⟨_, _, _, hv.symm⟩
  | 8, hv => injection hv with hv; exact ⟨_, _, _, hv.symm⟩
  | 9, hv => injection hv with hv; exact ⟨_, _, _, hv.symm⟩
  | 10, hv => injection hv with hv; exact ⟨_, _, _, hv.symm⟩
  | 11, hv => injection hv with hv; exact ⟨_, _, _, hv.symm⟩
  | i + 12, hv => simp [secZ] at hv
/-- The secrets on the way. -/
def secWay (j W e : List UInt8) (i : Nat) : List (List UInt8) := [j, W, e] ++ (List.range i).map (secSub e) ++ List.replicate (9 - i) []
theorem secWay_put (j W e : List UInt8) {i : Nat} (h : i < 9) : (secWay j W e i).set (3 + i) (secSub e i) = secWay j W e (i + 1) := by
  unfold secWay
  rw [List.set_append_right _ _ (by simp; omega), List.range_succ, List.map_append]
  simp only [List.length_append, List.length_cons, List.length_nil, List.length_map, List.length_range]
  rw [show 3 + i - (0 + 1 + 1 + 1 + i) = 0 by omega, show 9 - i = (9 - (i + 1)) + 1 by omega, List.replicate_succ, List.set_cons_zero]
  simp
theorem secWay_two (j W e : List UInt8) (i : Nat) : (secWay j W e i).getD 2 [] = e := rfl
theorem secAt_start {w : World} {A B : Option Addr} {n c m d : Nat} {xs ys : List UInt8} (HA : Bs w A n xs) (HB : Bs w B m ys) : SecAt w #[.slice A n c, .slice B m d, .slice none 0 0, .slice none 0 0, .slice none 0 0, .slice none 0 0, .slice none 0 0, .slice none 0 0, .slice none 0 0, .slice none 0 0, .slice none 0 0, .slice none 0 0] (secWay xs ys [] 0) := by
  refine ⟨_, rfl, rfl, rfl, fun i hi => ?_⟩
  match i, hi with
  | 0, _ => exact ⟨A, n, c, rfl, HA⟩
  | 1, _ => exact ⟨B, m, d, rfl, HB⟩
  | 2, _ => exact ⟨none, 0, 0, rfl, Bs.nil _ _⟩
  | 3, _ => exact ⟨none, 0, 0, rfl, Bs.nil _ _⟩
  | 4, _ => exact ⟨none, 0, 0, rfl, Bs.nil _ _⟩
  | 5, _ => exact ⟨none, 0, 0, rfl, Bs.nil _ _⟩
  | 6, _ => exact ⟨none, 0, 0, rfl, Bs.nil _ _⟩
  | 7, _ => exact ⟨none, 0, 0, rfl, Bs.nil _ _⟩
  | 8, _ => exact ⟨none, 0, 0, rfl, Bs.nil _ _⟩
  | 9, _ => exact ⟨none, 0, 0, rfl, Bs.nil _ _⟩
  | 10, _ => exact ⟨none, 0, 0, rfl, Bs.nil _ _⟩
  | 11, _ => exact ⟨none, 0, 0, rfl, Bs.nil _ _⟩
theorem secWay_epoch (j W e : List UInt8) : (secWay j W [] 0).set 2 e = secWay j W e 0 := rfl
theorem secWay_end (j : List UInt8) (c : Ctx) : secWay j (Kdf.label (secMid j) sWelcome.data.toList [] 32) (secEp j c) 9 = secOf j c := by
  unfold secWay secOf; simp
theorem zeros32_bs {w : World} {g : Nat} {t : TypeId} (B : Blk w g t (List.replicate 32 (Value.int .u8 0)).toArray) : Bs w (some ⟨g, 0, none⟩) 32 (List.replicate 32 0) := bs_blk' (B.congr (by rfl)) (by simp)
theorem sof_any (A : Option Addr) (n c : Nat) (xs : List UInt8) (cs : Array Value) (x : Ctx) (w : World) (HA : Bs w A n xs) (hn : n ≤ 1000) (H : CtxAt w cs x) (hs : x.Small) :
    Calls Try.prog 20 #[.slice A n c, .agg cs] w fun e w' => ∃ ds, e = .returned (.agg ds) ∧ SecAt w' ds (secOf xs x) ∧ Ext w w' := by
  have hz := H.size
  have E := Ext.refl w
  obtain ⟨W, hW⟩ : ∃ W, W = Kdf.label (secMid xs) sWelcome.data.toList [] 32 := ⟨_, rfl⟩
  obtain ⟨ep, hep⟩ : ∃ e, e = secEp xs x := ⟨_, rfl⟩
  have hepl : ep.length = 32 := by rw [hep]; exact label_length _ _ _ _
  refine vc_enterc1 (s := 12) 38 Try.func20 rfl rfl rfl Try.underlying42 rfl (by kernel_rfl) rfl ?_
  intro Q hret
  refine wc_seq ?_; intro K1 hK1
  refine wc_region ?_
  refine wl_ef (ef_box (cs := cs) rfl rfl) rfl ?_
  rintro _ w1 ⟨g3, rfl, B3, hg3, ex⟩
  replace E := E.ext ex
  replace HA := HA.ext ex
  replace H := H.ext ex
  skip
  have E0 := E
  refine wl_ef (ef_alloc (Z := secZ) (by kernel_rfl)) rfl ?_
  rintro _ w2 ⟨g4, rfl, B4, hg4, ex⟩
  replace E := E.ext ex
  replace HA := HA.ext ex
  replace H := H.ext ex
  replace B3 := B3.ext ex
  have hw4 := Nat.le_trans E0.size hg4
  refine wl_nil ?_
  refine wq_then_norm (hK1 ?_)
  refine wc_seq ?_; intro K2 hK2
  refine wc_region ?_
  refine wl_y (y_move rfl) rfl ?_
  refine wl_ef (ef_make (n := 32) (z := .int .u8 0) (bytes := 1) rfl rfl Try.underlying24 (by kernel_rfl) rfl rfl rfl rfl (by omega) (by omega)) rfl ?_
  rintro _ w3 ⟨gz, rfl, BZ, hgz, ex⟩
  replace E := E.ext ex
  replace HA := HA.ext ex
  replace H := H.ext ex
  replace B3 := B3.ext ex
  replace B4 := B4.ext ex
  have HZ := zeros32_bs BZ
  refine wl_call Try.func48 rfl rfl rfl (extract_any A _ n c 32 32 xs _ _ HA (by omega) HZ (by omega)) rfl ?_
  rintro e w4 ⟨A5, c5, rfl, H5, ex⟩
  refine ⟨_, rfl, ?_⟩
  replace E := E.ext ex
  replace HA := HA.ext ex
  replace H := H.ext ex
  replace B3 := B3.ext ex
  replace B4 := B4.ext ex
  skip
  refine wl_y (y_assign rfl) rfl ?_
  refine wl_nil ?_
  refine wq_then_norm (hK2 ?_)
  refine wc_seq ?_; intro K3 hK3
  refine wc_region ?_
  refine wl_y (y_move rfl) rfl ?_
  refine wl_call Try.func49 rfl rfl rfl (bclone_any A n c xs _ HA (by omega)) rfl ?_
  rintro e w5 ⟨A6, c6, rfl, H6, _, ex⟩
  refine ⟨_, rfl, ?_⟩
  replace E := E.ext ex
  replace HA := HA.ext ex
  replace H := H.ext ex
  replace B3 := B3.ext ex
  replace B4 := B4.ext ex
  replace H5 := H5.ext ex
  skip
  refine wl_y (y_move rfl) rfl ?_
  refine wl_call Try.func41 rfl rfl rfl (secret_any A5 32 c5 sWelcome _ _ H5 (by omega) (by decide)) rfl ?_
  rintro e w6 ⟨A7, c7, rfl, H7, ex⟩
  refine ⟨_, rfl, ?_⟩
  replace E := E.ext ex
  replace HA := HA.ext ex
  replace H := H.ext ex
  replace B3 := B3.ext ex
  replace B4 := B4.ext ex
  replace H5 := H5.ext ex
  replace H6 := H6.ext ex
  replace H7 : Bs w6 A7 32 W := by rw [hW]; exact H7
  refine wl_y (y_build rfl (cells := #[.slice A6 n c6, .slice A7 32 c7, .slice none 0 0, .slice none 0 0, .slice none 0 0, .slice none 0 0, .slice none 0 0, .slice none 0 0, .slice none 0 0, .slice none 0 0, .slice none 0 0, .slice none 0 0]) (by kernel_rfl)) rfl ?_
  have E_g6 := E
  have HA_g6 := HA
  have H_g6 := H
  have B3_g6 := B3
  have B4_g6 := B4
  have H5_g6 := H5
  have H6_g6 := H6
  have H7_g6 := H7
  refine wl_ef (ef_alloc (Z := secZ) (by kernel_rfl)) rfl ?_
  rintro _ wn2_5 ⟨g6, rfl, Bg6, hg6, ex⟩
  have Xg6 := ex
  replace E := E.ext ex
  replace HA := HA.ext ex
  replace H := H.ext ex
  replace B3 := B3.ext ex
  replace B4 := B4.ext ex
  replace H5 := H5.ext ex
  replace H6 := H6.ext ex
  replace H7 := H7.ext ex
  have hw6 := Nat.le_trans E_g6.size hg6; have l46 := Nat.lt_of_lt_of_le B4_g6.lt hg6
  refine wl_ef (ef_storeW rfl rfl (by kernel_rfl) Bg6 rfl (by simp [Value.oneCell'])) rfl ?_
  rintro _ wn2_6 ⟨rfl, Bg6, cg⟩
  replace Xg6 := Xg6.chg cg hg6
  replace E := E_g6.ext Xg6
  replace HA := HA_g6.ext Xg6
  replace H := H_g6.ext Xg6
  replace B3 := B3_g6.ext Xg6
  replace B4 := B4_g6.ext Xg6
  replace H5 := H5_g6.ext Xg6
  replace H6 := H6_g6.ext Xg6
  replace H7 := H7_g6.ext Xg6
  have HS := secAt_start (c := c6) (d := c7) H6 H7
  refine wl_nil ?_
  refine wq_then_norm (hK3 ?_)
  refine wc_seq ?_; intro K4 hK4
  refine wc_region ?_
  refine wl_y (y_move rfl) rfl ?_
  refine wl_y (y_loadw rfl Try.underlying39 rfl (by rw [hz]; kernel_rfl) B3) rfl ?_
  refine wl_call Try.func51 rfl rfl rfl (ctxBytes_any cs x _ H hs) rfl ?_
  rintro e w8 ⟨A8, k8, c8, rfl, H8, hk8, ex⟩
  refine ⟨_, rfl, ?_⟩
  replace E := E.ext ex
  replace HA := HA.ext ex
  replace H := H.ext ex
  replace B3 := B3.ext ex
  replace B4 := B4.ext ex
  replace H5 := H5.ext ex
  replace H6 := H6.ext ex
  replace H7 := H7.ext ex
  replace Bg6 := Bg6.ext ex
  replace HS := HS.ext ex
  skip
  refine wl_call Try.func50 rfl rfl rfl (labelled_any A5 A8 32 c5 k8 c8 32 sEpoch _ _ _ H5 (by omega) (by decide) H8 (by omega) (by omega)) rfl ?_
  rintro e w9 ⟨A9, c9, rfl, H9, ex⟩
  refine ⟨_, rfl, ?_⟩
  replace E := E.ext ex
  replace HA := HA.ext ex
  replace H := H.ext ex
  replace B3 := B3.ext ex
  replace B4 := B4.ext ex
  replace H5 := H5.ext ex
  replace H6 := H6.ext ex
  replace H7 := H7.ext ex
  replace Bg6 := Bg6.ext ex
  replace HS := HS.ext ex
  replace H9 : Bs w9 A9 32 ep := by rw [hep]; exact H9
  refine wl_y (y_fieldAddr (o := 2) (s := 1) (off := 0) (o' := 2) rfl Try.underlying42 rfl (by kernel_rfl) rfl rfl) rfl ?_
  refine wl_ef (ef_storeB rfl rfl rfl (by kernel_rfl) Bg6 (by rw [HS.size]; omega)) rfl ?_
  rintro _ w10 ⟨rfl, B10, cg⟩
  replace E := E.chg cg hw6; replace B4 := B4.chg cg (by omega); replace HS := (HS.put Bg6 cg H9 (c := c9) (i := 2) (by omega)).congr (secWay_epoch xs W ep); replace Bg6 := B10
  refine wl_nil ?_
  refine wq_then_norm (hK4 ?_)
  refine wc_seq ?_; intro K5 hK5
  refine wc_seq ?_; intro K6 hK6
  refine wc_region ?_
  have hl6 := Bg6.lt; have hl4 := B4.lt
  refine wl_call Try.func52 rfl rfl rfl (table_any23 g6 _) rfl ?_
  rintro e w11 ⟨gt, rfl, BT, hgt, ex⟩
  refine ⟨_, rfl, ?_⟩
  replace E := E.ext ex
  replace B4 := B4.ext ex
  replace Bg6 := Bg6.ext ex
  replace HS := HS.ext ex
  have n6t : g6 < gt := by omega
  refine wl_y (y_len_slice rfl Try.underlying80) rfl ?_
  refine wl_y (y_move rfl) rfl ?_
  refine wl_nil ?_
  refine wq_then_norm (hK6 ?_)
  refine wc_block ?_
  refine wc_loop (fun n' L wr => ∃ (i : Nat) (ds : Array Value), L = [(4, .pointer (some ⟨g4, 0, none⟩)), (6, .pointer (some ⟨g6, 0, none⟩)), (22, .slice (some ⟨gt, 0, none⟩) 9 9), (23, .int .i64 ((9 : Nat) : Int)), (24, .int .i64 (i : Int))] ∧ n' = 9 - i ∧ (i ≤ 9 ∧ Ext w wr ∧ Blk wr g4 42 secZ ∧ Blk wr g6 42 ds ∧ SecAt wr ds (secWay xs W ep i) ∧ Blk wr gt 85 (tabCells g6))) _ _ ⟨0, _, rfl, rfl, by omega, E, B4, Bg6, HS, BT⟩ ⟨rfl, rfl, rfl, (by first | rfl | exact congrArg some (int_val (by omega))), (by first | rfl | exact congrArg some (int_val (by omega))), trivial⟩ ?_
  rintro KL1 n' L wr ⟨i, ds, rfl, rfl, hi, E, B4, B6, HS, BT⟩ hL1
  refine wc_seq ?_; intro K7 hK7
  refine wc_region ?_
  refine wl_y (y_lss rfl rfl) rfl ?_
  refine wl_nil ?_
  refine wq_then_norm (hK7 ?_)
  refine wc_seq ?_; intro K8 hK8
  refine wc_dec rfl (fun hc1 => ?_) (fun hc1 => ?_)
  · skip
    refine wc_skip ?_
    refine wq_then_norm (hK8 ?_)
    refine wc_seq ?_; intro K9 hK9
    refine wc_block ?_
    refine wc_seq ?_; intro K10 hK10
    have htab := tab_at g6 (i := i) (by omega)
    refine wc_region ?_
    refine wl_y (y_ixsp (s := 2) rfl rfl Try.underlying80 (by kernel_rfl) (j := i) rfl (by omega)) rfl ?_
    refine wl_y ((y_loadp (cs := #[.string (sLab i), .pointer (some ⟨g6, 3 + i, none⟩)]) rfl Try.underlying85 rfl (by kernel_rfl) (fun j v hv => by rw [Addr.add_plain, BT.cell, Nat.zero_add, Nat.mul_comm]; match j, hv with | 0, hv => injection hv with hv; rw [← hv]; exact htab.1 | 1, hv => injection hv with hv; rw [← hv]; exact htab.2 | j + 2, hv => simp at hv))) rfl ?_
    have E_gx := E
    have B4_gx := B4
    have B6_gx := B6
    have HS_gx := HS
    have BT_gx := BT
    refine wl_ef (ef_alloc (Z := #[.string ⟨#[]⟩, .pointer none]) (by kernel_rfl)) rfl ?_
    rintro _ wn6_2 ⟨gx, rfl, Bgx, hgx, ex⟩
    have Xgx := ex
    replace E := E.ext ex
    replace B4 := B4.ext ex
    replace B6 := B6.ext ex
    replace HS := HS.ext ex
    replace BT := BT.ext ex
    have hwx := Nat.le_trans E_gx.size hgx; have l6x := Nat.lt_of_lt_of_le B6_gx.lt hgx
    refine wl_ef (ef_storeW rfl rfl (by kernel_rfl) Bgx rfl (by simp [Value.oneCell'])) rfl ?_
    rintro _ wn6_3 ⟨rfl, Bgx, cg⟩
    replace Xgx := Xgx.chg cg hgx
    replace E := E_gx.ext Xgx
    replace B4 := B4_gx.ext Xgx
    replace B6 := B6_gx.ext Xgx
    replace HS := HS_gx.ext Xgx
    replace BT := BT_gx.ext Xgx
    refine wl_nil ?_
    refine wq_then_norm (hK10 ?_)
    refine wc_draw (by kernel_rfl) 9 rfl ?_; intro wd7 ex hd7
    replace E := E.ext ex
    replace B4 := B4.ext ex
    replace B6 := B6.ext ex
    replace HS := HS.ext ex
    replace BT := BT.ext ex
    replace Bgx := Bgx.ext ex
    obtain ⟨Ae, ne, ce, hce, He⟩ := HS.get (i := 2) (by omega)
    rw [secWay_two] at He
    have hne : ne = 32 := by rw [← He.1]; exact hepl
    refine wm_z 0 rfl (by kernel_rfl) (fun _ => y_fieldAddr (o := 1) (s := 1) (off := 0) (o' := 1) rfl Try.underlying85 rfl (by kernel_rfl) rfl rfl) rfl ?_
    refine wm_y 1 rfl (by kernel_rfl) (y_load1 rfl Try.underlying83 rfl (Bgx.get (i := 1) rfl)) rfl ?_
    refine wm_z 2 rfl (by kernel_rfl) (fun _ => y_fieldAddr (o := 2) (s := 1) (off := 0) (o' := 2) rfl Try.underlying42 rfl (by kernel_rfl) rfl rfl) rfl ?_
    refine wm_y 3 rfl (by kernel_rfl) (y_load1 rfl Try.underlying24 rfl (B6.get hce)) rfl ?_
    refine wm_z 4 rfl (by kernel_rfl) (fun _ => y_fieldAddr (o := 0) (s := 1) (off := 0) (o' := 0) rfl Try.underlying85 rfl (by kernel_rfl) rfl rfl) rfl ?_
    refine wm_y 5 rfl (by kernel_rfl) (y_load1 rfl Try.underlying9 rfl (Bgx.get (i := 0) rfl)) rfl ?_
    refine wm_one 6 (by kernel_rfl) ?_; refine om_call rfl Try.func41 rfl rfl rfl (secret_any Ae ne ce (sLab i) ep _ He (by omega) (sLab_size i)) rfl ?_
    rintro e w14 ⟨A14, c14, rfl, H14, ex⟩
    refine ⟨_, rfl, .inr ex, ?_⟩
    replace E := E.ext ex
    replace B4 := B4.ext ex
    replace B6 := B6.ext ex
    replace HS := HS.ext ex
    replace BT := BT.ext ex
    replace Bgx := Bgx.ext ex
    skip
    refine wm_z 7 rfl (by kernel_rfl) (fun _ => y_nilp rfl) rfl ?_
    refine wm_one 8 (by kernel_rfl) ?_; refine om_ef rfl (ef_storeB rfl rfl rfl (by kernel_rfl) B6 (by rw [HS.size]; omega)) rfl ?_
    rintro _ w15 ⟨rfl, B15, cg⟩
    refine ⟨.inl rfl, ?_⟩
    replace E := E.chg cg hw6; replace B4 := B4.chg cg (by omega); replace BT := BT.chg cg (by omega); replace HS := (HS.put B6 cg H14 (c := c14) (i := 3 + i) (by omega)).congr (secWay_put xs W ep (by omega))
    refine wm_done (by kernel_rfl) ?_
    refine wq_nop ?_
    refine wq_blk_norm ?_
    refine wq_then_norm (hK9 ?_)
    refine wc_region ?_
    refine wl_y (y_add rfl rfl (i64_ok (by omega) (by omega))) rfl ?_
    refine wl_y (y_move rfl) rfl ?_
    refine wl_nil ?_
    refine wq_then_norm ?_
    refine hL1 _ _ ⟨i + 1, _, rfl, rfl, by omega, E, B4, B15, HS, BT⟩ (by omega) ⟨rfl, rfl, rfl, (by first | rfl | exact congrArg some (int_val (by omega))), (by first | rfl | exact congrArg some (int_val (by omega))), trivial⟩
  · skip
    refine wc_exit ?_
    refine wq_then_exit ?_
    refine wq_then_exit ?_
    refine wq_blk_hit ?_
    refine wq_then_norm (hK5 ?_)
    refine wc_seq ?_; intro K11 hK11
    refine wc_region ?_
    refine wl_y (y_loadw rfl Try.underlying42 rfl (by rw [HS.size]; kernel_rfl) B6) rfl ?_
    refine wl_ef (ef_storeW rfl rfl (by rw [HS.size]; kernel_rfl) B4 (by rw [HS.size]; rfl) HS.one) rfl ?_
    rintro _ w16 ⟨rfl, B16, cg⟩
    have E16 := E.chg cg hw4; have HS16 := HS.chg B4 secZ_sl cg
    refine wl_nil ?_
    refine wq_then_norm (hK11 ?_)
    refine wc_ret ?_
    refine hret rfl B16 HS.size ?_
    exact ⟨ds, rfl, HS16.congr (by rw [show i = 9 by omega, hW, hep]; exact secWay_end xs x), E16⟩
theorem snext_any (A B : Option Addr) (n c m d : Nat) (xs ys : List UInt8) (cs : Array Value) (x : Ctx) (w : World) (HA : Bs w A n xs) (hn : n ≤ 1000) (HB : Bs w B m ys) (hm : m ≤ 1000) (H : CtxAt w cs x) (hs : x.Small) :
    Calls Try.prog 27 #[.slice A n c, .slice B m d, .agg cs] w fun e w' => ∃ ds, e = .returned (.agg ds) ∧ SecAt w' ds (secOf (secJoiner xs ys x) x) ∧ Ext w w' := by
  have hz := H.size
  have E := Ext.refl w
  refine vc_enterc1 (s := 12) 13 Try.func27 rfl rfl rfl Try.underlying42 rfl (by kernel_rfl) rfl ?_
  intro Q hret
  refine wc_seq ?_; intro K1 hK1
  refine wc_region ?_
  refine wl_ef (ef_box (cs := cs) rfl rfl) rfl ?_
  rintro _ w1 ⟨g1, rfl, B1, hg1, ex⟩
  replace E := E.ext ex
  replace HA := HA.ext ex
  replace HB := HB.ext ex
  replace H := H.ext ex
  skip
  have E0 := E
  refine wl_ef (ef_alloc (Z := secZ) (by kernel_rfl)) rfl ?_
  rintro _ w2 ⟨g2, rfl, B2, hg2, ex⟩
  replace E := E.ext ex
  replace HA := HA.ext ex
  replace HB := HB.ext ex
  replace H := H.ext ex
  replace B1 := B1.ext ex
  have hw2 := Nat.le_trans E0.size hg2
  refine wl_nil ?_
  refine wq_then_norm (hK1 ?_)
  refine wc_seq ?_; intro K2 hK2
  refine wc_draw (by kernel_rfl) 7 rfl ?_; intro wd1 ex hd1
  replace E := E.ext ex
  replace HA := HA.ext ex
  replace HB := HB.ext ex
  replace H := H.ext ex
  replace B1 := B1.ext ex
  replace B2 := B2.ext ex
  refine wm_z 0 rfl (by kernel_rfl) (fun _ => y_move rfl) rfl ?_
  refine wm_z 1 rfl (by kernel_rfl) (fun _ => y_move rfl) rfl ?_
  refine wm_y 2 rfl (by kernel_rfl) (y_loadw rfl Try.underlying39 rfl (by rw [hz]; kernel_rfl) B1) rfl ?_
  refine wm_y 4 rfl (by kernel_rfl) (y_loadw rfl Try.underlying39 rfl (by rw [hz]; kernel_rfl) B1) rfl ?_
  refine wm_one 3 (by kernel_rfl) ?_; refine om_call rfl Try.func26 rfl rfl rfl (sjoiner_any A B n c m d xs ys cs x _ HA hn HB hm H hs) rfl ?_
  rintro e w3 ⟨A3, c3, rfl, H3, ex⟩
  refine ⟨_, rfl, .inr ex, ?_⟩
  replace E := E.ext ex
  replace HA := HA.ext ex
  replace HB := HB.ext ex
  replace H := H.ext ex
  replace B1 := B1.ext ex
  replace B2 := B2.ext ex
  skip
  refine wm_one 5 (by kernel_rfl) ?_; refine om_call rfl Try.func20 rfl rfl rfl (sof_any A3 32 c3 _ cs x _ H3 (by omega) H hs) rfl ?_
  rintro e w4 ⟨ds, rfl, HS, ex⟩
  refine ⟨_, rfl, .inr ex, ?_⟩
  replace E := E.ext ex
  replace HA := HA.ext ex
  replace HB := HB.ext ex
  replace H := H.ext ex
  replace B1 := B1.ext ex
  replace B2 := B2.ext ex
  skip
  refine wm_one 6 (by kernel_rfl) ?_; refine om_ef rfl (ef_storeW rfl rfl (by rw [HS.size]; kernel_rfl) B2 (by rw [HS.size]; rfl) HS.one) rfl ?_
  rintro _ w5 ⟨rfl, B5, cg⟩
  refine ⟨.inl rfl, ?_⟩
  have E5 := E.chg cg hw2; have HS5 := HS.chg B2 secZ_sl cg
  refine wm_done (by kernel_rfl) ?_
  refine wq_nop ?_
  refine wq_then_norm (hK2 ?_)
  refine wc_ret ?_
  refine hret rfl B5 HS.size ?_
  exact ⟨ds, rfl, HS5, E5⟩
end Go.Proofs.Ytopbahbhldgbbaa
