/- gcm.tag. No conditions: contracts of functions. -/
import Derived.Test.YtjllhimhiekchaaGmE
namespace Go.Proofs.Ytjllhimhiekchaa
open Go.RowKit
attribute [local irreducible] Y Ef WL WC WK WQ WM OpM WN WF OpN WJ OpJ WR WLr
open Ae Gm
namespace Gm
def pad (p : List UInt8) : List UInt8 := p ++ List.replicate (16 - p.length) 0
def pc (xs : List UInt8) (j : Nat) : List UInt8 := (xs.drop (16 * j)).take 16
def abS (h : Nat × Nat) (xs : List UInt8) (y : Nat × Nat) (j : Nat) : Nat × Nat := mul (y.1 ^^^ pf (pad (pc xs j)) 16) (y.2 ^^^ ps (pad (pc xs j)) 16) h.1 h.2
def abL (h : Nat × Nat) (xs : List UInt8) (y : Nat × Nat) (js : List Nat) : Nat × Nat := js.foldl (abS h xs) y
def ab (h : Nat × Nat) (xs : List UInt8) (y : Nat × Nat) : Nat × Nat := abL h xs y (List.range ((xs.length + 15) / 16))
def hk (key : List UInt8) : Nat × Nat := (pf (enc key (List.replicate 16 0)) 16, ps (enc key (List.replicate 16 0)) 16)
def lst (h : Nat × Nat) (y : Nat × Nat) (m n : Nat) : Nat × Nat := mul (y.1 ^^^ m * 8) (y.2 ^^^ n * 8) h.1 h.2
def tag (key nn ss ms : List UInt8) : List UInt8 :=
  pb ((lst (hk key) (ab (hk key) ss (ab (hk key) ms (0, 0))) ms.length ss.length).1 ^^^ pf (msk key nn 1) 16) ((lst (hk key) (ab (hk key) ss (ab (hk key) ms (0, 0))) ms.length ss.length).2 ^^^ ps (msk key nn 1) 16) 8
theorem tag_length (key nn ss ms : List UInt8) : (tag key nn ss ms).length = 16 := pb_length _ _ _
theorem pad_length {p : List UInt8} (h : p.length ≤ 16) : (pad p).length = 16 := by unfold pad; rw [List.length_append, List.length_replicate]; omega
def ok (y : Nat × Nat) : Prop := y.1 < 18446744073709551616 ∧ y.2 < 18446744073709551616
theorem mul_ok (a b : Nat) {h : Nat × Nat} (hh : ok h) : ok (mul a b h.1 h.2) := os_lt hh.1 hh.2 128
theorem abL_ok {h : Nat × Nat} (hh : ok h) (xs : List UInt8) : ∀ (js : List Nat) {y : Nat × Nat}, ok y → ok (abL h xs y js)
  | [], _, hy => hy
  | j :: js, y, _ => abL_ok hh xs js (mul_ok _ _ hh)
theorem abL_snoc (h : Nat × Nat) (xs : List UInt8) (y : Nat × Nat) (js : List Nat) (j : Nat) : abL h xs y (js ++ [j]) = abS h xs (abL h xs y js) j := by
  unfold abL; rw [List.foldl_append]; rfl
theorem hk_ok (key : List UInt8) : ok (hk key) := ⟨pf_lt _ _, ps_lt _ _⟩
end Gm
theorem own_dfr {β : Type} {B D : Nat} (h : D < B) : OwnFrom B (fun (_ : β) W => Dfr W D) := fun s W W' row hs hg hr =>
  (hg.block D (Dfr.lt hs) (fun e => by have := (hr D e.symm).1; omega)).trans hs
theorem Dfr.chs {S : List Nat} {w w' : World} {D : Nat} (h : Dfr w D) (k : Chs S w w') (hD : D ∉ S) : Dfr w' D := (k.block D h.lt hD).trans h
theorem take_cell {w : World} {g o n : Nat} {xs : List UInt8} (H : Bs w (some ⟨g, o, none⟩) n xs) (j e : Nat) (he : e = min 16 (n - 16 * j)) : Bs w (some ⟨g, o + 16 * j, none⟩) e (pc xs j) := by
  have h := (H.cutOff (16 * j)).take (k := e) (by omega)
  rwa [show ((xs.drop (16 * j)).take e) = pc xs j from by unfold pc; rw [List.take_eq_take_iff, List.length_drop, H.1]; omega] at h
theorem own_true {β : Type} {B : Nat} : OwnFrom B (fun (_ : β) _ => True) := fun _ _ _ _ _ _ _ => trivial
theorem pad_cells (p : List UInt8) : ((bys (List.replicate 16 0)).toList.take 0 ++ p.map bv ++ (bys (List.replicate 16 0)).toList.drop (0 + (p.map bv).length)).toArray = bys (pad p) := by
  unfold pad bys
  rw [List.take_zero, List.nil_append, Nat.zero_add, List.length_map, List.map_append, List.map_replicate, List.map_replicate, List.drop_replicate]
set_option maxHeartbeats 2000000 in
theorem gtag_any {A B C G : Option Addr} {n m c d e f : Nat} {key nn ss ms : List UInt8} (w : World) (HA : Bs w A 16 key) (HB : Bs w B 12 nn) (HC : Bs w C n ss) (hn : n ≤ 100000) (hne : n ≤ e) (HG : Bs w G m ms) (hm : m ≤ 100000) (hmf : m ≤ f) :
    Calls Try.prog 41 #[.slice A 16 c, .slice B 12 d, .slice C n e, .slice G m f] w fun e w' => ∃ A' c', e = .returned (.slice A' 16 c') ∧ Row w' w.heap.size 5 A' 16 c' ((tag key nn ss ms).map bv) ∧ Ext w w' := by
  have E := Ext.refl w
  have hsl := HC.1
  have hml := HG.1
  have hnl := HB.1
  have hhk := hk_ok key
  obtain ⟨H, hH⟩ : ∃ H, H = hk key := ⟨_, rfl⟩
  rw [← hH] at hhk
  refine vc_enterMM1 (4) 67 Try.func41 rfl rfl rfl rfl ?_
  intro Q hretDD
  refine wc_seq ?_; intro K1 hK1
  refine wc_region ?_
  refine wl_y (y_assign rfl) rfl ?_
  refine wl_nil ?_
  refine wq_then_norm (hK1 ?_)
  refine wc_seq ?_; intro K2 hK2
  refine wc_region ?_
  refine wl_y (y_move rfl) rfl ?_
  refine wl_ef (ef_make (n := 16) (z := .int .u8 0) (bytes := 1) rfl rfl Try.underlying22 (by kernel_rfl) rfl rfl rfl rfl (by omega) (by omega)) rfl ?_
  rintro _ w1 ⟨g3, rfl, D3, hg3, ex⟩
  replace E := E.ext ex
  have H3 := bs_blk' (xs := List.replicate 16 0) (D3.congr (by kernel_rfl)) rfl
  refine wl_call Try.func58 rfl rfl rfl (ablock_any _ (HA.wk E) H3) rfl ?_
  rintro e w2 ⟨A5, c5, rfl, R5, ex⟩
  refine ⟨_, rfl, ?_⟩
  replace E := E.ext ex
  replace H3 := H3.ext ex
  have H5 := R5.bs
  refine wl_y (y_move rfl) rfl ?_
  refine wl_y (y_extract rfl rfl) rfl ?_
  refine wl_y (y_extract rfl rfl) rfl ?_
  refine wl_y (y_assign rfl) rfl ?_
  refine wl_y (y_assign rfl) rfl ?_
  refine wl_nil ?_
  refine wq_then_norm (hK2 ?_)
  refine wc_seq ?_; intro K3 hK3
  refine wc_region ?_
  refine wl_y (y_move rfl) rfl ?_
  refine wl_call Try.func59 rfl rfl rfl (pairOf_any _ H5) rfl ?_
  rintro e w3 ⟨rfl, ex⟩
  refine ⟨_, rfl, ?_⟩
  replace E := E.ext ex
  replace H3 := H3.ext ex
  replace H5 := H5.ext ex
  have hz3 := E.size
  refine wl_ef (ef_alloc (Z := #[.int .u64 0, .int .u64 0]) (by kernel_rfl)) rfl ?_
  rintro _ wA11 ⟨gB11, rfl, D11, hgB11, exA⟩
  refine wl_ef (ef_storeP (o := 0) rfl rfl (by kernel_rfl) D11 (Nat.le_of_ble_eq_true rfl) (all_ones rfl)) rfl ?_
  rintro _ wB11 ⟨rfl, B11, cg⟩
  have ex := exA.chg cg hgB11; clear cg exA D11
  have lB11 := B11.lt; have zB11 := ex.size
  replace E := E.ext ex
  replace H3 := H3.ext ex
  replace H5 := H5.ext ex
  replace B11 := B11.congr (cs' := pv H.1 H.2) (by rw [hH]; rfl)
  refine wl_nil ?_
  refine wq_then_norm (hK3 ?_)
  refine wc_seq ?_; intro K4 hK4
  refine wc_region ?_
  refine wl_ef (ef_alloc (Z := #[.int .u64 0, .int .u64 0]) (by kernel_rfl)) rfl ?_
  rintro _ w4 ⟨gB12, rfl, B12, hg12, ex⟩
  replace E := E.ext ex
  replace H3 := H3.ext ex
  replace H5 := H5.ext ex
  replace B11 := B11.ext ex
  replace B12 := B12.congr (cs' := pv 0 0) rfl; have lB12 := B12.lt
  refine wl_nil ?_
  refine wq_then_norm (hK4 ?_)
  refine wc_seq ?_; intro K5 hK5
  refine wc_seq ?_; intro K6 hK6
  refine wc_region ?_
  refine wl_y (y_move rfl) rfl ?_
  refine wl_y (y_move rfl) rfl ?_
  refine wl_ef (ef_lit (z := .slice none 0 0) Try.underlying79 (by kernel_rfl) rfl rfl rfl rfl rfl) rfl ?_
  rintro _ w5 ⟨g27, rfl, B27, hg27, ex⟩
  replace E := E.ext ex
  replace H3 := H3.ext ex
  replace H5 := H5.ext ex
  replace B11 := B11.ext ex
  replace B12 := B12.ext ex
  have hz5 := E.size; have lB27 := B27.lt
  refine wl_y (y_len_slice rfl Try.underlying79) rfl ?_
  refine wl_y (y_move rfl) rfl ?_
  refine wl_nil ?_
  refine wq_then_norm (hK6 ?_)
  refine wc_block ?_
  refine wc_unroll 3 ?_; refine wlr_succ ?_; intro KU1_1 hKU1_1
  refine wc_seq ?_; intro K7 hK7
  refine wc_region ?_
  refine wl_y (Y.as (y_lss rfl rfl) (congrArg Value.bool (decide_eq_true (by omega)))) rfl ?_
  refine wl_nil ?_
  refine wq_then_norm (hK7 ?_)
  refine wc_seq ?_; intro K8 hK8
  refine wc_true rfl rfl ?_
  refine wc_skip ?_
  refine wq_then_norm (hK8 ?_)
  refine wc_seq ?_; intro K9 hK9
  refine wc_block ?_
  refine wc_seq ?_; intro K10 hK10
  refine wc_region ?_
  refine wl_y (y_ixs1 rfl rfl Try.underlying79 (by kernel_rfl) (j := 0) rfl (by omega)) rfl ?_
  refine wl_y (y_load1 rfl Try.underlying22 rfl (B27.get (i := 0) rfl)) rfl ?_
  refine wl_y (y_assign rfl) rfl ?_
  refine wl_nil ?_
  refine wq_then_norm (hK10 ?_)
  refine wc_seq ?_; intro K11 hK11
  refine wc_region ?_
  refine wl_y (y_move rfl) rfl ?_
  obtain ⟨ga, oa, hA⟩ : ∃ g o, 0 < m → G = some ⟨g, o, none⟩ := by
    rcases Nat.eq_zero_or_pos m with h | h
    · exact ⟨0, 0, fun h' => by omega⟩
    · obtain ⟨g, o, h1, _⟩ := HG.get (k := 0) h
      exact ⟨g, o, fun _ => h1⟩
  refine wl_call Try.func60 rfl rfl rfl (chunkW_any 16 m f G _ (by omega)) rfl ?_
  rintro e w6 ⟨b1, b2, rfl, hb1, hb2, C1, C2, ex⟩
  refine ⟨_, rfl, ?_⟩
  replace E := E.ext ex
  replace H3 := H3.ext ex
  replace H5 := H5.ext ex
  replace B11 := B11.ext ex
  replace B12 := B12.ext ex
  replace B27 := B27.ext ex
  obtain ⟨M, hM⟩ : ∃ M, M = (m + 15) / 16 := ⟨_, rfl⟩; have hq1 := C1.lt; have hq2 := C2.lt; have hy : ok (0, 0) := (show ok (0, 0) from ⟨by omega, by omega⟩)
  refine wl_nil ?_
  refine wq_then_norm (hK11 ?_)
  refine wc_block ?_
  refine wc_rangeI (n := 4) (S := fun xs => xs = List.finRange M) (by omega) rfl (enters Try.func80 rfl rfl) (chunk_stopsW 3 ga oa f 16 m M b1 b2 G _ (by omega) hA (by omega) (by omega) (by omega) (by intro j hj; omega) C1 C2) KpB.trans (fun W l o o' hl ho _ _ => kpb_put W l o o' (by omega) (by omega) ho) (fun pre W => Blk W gB12 77 (pv (abL H ms (0, 0) (pre.map (·.val))).1 (abL H ms (0, 0) (pre.map (·.val))).2) ∧ Blk W gB11 77 (pv H.1 H.2) ∧ Blk W g27 22 #[.slice G m f, .slice C n e] ∧ Below w.heap.size w W ∧ w6.heap.size ≤ W.heap.size ∧ True) (OwnFrom.and own_blk (OwnFrom.and own_blk (OwnFrom.and own_blk (OwnFrom.and (ownFrom_below (Nat.le_refl _) (by omega)) (OwnFrom.and own_size own_true))))) ⟨B12, B11, B27, E, Nat.le_refl _, trivial⟩ rfl rfl ?_ ?_
  · intro kR Q2 pre v W2 ⟨B12, B11, B27, E, hz, HD1⟩ hl hout
    have hv := v.isLt
    obtain ⟨j, hj⟩ : ∃ j, j = v.val := ⟨_, rfl⟩
    obtain ⟨e1, he1⟩ : ∃ e1, e1 = min 16 (m - 16 * j) := ⟨_, rfl⟩
    have hjn : 16 * j < m := by omega
    obtain rfl := hA (by omega)
    have hpw : pieceW ga oa 16 m v.val = .slice (some ⟨ga, oa + 16 * j, none⟩) e1 e1 := by unfold pieceW; rw [he1, hj]
    rw [hpw]
    have HP := take_cell (HG.wk E) j e1 he1
    have hpl := HP.1
    obtain ⟨y, hyy⟩ : ∃ y, y = abL H ms (0, 0) (pre.map (·.val)) := ⟨_, rfl⟩
    have hyo : ok y := by rw [hyy]; exact abL_ok hhk _ _ hy
    rw [← hyy] at B12
    have XW := Ext.refl W2
    refine wr_seq ?_; intro K12 hK12
    refine wr_region ?_
    refine wl_ef (ef_make (n := 16) (z := .int .u8 0) (bytes := 1) rfl rfl Try.underlying22 (by kernel_rfl) rfl rfl rfl rfl (by omega) (by omega)) rfl ?_
    rintro _ w7 ⟨g16, rfl, D16, hg16, ex⟩
    replace B12 := B12.ext ex
    replace B11 := B11.ext ex
    replace B27 := B27.ext ex
    replace E := E.ext ex
    replace HP := HP.ext ex
    replace XW := XW.ext ex
    replace D16 := D16.congr (cs' := bys (List.replicate 16 0)) (by kernel_rfl)
    refine wl_y (y_assign rfl) rfl ?_
    refine wl_nil ?_
    refine wq_then_norm (hK12 ?_)
    refine wr_seq ?_; intro K13 hK13
    refine wr_region ?_
    refine wl_y (y_move rfl) rfl ?_
    refine wl_y (y_move rfl) rfl ?_
    refine wl_ef (ef_copy (o := 0) rfl rfl Try.underlying22 (by kernel_rfl) D16 HP.2 (by rw [List.length_map, hpl]; exact (Nat.min_eq_left (by omega)).symm) (by rw [List.length_map, hpl, bys_size, List.length_replicate]; omega) (by intro u hu; exact bv_one u hu)) rfl ?_
    rintro _ w8 ⟨rfl, D8, cg⟩
    replace B12 := B12.chg cg (by omega); replace B11 := B11.chg cg (by omega); replace B27 := B27.chg cg (by omega); replace E := E.chg cg (by omega); replace XW := XW.chg cg hg16; rw [pad_cells] at D8; have HW := bs_blk' D8 (pad_length (by omega))
    refine wl_nil ?_
    refine wq_then_norm (hK13 ?_)
    refine wr_draw (by kernel_rfl) 7 rfl ?_; intro wd11 ex hd11
    replace B12 := B12.ext ex
    replace B11 := B11.ext ex
    replace B27 := B27.ext ex
    replace E := E.ext ex
    replace XW := XW.ext ex
    replace HW := HW.ext ex
    refine wm_y 0 rfl (by kernel_rfl) (y_loadx (o := 0) (s := 2) rfl Try.underlying77 rfl (by kernel_rfl) B12 rfl) rfl ?_
    refine wm_z 1 rfl (by kernel_rfl) (fun _ => y_move rfl) rfl ?_
    refine wm_y 4 rfl (by kernel_rfl) (y_loadx (o := 0) (s := 2) rfl Try.underlying77 rfl (by kernel_rfl) B11 rfl) rfl ?_
    refine wm_one 2 (by kernel_rfl) ?_; refine om_call rfl Try.func59 rfl rfl rfl (pairOf_any _ HW) rfl ?_
    rintro e w9 ⟨rfl, ex⟩
    refine ⟨_, rfl, .inr ex, ?_⟩
    replace B12 := B12.ext ex
    replace B11 := B11.ext ex
    replace B27 := B27.ext ex
    replace E := E.ext ex
    replace XW := XW.ext ex
    replace HW := HW.ext ex
    skip
    refine wm_one 3 (by kernel_rfl) ?_; refine om_call rfl Try.func61 rfl rfl rfl (pxor_any _ _ _ _ hyo.1 hyo.2 (pf_lt _ _) (ps_lt _ _) _) rfl ?_
    rintro e w10 ⟨rfl, ex⟩
    refine ⟨_, rfl, .inr ex, ?_⟩
    replace B12 := B12.ext ex
    replace B11 := B11.ext ex
    replace B27 := B27.ext ex
    replace E := E.ext ex
    replace XW := XW.ext ex
    replace HW := HW.ext ex
    skip
    refine wm_one 5 (by kernel_rfl) ?_; refine om_call rfl Try.func62 rfl rfl rfl (ptimes_any _ _ _ _ (x64 hyo.1 (pf_lt _ _)) (x64 hyo.2 (ps_lt _ _)) hhk.1 hhk.2 _) rfl ?_
    rintro e w11 ⟨rfl, ex⟩
    refine ⟨_, rfl, .inr ex, ?_⟩
    replace B12 := B12.ext ex
    replace B11 := B11.ext ex
    replace B27 := B27.ext ex
    replace E := E.ext ex
    replace XW := XW.ext ex
    replace HW := HW.ext ex
    skip
    refine wm_one 6 (by kernel_rfl) ?_; refine om_ef rfl (ef_storeP (o := 0) rfl rfl (by kernel_rfl) B12 (Nat.le_of_ble_eq_true rfl) (all_ones rfl)) rfl ?_
    rintro _ w12 ⟨rfl, D12, cg⟩
    refine ⟨.inl rfl, ?_⟩
    have Cz := (Chs.of XW [gB12]).chs (Chs.one cg)
    refine wm_done (by kernel_rfl) ?_
    refine wq_nop ?_
    have hz9 := Cz.size
    have hcz := Chs.one cg
    refine hout (keeps_chs Cz (by simp; omega)) (kpb_chs Cz (by omega) (by omega) (by simp; omega) (by simp; omega)) ⟨?_, B11.chs hcz (by simp; omega), B27.chs hcz (by simp; omega), E.chsN hcz (by simp; omega), by omega, trivial⟩
    rw [List.map_append, List.map_singleton, abL_snoc, ← hyy, ← hj]
    exact D12.congr rfl
  · intro D1 xs2 W2 hD1 hS2 ⟨B12, B11, B27, E, hz, HD0⟩ hKD
    obtain rfl := hS2
    have hfin : ((List.finRange M).map (·.val)) = List.range M := List.ext_getElem (by simp) (fun i h1 h2 => by simp)
    rw [hfin, hM, ← hml] at B12
    obtain ⟨y0, hy0⟩ : ∃ y0, y0 = ab H ms (0, 0) := ⟨_, rfl⟩
    have hyo : ok y0 := by rw [hy0]; exact abL_ok hhk _ _ (show ok (0, 0) from ⟨by omega, by omega⟩)
    rw [show abL H ms (0, 0) (List.range ((ms.length + 15) / 16)) = y0 from hy0.symm] at B12
    have HD1 : Dfr W2 D1 := hKD
    have hd1 := HD1.lt
    have hd2 : gB12 < D1 := by omega
    have hz6 : w5.heap.size ≤ W2.heap.size := by omega
    refine wq_blk_norm ?_
    refine wq_blk_norm ?_
    refine wq_then_norm (hK9 ?_)
    refine wc_region ?_
    refine wl_y (y_add rfl rfl (i64_ok (by omega) (by omega))) rfl ?_
    refine wl_y (y_move rfl) rfl ?_
    refine wl_nil ?_
    refine wq_then_norm (hKU1_1 ?_)
    refine wlr_succ ?_; intro KU1_2 hKU1_2
    refine wc_seq ?_; intro K14 hK14
    refine wc_region ?_
    refine wl_y (Y.as (y_lss rfl rfl) (congrArg Value.bool (decide_eq_true (by omega)))) rfl ?_
    refine wl_nil ?_
    refine wq_then_norm (hK14 ?_)
    refine wc_seq ?_; intro K15 hK15
    refine wc_true rfl rfl ?_
    refine wc_skip ?_
    refine wq_then_norm (hK15 ?_)
    refine wc_seq ?_; intro K16 hK16
    refine wc_block ?_
    refine wc_seq ?_; intro K17 hK17
    refine wc_region ?_
    refine wl_y (y_ixs1 rfl rfl Try.underlying79 (by kernel_rfl) (j := 1) rfl (by omega)) rfl ?_
    refine wl_y (y_load1 rfl Try.underlying22 rfl (B27.get (i := 1) rfl)) rfl ?_
    refine wl_y (y_assign rfl) rfl ?_
    refine wl_nil ?_
    refine wq_then_norm (hK17 ?_)
    refine wc_seq ?_; intro K18 hK18
    refine wc_region ?_
    refine wl_y (y_move rfl) rfl ?_
    obtain ⟨ga, oa, hA⟩ : ∃ g o, 0 < n → C = some ⟨g, o, none⟩ := by
      rcases Nat.eq_zero_or_pos n with h | h
      · exact ⟨0, 0, fun h' => by omega⟩
      · obtain ⟨g, o, h1, _⟩ := HC.get (k := 0) h
        exact ⟨g, o, fun _ => h1⟩
    refine wl_call Try.func60 rfl rfl rfl (chunkW_any 16 n e C _ (by omega)) rfl ?_
    rintro e w6 ⟨b1, b2, rfl, hb1, hb2, C1, C2, ex⟩
    refine ⟨_, rfl, ?_⟩
    replace B12 := B12.ext ex
    replace B11 := B11.ext ex
    replace B27 := B27.ext ex
    replace E := E.ext ex
    replace HD1 := HD1.ext ex
    obtain ⟨M, hM⟩ : ∃ M, M = (n + 15) / 16 := ⟨_, rfl⟩; have hq1 := C1.lt; have hq2 := C2.lt; have hy : ok y0 := hyo
    refine wl_nil ?_
    refine wq_then_norm (hK18 ?_)
    refine wc_block ?_
    refine wc_rangeI (n := 4) (S := fun xs => xs = List.finRange M) (by omega) rfl (enters Try.func80 rfl rfl) (chunk_stopsW 3 ga oa e 16 n M b1 b2 C _ (by omega) hA (by omega) (by omega) (by omega) (by intro j hj; omega) C1 C2) KpB.trans (fun W l o o' hl ho _ _ => kpb_put W l o o' (by omega) (by omega) ho) (fun pre W => Blk W gB12 77 (pv (abL H ss y0 (pre.map (·.val))).1 (abL H ss y0 (pre.map (·.val))).2) ∧ Blk W gB11 77 (pv H.1 H.2) ∧ Blk W g27 22 #[.slice G m f, .slice C n e] ∧ Below w.heap.size w W ∧ w6.heap.size ≤ W.heap.size ∧ Dfr W D1) (OwnFrom.and own_blk (OwnFrom.and own_blk (OwnFrom.and own_blk (OwnFrom.and (ownFrom_below (Nat.le_refl _) (by omega)) (OwnFrom.and own_size (own_dfr (by omega))))))) ⟨B12, B11, B27, E, Nat.le_refl _, HD1⟩ rfl rfl ?_ ?_
    · intro kR Q2 pre v W2 ⟨B12, B11, B27, E, hz, HD1⟩ hl hout
      have hv := v.isLt
      obtain ⟨j, hj⟩ : ∃ j, j = v.val := ⟨_, rfl⟩
      obtain ⟨e1, he1⟩ : ∃ e1, e1 = min 16 (n - 16 * j) := ⟨_, rfl⟩
      have hjn : 16 * j < n := by omega
      obtain rfl := hA (by omega)
      have hpw : pieceW ga oa 16 n v.val = .slice (some ⟨ga, oa + 16 * j, none⟩) e1 e1 := by unfold pieceW; rw [he1, hj]
      rw [hpw]
      have HP := take_cell (HC.wk E) j e1 he1
      have hpl := HP.1
      obtain ⟨y, hyy⟩ : ∃ y, y = abL H ss y0 (pre.map (·.val)) := ⟨_, rfl⟩
      have hyo : ok y := by rw [hyy]; exact abL_ok hhk _ _ hy
      rw [← hyy] at B12
      have XW := Ext.refl W2
      refine wr_seq ?_; intro K19 hK19
      refine wr_region ?_
      refine wl_ef (ef_make (n := 16) (z := .int .u8 0) (bytes := 1) rfl rfl Try.underlying22 (by kernel_rfl) rfl rfl rfl rfl (by omega) (by omega)) rfl ?_
      rintro _ w7 ⟨g16, rfl, D16, hg16, ex⟩
      replace B12 := B12.ext ex
      replace B11 := B11.ext ex
      replace B27 := B27.ext ex
      replace E := E.ext ex
      replace HP := HP.ext ex
      replace XW := XW.ext ex
      replace D16 := D16.congr (cs' := bys (List.replicate 16 0)) (by kernel_rfl)
      refine wl_y (y_assign rfl) rfl ?_
      refine wl_nil ?_
      refine wq_then_norm (hK19 ?_)
      refine wr_seq ?_; intro K20 hK20
      refine wr_region ?_
      refine wl_y (y_move rfl) rfl ?_
      refine wl_y (y_move rfl) rfl ?_
      refine wl_ef (ef_copy (o := 0) rfl rfl Try.underlying22 (by kernel_rfl) D16 HP.2 (by rw [List.length_map, hpl]; exact (Nat.min_eq_left (by omega)).symm) (by rw [List.length_map, hpl, bys_size, List.length_replicate]; omega) (by intro u hu; exact bv_one u hu)) rfl ?_
      rintro _ w8 ⟨rfl, D8, cg⟩
      replace B12 := B12.chg cg (by omega); replace B11 := B11.chg cg (by omega); replace B27 := B27.chg cg (by omega); replace E := E.chg cg (by omega); replace XW := XW.chg cg hg16; rw [pad_cells] at D8; have HW := bs_blk' D8 (pad_length (by omega))
      refine wl_nil ?_
      refine wq_then_norm (hK20 ?_)
      refine wr_draw (by kernel_rfl) 7 rfl ?_; intro wd11 ex hd11
      replace B12 := B12.ext ex
      replace B11 := B11.ext ex
      replace B27 := B27.ext ex
      replace E := E.ext ex
      replace XW := XW.ext ex
      replace HW := HW.ext ex
      refine wm_y 0 rfl (by kernel_rfl) (y_loadx (o := 0) (s := 2) rfl Try.underlying77 rfl (by kernel_rfl) B12 rfl) rfl ?_
      refine wm_z 1 rfl (by kernel_rfl) (fun _ => y_move rfl) rfl ?_
      refine wm_y 4 rfl (by kernel_rfl) (y_loadx (o := 0) (s := 2) rfl Try.underlying77 rfl (by kernel_rfl) B11 rfl) rfl ?_
      refine wm_one 2 (by kernel_rfl) ?_; refine om_call rfl Try.func59 rfl rfl rfl (pairOf_any _ HW) rfl ?_
      rintro e w9 ⟨rfl, ex⟩
      refine ⟨_, rfl, .inr ex, ?_⟩
      replace B12 := B12.ext ex
      replace B11 := B11.ext ex
      replace B27 := B27.ext ex
      replace E := E.ext ex
      replace XW := XW.ext ex
      replace HW := HW.ext ex
      skip
      refine wm_one 3 (by kernel_rfl) ?_; refine om_call rfl Try.func61 rfl rfl rfl (pxor_any _ _ _ _ hyo.1 hyo.2 (pf_lt _ _) (ps_lt _ _) _) rfl ?_
      rintro e w10 ⟨rfl, ex⟩
      refine ⟨_, rfl, .inr ex, ?_⟩
      replace B12 := B12.ext ex
      replace B11 := B11.ext ex
      replace B27 := B27.ext ex
      replace E := E.ext ex
      replace XW := XW.ext ex
      replace HW := HW.ext ex
      skip
      refine wm_one 5 (by kernel_rfl) ?_; refine om_call rfl Try.func62 rfl rfl rfl (ptimes_any _ _ _ _ (x64 hyo.1 (pf_lt _ _)) (x64 hyo.2 (ps_lt _ _)) hhk.1 hhk.2 _) rfl ?_
      rintro e w11 ⟨rfl, ex⟩
      refine ⟨_, rfl, .inr ex, ?_⟩
      replace B12 := B12.ext ex
      replace B11 := B11.ext ex
      replace B27 := B27.ext ex
      replace E := E.ext ex
      replace XW := XW.ext ex
      replace HW := HW.ext ex
      skip
      refine wm_one 6 (by kernel_rfl) ?_; refine om_ef rfl (ef_storeP (o := 0) rfl rfl (by kernel_rfl) B12 (Nat.le_of_ble_eq_true rfl) (all_ones rfl)) rfl ?_
      rintro _ w12 ⟨rfl, D12, cg⟩
      refine ⟨.inl rfl, ?_⟩
      have Cz := (Chs.of XW [gB12]).chs (Chs.one cg)
      refine wm_done (by kernel_rfl) ?_
      refine wq_nop ?_
      have hz9 := Cz.size
      have hcz := Chs.one cg
      refine hout (keeps_chs Cz (by simp; omega)) (kpb_chs Cz (by omega) (by omega) (by simp; omega) (by simp; omega)) ⟨?_, B11.chs hcz (by simp; omega), B27.chs hcz (by simp; omega), E.chsN hcz (by simp; omega), by omega, HD1.chs Cz (by simp; omega)⟩
      rw [List.map_append, List.map_singleton, abL_snoc, ← hyy, ← hj]
      exact D12.congr rfl
    · intro D2 xs2 W2 hD2 hS2 ⟨B12, B11, B27, E, hz, HD0⟩ hKD
      obtain rfl := hS2
      have hfin : ((List.finRange M).map (·.val)) = List.range M := List.ext_getElem (by simp) (fun i h1 h2 => by simp)
      rw [hfin, hM, ← hsl] at B12
      rw [show abL H ss y0 (List.range ((ss.length + 15) / 16)) = ab H ss y0 from rfl] at B12
      have HD2 : Dfr W2 D2 := hKD
      replace HD1 : Dfr W2 D1 := HD0
      have hne : D2 ≠ D1 := by omega
      refine wq_blk_norm ?_
      refine wq_blk_norm ?_
      refine wq_then_norm (hK16 ?_)
      refine wc_region ?_
      refine wl_y (y_add rfl rfl (i64_ok (by omega) (by omega))) rfl ?_
      refine wl_y (y_move rfl) rfl ?_
      refine wl_nil ?_
      refine wq_then_norm (hKU1_2 ?_)
      refine wlr_succ ?_; intro KU1_3 hKU1_3
      refine wc_seq ?_; intro K21 hK21
      refine wc_region ?_
      refine wl_y (Y.as (y_lss rfl rfl) (congrArg Value.bool (decide_eq_false (by omega)))) rfl ?_
      refine wl_nil ?_
      refine wq_then_norm (hK21 ?_)
      refine wc_seq ?_; intro K22 hK22
      refine wc_false rfl rfl ?_
      refine wc_exit ?_
      refine wq_then_exit ?_
      refine wq_then_exit ?_
      refine wq_blk_hit ?_
      refine wq_then_norm (hK5 ?_)
      refine wc_seq ?_; intro K23 hK23
      obtain ⟨y, hyy⟩ : ∃ y, y = ab H ss y0 := ⟨_, rfl⟩
      have hyo : ok y := by rw [hyy]; exact abL_ok hhk _ _ hyo
      have hlo : ok (lst H y m n) := mul_ok _ _ hhk
      rw [← hyy] at B12
      refine wc_draw (by kernel_rfl) 14 rfl ?_; intro wd13 ex hd13
      replace B12 := B12.ext ex
      replace B11 := B11.ext ex
      replace B27 := B27.ext ex
      replace E := E.ext ex
      replace HD1 := HD1.ext ex
      replace HD2 := HD2.ext ex
      refine wm_y 0 rfl (by kernel_rfl) (y_loadx (o := 0) (s := 2) rfl Try.underlying77 rfl (by kernel_rfl) B12 rfl) rfl ?_
      refine wm_z 1 rfl (by kernel_rfl) (fun _ => y_move rfl) rfl ?_
      refine wm_y 2 rfl (by kernel_rfl) (y_len_slice rfl Try.underlying22) rfl ?_
      refine wm_y 3 rfl (by kernel_rfl) (y_conv rfl Try.underlying3 Try.underlying52 (show _ = ((m : Nat) : Int) from IntWalk.u64_in _ ⟨by omega, by omega⟩)) rfl ?_
      refine wm_z 4 rfl (by kernel_rfl) (fun _ => y_mul rfl rfl (show _ = ((m * 8 : Nat) : Int) from IntWalk.u64_in _ ⟨by omega, by omega⟩)) rfl ?_
      refine wm_z 5 rfl (by kernel_rfl) (fun _ => y_move rfl) rfl ?_
      refine wm_y 6 rfl (by kernel_rfl) (y_len_slice rfl Try.underlying22) rfl ?_
      refine wm_y 7 rfl (by kernel_rfl) (y_conv rfl Try.underlying3 Try.underlying52 (show _ = ((n : Nat) : Int) from IntWalk.u64_in _ ⟨by omega, by omega⟩)) rfl ?_
      refine wm_z 8 rfl (by kernel_rfl) (fun _ => y_mul rfl rfl (show _ = ((n * 8 : Nat) : Int) from IntWalk.u64_in _ ⟨by omega, by omega⟩)) rfl ?_
      refine wm_z 9 rfl (by kernel_rfl) (fun _ => y_build rfl (cells := pv (m * 8) (n * 8)) (by kernel_rfl)) rfl ?_
      refine wm_y 11 rfl (by kernel_rfl) (y_loadx (o := 0) (s := 2) rfl Try.underlying77 rfl (by kernel_rfl) B11 rfl) rfl ?_
      refine wm_one 10 (by kernel_rfl) ?_; refine om_call rfl Try.func61 rfl rfl rfl (pxor_any y.1 y.2 (m * 8) (n * 8) hyo.1 hyo.2 (by omega) (by omega) _) rfl ?_
      rintro e w10 ⟨rfl, ex⟩
      refine ⟨_, rfl, .inr ex, ?_⟩
      replace B12 := B12.ext ex
      replace B11 := B11.ext ex
      replace B27 := B27.ext ex
      replace E := E.ext ex
      replace HD1 := HD1.ext ex
      replace HD2 := HD2.ext ex
      skip
      refine wm_one 12 (by kernel_rfl) ?_; refine om_call rfl Try.func62 rfl rfl rfl (ptimes_any (y.1 ^^^ m * 8) (y.2 ^^^ n * 8) H.1 H.2 (x64 hyo.1 (by omega)) (x64 hyo.2 (by omega)) hhk.1 hhk.2 _) rfl ?_
      rintro e w11 ⟨rfl, ex⟩
      refine ⟨_, rfl, .inr ex, ?_⟩
      replace B12 := B12.ext ex
      replace B11 := B11.ext ex
      replace B27 := B27.ext ex
      replace E := E.ext ex
      replace HD1 := HD1.ext ex
      replace HD2 := HD2.ext ex
      skip
      refine wm_one 13 (by kernel_rfl) ?_; refine om_ef rfl (ef_storeP (o := 0) rfl rfl (by kernel_rfl) B12 (Nat.le_of_ble_eq_true rfl) (all_ones rfl)) rfl ?_
      rintro _ w12 ⟨rfl, D12, cg⟩
      refine ⟨.inl rfl, ?_⟩
      have hcz := Chs.one cg; replace HD1 := HD1.chs hcz (by simp; omega); replace HD2 := HD2.chs hcz (by simp; omega); replace E := E.chg cg (by omega); replace B12 := D12.congr (cs' := pv (lst H y m n).1 (lst H y m n).2) rfl
      refine wm_done (by kernel_rfl) ?_
      refine wq_nop ?_
      refine wq_then_norm (hK23 ?_)
      refine wc_seq ?_; intro K24 hK24
      refine wc_draw (by kernel_rfl) 8 rfl ?_; intro wd14 ex hd14
      replace B12 := B12.ext ex
      replace E := E.ext ex
      replace HD1 := HD1.ext ex
      replace HD2 := HD2.ext ex
      refine wm_y 0 rfl (by kernel_rfl) (y_loadx (o := 0) (s := 2) rfl Try.underlying77 rfl (by kernel_rfl) B12 rfl) rfl ?_
      refine wm_y 1 rfl (by kernel_rfl) (y_move rfl) rfl ?_
      refine wm_y 2 rfl (by kernel_rfl) (y_move rfl) rfl ?_
      refine wm_one 3 (by kernel_rfl) ?_; refine om_call rfl Try.func63 rfl rfl rfl (gmask_any (n := 1) _ (HA.wk E) (HB.wk E)) rfl ?_
      rintro e w13 ⟨A13, c13, rfl, R13, ex⟩
      refine ⟨_, rfl, .inr ex, ?_⟩
      replace B12 := B12.ext ex
      replace E := E.ext ex
      replace HD1 := HD1.ext ex
      replace HD2 := HD2.ext ex
      have H13 := R13.bs
      refine wm_one 4 (by kernel_rfl) ?_; refine om_call rfl Try.func59 rfl rfl rfl (pairOf_any _ H13) rfl ?_
      rintro e w14 ⟨rfl, ex⟩
      refine ⟨_, rfl, .inr ex, ?_⟩
      replace B12 := B12.ext ex
      replace E := E.ext ex
      replace HD1 := HD1.ext ex
      replace HD2 := HD2.ext ex
      replace H13 := H13.ext ex
      skip
      refine wm_one 5 (by kernel_rfl) ?_; refine om_call rfl Try.func61 rfl rfl rfl (pxor_any _ _ _ _ hlo.1 hlo.2 (pf_lt _ _) (ps_lt _ _) _) rfl ?_
      rintro e w15 ⟨rfl, ex⟩
      refine ⟨_, rfl, .inr ex, ?_⟩
      replace B12 := B12.ext ex
      replace E := E.ext ex
      replace HD1 := HD1.ext ex
      replace HD2 := HD2.ext ex
      replace H13 := H13.ext ex
      have hz15 := E.size
      refine wm_one 6 (by kernel_rfl) ?_; refine om_call rfl Try.func64 rfl rfl rfl (pbytes_any _ _ _) rfl ?_
      rintro e w16 ⟨g16, rfl, hg16, D16, ex⟩
      refine ⟨_, rfl, .inr ex, ?_⟩
      replace B12 := B12.ext ex
      replace E := E.ext ex
      replace HD1 := HD1.ext ex
      replace HD2 := HD2.ext ex
      replace H13 := H13.ext ex
      have hz16 := E.size
      refine wm_y 7 rfl (by kernel_rfl) (y_assign rfl) rfl ?_
      refine wm_done (by kernel_rfl) ?_
      refine wq_nop ?_
      refine wq_then_norm (hK24 ?_)
      refine wc_ret ?_
      refine hretDD rfl HD2 HD1 hne ?_
      have hT : tag key nn ss ms = pb ((lst H y m n).1 ^^^ pf (msk key nn 1) 16) ((lst H y m n).2 ^^^ ps (msk key nn 1) 16) 8 := by
        unfold tag; rw [← hH, ← hy0, ← hyy, hml, hsl]
      rw [hT]
      have hl2 := HD2.lt
      have hPl := pb_length ((lst H y m n).1 ^^^ pf (msk key nn 1) 16) ((lst H y m n).2 ^^^ ps (msk key nn 1) 16) 8
      obtain ⟨P, hP⟩ : ∃ P, P = pb ((lst H y m n).1 ^^^ pf (msk key nn 1) 16) ((lst H y m n).2 ^^^ ps (msk key nn 1) 16) 8 := ⟨_, rfl⟩
      rw [← hP] at D16 hPl ⊢
      have RB : Row w16 w.heap.size 5 (some ⟨g16, 0, none⟩) 16 16 (P.map bv) := Row.new D16 (base := w.heap.size) (by omega) (by show (bys P).size = 16; rw [bys_size, hPl]) (by unfold maxLen; omega)
      have hDw1 : w.heap.size ≤ D1 := by omega
      have hDw2 : w.heap.size ≤ D2 := by omega
      have HD1' : ((w16.putObj D2 (.deferred none)).heap)[D1]? = some (.deferred (some [])) := (World.putObj_heap_other (Ne.symm hne)).trans HD1
      exact ⟨_, 16, rfl, ownsRow_putObj (ownsRow_putObj RB _ HD2 rfl) _ HD1' rfl, (E.trans (belowK_b (w := w) (Nat.le_refl _) w16 D2 _ _ hDw2 HD2 rfl rfl)).trans (belowK_b (w := w) (Nat.le_refl _) _ D1 _ _ hDw1 HD1' rfl rfl)⟩
end Go.Proofs.Ytjllhimhiekchaa
