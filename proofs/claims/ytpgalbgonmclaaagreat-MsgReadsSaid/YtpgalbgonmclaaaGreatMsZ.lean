/- What the message layer's reader takes: contexts and messages; bytes as a whole. No conditions: contracts of the program's functions. -/
import Derived.Test.YtpgalbgonmclaaaGreatMsY
namespace Go.Proofs.YtpgalbgonmclaaaGreat
open Go.RowKit
attribute [local irreducible] Y Ef WL WC WK WQ WM OpM WN WF OpN WJ OpJ
open Wire Nd M20
section
variable {N gi gr : Nat} {S : List Nat} {s : St}
theorem mess_two {g : List UInt8 × St} {e f k : Nat × St} (hg : g = vecX (justX 2 1 (justX 2 1 s))) (he : e = numX 8 g.2) (hf : f = numX 4 (justX 1 1 e.2)) (hk : k = numX 1 f.2) (h : k.1 = 2) :
    messX s = (⟨g.1, e.1, (f.1 : Int), 2, (propX k.2).1, Com20.zero, (vecX (propX k.2).2).1, [], (vecX (vecX (propX k.2).2).2).1⟩, (vecX (vecX (propX k.2).2).2).2) := by
  have hF : frmX (justX 2 1 (justX 2 1 s)) = (⟨g.1, e.1, (f.1 : Int), 2, (propX k.2).1, Com20.zero, [], [], []⟩, (propX k.2).2) := by
    unfold frmX; dsimp only; rw [← hg, ← he, ← hf, ← hk, if_pos h]
  unfold messX; dsimp only; rw [hF]; dsimp only; rw [if_neg (show ¬ (2 : Nat) = 3 by decide)]
theorem mess_three {g : List UInt8 × St} {e f k : Nat × St} (hg : g = vecX (justX 2 1 (justX 2 1 s))) (he : e = numX 8 g.2) (hf : f = numX 4 (justX 1 1 e.2)) (hk : k = numX 1 f.2) (h : k.1 = 3) :
    messX s = (⟨g.1, e.1, (f.1 : Int), 3, Prop20.zero, (comX k.2).1, (vecX (comX k.2).2).1, (vecX (vecX (comX k.2).2).2).1, (vecX (vecX (vecX (comX k.2).2).2).2).1⟩, (vecX (vecX (vecX (comX k.2).2).2).2).2) := by
  have hF : frmX (justX 2 1 (justX 2 1 s)) = (⟨g.1, e.1, (f.1 : Int), 3, Prop20.zero, (comX k.2).1, [], [], []⟩, (comX k.2).2) := by
    unfold frmX; dsimp only; rw [← hg, ← he, ← hf, ← hk, if_neg (by omega), if_pos h]
  unfold messX; dsimp only; rw [hF]; dsimp only; rw [if_pos rfl]
theorem mess_no {g : List UInt8 × St} {e f k : Nat × St} (hg : g = vecX (justX 2 1 (justX 2 1 s))) (he : e = numX 8 g.2) (hf : f = numX 4 (justX 1 1 e.2)) (hk : k = numX 1 f.2) (h2 : k.1 ≠ 2) (h3 : k.1 ≠ 3) :
    messX s = (⟨g.1, e.1, (f.1 : Int), k.1, Prop20.zero, Com20.zero, (vecX (badX k.2)).1, [], (vecX (vecX (badX k.2)).2).1⟩, (vecX (vecX (badX k.2)).2).2) := by
  have hF : frmX (justX 2 1 (justX 2 1 s)) = (⟨g.1, e.1, (f.1 : Int), k.1, Prop20.zero, Com20.zero, [], [], []⟩, badX k.2) := by
    unfold frmX; dsimp only; rw [← hg, ← he, ← hf, ← hk, if_neg h2, if_neg h3]
  unfold messX; dsimp only; rw [hF]; dsimp only; rw [if_neg h3]
def zComV : Array Value := comV nilH false nilH nilH nilH 0 nilH nilH nilH
theorem ComF.zero (base : Nat) (w : World) : ComF base w zComV Com20.zero := ⟨_, _, _, _, _, _, _, _, rfl, ElsF.nil _ _ _ _ _, ⟨_, _, _, _, _, _, _, rfl, LeafF.zero _ _, ElsF.nil _ _ _ _ _⟩⟩
theorem imess_any (w : World) (H0 : In N S w gi gr s) (hS : ∀ k ∈ S, k < w.heap.size) (hN : N ≤ w.heap.size) :
    Calls Tryz.prog 51 #[.pointer (some ⟨gi, 0, none⟩)] w fun e w' => ∃ cs, e = .returned (.agg cs) ∧ MsgF w.heap.size w' cs (messX s).1 ∧ In N S w' gi gr (messX s).2 ∧ Chs [gr, gi] w w' := by
  have F := Chs.refl [gr, gi] w
  have hmi := H0.memi
  have hmr := H0.memr
  have hli := H0.lti
  have hlr := H0.ltr
  have H := H0
  obtain ⟨g, hg⟩ : ∃ g, g = vecX (justX 2 1 (justX 2 1 s)) := ⟨_, rfl⟩
  obtain ⟨e, he⟩ : ∃ e, e = numX 8 g.2 := ⟨_, rfl⟩
  obtain ⟨f, hf⟩ : ∃ f, f = numX 4 (justX 1 1 e.2) := ⟨_, rfl⟩
  obtain ⟨k, hk⟩ : ∃ k, k = numX 1 f.2 := ⟨_, rfl⟩
  have he8 : e.1 < 18446744073709551616 := by rw [he]; exact numX_lt 8 _
  have hf4 : f.1 < 4294967296 := by rw [hf]; exact numX_lt 4 _
  have hk8 : k.1 < 256 := by rw [hk]; exact numX_lt 1 _
  refine vc_enterc1 (s := 32) 50 Tryz.func51 rfl rfl rfl Tryz.underlying55 rfl (by kernel_rfl) rfl ?_
  intro Q hret
  refine wc_seq ?_; intro K1 hK1
  refine wc_region ?_
  refine wl_ef (ef_alloc (Z := #[.slice none 0 0, .int .u64 0, .int .i64 0, .int .u8 0, .int .u8 0, .slice none 0 0, .slice none 0 0, .slice none 0 0, .slice none 0 0, .int .u8 0, .slice none 0 0, .slice none 0 0, .slice none 0 0, .slice none 0 0, .slice none 0 0, .slice none 0 0, .int .u8 0, .slice none 0 0, .slice none 0 0, .int .i64 0, .slice none 0 0, .bool false, .slice none 0 0, .slice none 0 0, .slice none 0 0, .int .u8 0, .slice none 0 0, .slice none 0 0, .slice none 0 0, .slice none 0 0, .slice none 0 0, .slice none 0 0]) (by kernel_rfl)) rfl ?_
  rintro _ wB2 ⟨gB2, rfl, B2, hgB2, ex⟩
  have lB2 := B2.lt; have zB2 := ex.size
  replace F := F.grow ex hgB2
  replace H := H.grow ex hgB2
  refine wl_nil ?_
  refine wq_then_norm (hK1 ?_)
  refine wc_seq ?_; intro K2 hK2
  refine wc_region ?_
  refine wl_y (y_move rfl) rfl ?_
  refine wl_call Tryz.func71 rfl rfl rfl (ijust_any 2 1 2 1 rfl rfl _ (by omega) H) rfl ?_
  rintro e w1 ⟨rfl, H1, ex⟩
  refine ⟨_, rfl, ?_⟩
  replace F := F.chs ex
  replace B2 := B2.chs ex
  refine wl_nil ?_
  refine wq_then_norm (hK2 ?_)
  refine wc_seq ?_; intro K3 hK3
  refine wc_region ?_
  refine wl_y (y_move rfl) rfl ?_
  refine wl_call Tryz.func71 rfl rfl rfl (ijust_any 2 1 2 1 rfl rfl _ (by omega) H1) rfl ?_
  rintro e w2 ⟨rfl, H2, ex⟩
  refine ⟨_, rfl, ?_⟩
  replace F := F.chs ex
  replace B2 := B2.chs ex
  refine wl_nil ?_
  refine wq_then_norm (hK3 ?_)
  refine wc_seq ?_; intro K4 hK4
  refine wc_region ?_
  refine wl_y (y_move rfl) rfl ?_
  have q2 := B2.lt; have q4 := F.size
  refine wl_call Tryz.func74 rfl rfl rfl (ivec_any _ H2) rfl ?_
  rintro e w3 ⟨A1, n1, c1, rfl, hc1', V1, H3, ex⟩
  refine ⟨_, rfl, ?_⟩
  replace F := F.chs ex
  replace B2 := B2.chs ex
  rw [← hg] at H3 V1
  have J1 := V1.kk (S := [gB2, gr, gi]) (by simp; omega)
  refine wl_y (y_move rfl) rfl ?_
  refine wl_call Tryz.func83 rfl rfl rfl (inum_any 8 8 rfl _ (by omega) H3) rfl ?_
  rintro e w4 ⟨rfl, H4, ex⟩
  refine ⟨_, rfl, ?_⟩
  rw [← he] at H4 ⊢
  replace F := F.chs ex
  replace B2 := B2.chs ex
  replace J1 := J1.chs ex
  refine wl_y (y_build rfl (cells := msgV ⟨A1, n1, c1⟩ e.1 0 0 0 nilH nilH nilH nilH 0 nilH nilH nilH nilH nilH nilH 0 nilH nilH 0 nilH false nilH nilH nilH 0 nilH nilH nilH nilH nilH nilH) (by kernel_rfl)) rfl ?_
  refine wl_ef (ef_alloc (Z := #[.slice none 0 0, .int .u64 0, .int .i64 0, .int .u8 0, .int .u8 0, .slice none 0 0, .slice none 0 0, .slice none 0 0, .slice none 0 0, .int .u8 0, .slice none 0 0, .slice none 0 0, .slice none 0 0, .slice none 0 0, .slice none 0 0, .slice none 0 0, .int .u8 0, .slice none 0 0, .slice none 0 0, .int .i64 0, .slice none 0 0, .bool false, .slice none 0 0, .slice none 0 0, .slice none 0 0, .int .u8 0, .slice none 0 0, .slice none 0 0, .slice none 0 0, .slice none 0 0, .slice none 0 0, .slice none 0 0]) (by kernel_rfl)) rfl ?_
  rintro _ wB3 ⟨gB3, rfl, B3, hgB3, ex⟩
  have lB3 := B3.lt; have zB3 := ex.size
  have nB2_3 : gB2 < gB3 := Nat.lt_of_lt_of_le B2.lt hgB3
  replace F := F.grow ex hgB3
  replace B2 := B2.grow ex hgB3
  replace J1 := J1.grow ex hgB3
  replace H4 := H4.grow ex hgB3
  refine wl_ef (ef_storeP (o := 0) rfl rfl (by kernel_rfl) B3 (Nat.le_of_ble_eq_true rfl) (all_ones rfl)) rfl ?_
  rintro _ wS3_6 ⟨rfl, D, cg⟩
  have ex := Chs.one cg
  clear cg
  replace F := F.chs ex
  replace B2 := B2.chs ex
  replace J1 := J1.chs ex
  replace H4 := H4.chs ex
  replace B3 := D; clear D
  replace B3 := B3.congr (cs' := msgV ⟨A1, n1, c1⟩ e.1 0 0 0 nilH nilH nilH nilH 0 nilH nilH nilH nilH nilH nilH 0 nilH nilH 0 nilH false nilH nilH nilH 0 nilH nilH nilH nilH nilH nilH) rfl
  refine wl_nil ?_
  refine wq_then_norm (hK4 ?_)
  refine wc_seq ?_; intro K5 hK5
  refine wc_region ?_
  refine wl_y (y_move rfl) rfl ?_
  refine wl_call Tryz.func71 rfl rfl rfl (ijust_any 1 1 1 1 rfl rfl _ (by omega) H4) rfl ?_
  rintro e w5 ⟨rfl, H5, ex⟩
  refine ⟨_, rfl, ?_⟩
  replace F := F.chs ex
  replace B2 := B2.chs ex
  replace J1 := J1.chs ex
  replace B3 := B3.chs ex
  refine wl_nil ?_
  refine wq_then_norm (hK5 ?_)
  refine wc_seq ?_; intro K6 hK6
  refine wc_region ?_
  refine wl_y (y_move rfl) rfl ?_
  refine wl_call Tryz.func83 rfl rfl rfl (inum_any 4 4 rfl _ (by omega) H5) rfl ?_
  rintro e w6 ⟨rfl, H6, ex⟩
  refine ⟨_, rfl, ?_⟩
  rw [← hf] at H6 ⊢
  replace F := F.chs ex
  replace B2 := B2.chs ex
  replace J1 := J1.chs ex
  replace B3 := B3.chs ex
  refine wl_y (y_conv rfl Tryz.underlying53 Tryz.underlying3 (i64_ok (by omega) (by omega))) rfl ?_
  refine wl_y (y_fieldAddr (o := 2) (s := 1) (off := 0) (o' := 2) rfl Tryz.underlying55 rfl (by kernel_rfl) rfl rfl) rfl ?_
  refine wl_ef (ef_storeB (i := 2) rfl rfl rfl (by kernel_rfl) B3 (Nat.le_of_ble_eq_true rfl)) rfl ?_
  rintro _ wS5_4 ⟨rfl, D, cg⟩
  have ex := Chs.one cg
  clear cg
  replace F := F.chs ex
  replace B2 := B2.chs ex
  replace J1 := J1.chs ex
  replace H6 := H6.chs ex
  replace B3 := D; clear D
  refine wl_nil ?_
  refine wq_then_norm (hK6 ?_)
  refine wc_seq ?_; intro K7 hK7
  refine wc_region ?_
  refine wl_y (y_move rfl) rfl ?_
  refine wl_call Tryz.func83 rfl rfl rfl (inum_any 1 1 rfl _ (by omega) H6) rfl ?_
  rintro e w7 ⟨rfl, H7, ex⟩
  refine ⟨_, rfl, ?_⟩
  rw [← hk] at H7 ⊢
  replace F := F.chs ex
  replace B2 := B2.chs ex
  replace J1 := J1.chs ex
  replace B3 := B3.chs ex
  refine wl_y (y_conv rfl Tryz.underlying53 Tryz.underlying5 (show IntKind.u8.wrap ((k.1 : Nat) : Int) = ((k.1 : Nat) : Int) from IntWalk.u8_in _ ⟨by omega, by omega⟩)) rfl ?_
  refine wl_y (y_fieldAddr (o := 3) (s := 1) (off := 0) (o' := 3) rfl Tryz.underlying55 rfl (by kernel_rfl) rfl rfl) rfl ?_
  refine wl_ef (ef_storeB (i := 3) rfl rfl rfl (by kernel_rfl) B3 (Nat.le_of_ble_eq_true rfl)) rfl ?_
  rintro _ wS6_4 ⟨rfl, D, cg⟩
  have ex := Chs.one cg
  clear cg
  replace F := F.chs ex
  replace B2 := B2.chs ex
  replace J1 := J1.chs ex
  replace H7 := H7.chs ex
  replace B3 := D; clear D
  replace B3 := B3.congr (cs' := msgV ⟨A1, n1, c1⟩ e.1 (f.1 : Int) k.1 0 nilH nilH nilH nilH 0 nilH nilH nilH nilH nilH nilH 0 nilH nilH 0 nilH false nilH nilH nilH 0 nilH nilH nilH nilH nilH nilH) rfl
  refine wl_nil ?_
  refine wq_then_norm (hK7 ?_)
  refine wc_seq ?_; intro K8 hK8
  refine wc_seq ?_; intro K9 hK9
  refine wc_region ?_
  refine wl_y (y_fieldAddr (o := 3) (s := 1) (off := 0) (o' := 3) rfl Tryz.underlying55 rfl (by kernel_rfl) rfl rfl) rfl ?_
  refine wl_y (y_load1 rfl Tryz.underlying5 rfl (B3.get (i := 3) rfl)) rfl ?_
  refine wl_nil ?_
  refine wq_then_norm (hK9 ?_)
  refine wc_block ?_
  refine wc_seq ?_; intro K10 hK10
  refine wc_region ?_
  refine wl_y (y_eql rfl rfl) rfl ?_
  refine wl_y (y_assign rfl) rfl ?_
  refine wl_nil ?_
  refine wq_then_norm (hK10 ?_)
  refine wc_dec rfl (fun hc1 => ?_) (fun hc1 => ?_)
  · skip
    refine wc_region ?_
    refine wl_y (y_move rfl) rfl ?_
    have q2 := B2.lt; have q3 := B3.lt; have q4 := F.size
    refine wl_call Tryz.func35 rfl rfl rfl (iprop_any _ H7) rfl ?_
    rintro e w8 ⟨cs, rfl, HP, H8, ex⟩
    refine ⟨_, rfl, ?_⟩
    replace F := F.chs ex
    replace B2 := B2.chs ex
    replace J1 := J1.chs ex
    replace B3 := B3.chs ex
    have KP := HP.kk (S := [gB3, gB2, gr, gi]) (by simp; omega)
    obtain ⟨i, h0, h1, h2, h4, h5, ig, l0, l1, l2, l4, l5, rfl, _⟩ := HP
    refine wl_y (y_fieldAddr (o := 4) (s := 16) (off := 0) (o' := 4) rfl Tryz.underlying55 rfl (by kernel_rfl) rfl rfl) rfl ?_
    refine wl_ef (ef_storeP (o := 4) rfl rfl (by kernel_rfl) B3 (Nat.le_of_ble_eq_true rfl) (all_ones rfl)) rfl ?_
    rintro _ wS10_3 ⟨rfl, D, cg⟩
    have ex := Chs.one cg
    clear cg
    replace F := F.chs ex
    replace B2 := B2.chs ex
    replace J1 := J1.chs ex
    replace H8 := H8.chs ex
    replace KP := KP.chs ex
    replace B3 := D; clear D
    replace B3 := B3.congr (cs' := msgV ⟨A1, n1, c1⟩ e.1 (f.1 : Int) k.1 (propX k.2).1.kind i h0 h1 h2 (propX k.2).1.pack.leaf.src h4 h5 ig l0 l1 l2 (propX k.2).1.leaf.src l4 l5 (propX k.2).1.at_ nilH false nilH nilH nilH 0 nilH nilH nilH nilH nilH nilH) rfl
    refine wl_nil ?_
    refine wq_blk_norm ?_
    refine wq_then_norm (hK8 ?_)
    refine wc_seq ?_; intro K11 hK11
    refine wc_region ?_
    refine wl_y (y_move rfl) rfl ?_
    have u2 := B2.lt; have u3 := B3.lt; have u4 := F.size
    refine wl_call Tryz.func74 rfl rfl rfl (ivec_any _ H8) rfl ?_
    rintro e w9 ⟨A9, n9, c9, rfl, hc9', V9, H9, ex⟩
    refine ⟨_, rfl, ?_⟩
    replace F := F.chs ex
    replace B2 := B2.chs ex
    replace J1 := J1.chs ex
    replace B3 := B3.chs ex
    replace KP := KP.chs ex
    have J9 := V9.kk (S := [gB3, gB2, gr, gi]) (by simp; omega)
    refine wl_y (y_fieldAddr (o := 29) (s := 1) (off := 0) (o' := 29) rfl Tryz.underlying55 rfl (by kernel_rfl) rfl rfl) rfl ?_
    refine wl_ef (ef_storeB (i := 29) rfl rfl rfl (by kernel_rfl) B3 (Nat.le_of_ble_eq_true rfl)) rfl ?_
    rintro _ wS13_3 ⟨rfl, D, cg⟩
    have ex := Chs.one cg
    clear cg
    replace F := F.chs ex
    replace B2 := B2.chs ex
    replace J1 := J1.chs ex
    replace KP := KP.chs ex
    replace H9 := H9.chs ex
    replace J9 := J9.chs ex
    replace B3 := D; clear D
    refine wl_nil ?_
    refine wq_then_norm (hK11 ?_)
    refine wc_seq ?_; intro K12 hK12
    refine wc_seq ?_; intro K13 hK13
    refine wc_region ?_
    refine wl_y (y_fieldAddr (o := 3) (s := 1) (off := 0) (o' := 3) rfl Tryz.underlying55 rfl (by kernel_rfl) rfl rfl) rfl ?_
    refine wl_y (y_load1 rfl Tryz.underlying5 rfl (B3.get (i := 3) rfl)) rfl ?_
    refine wl_y (y_eql rfl rfl) rfl ?_
    refine wl_nil ?_
    refine wq_then_norm (hK13 ?_)
    refine wc_dec rfl (fun hc3 => ?_) (fun hc3 => ?_)
    · skip
      omega
    · skip
      refine wc_skip ?_
      refine wq_then_norm (hK12 ?_)
      refine wc_seq ?_; intro K14 hK14
      refine wc_region ?_
      refine wl_y (y_move rfl) rfl ?_
      have x2 := B2.lt; have x3 := B3.lt; have x4 := F.size
      refine wl_call Tryz.func74 rfl rfl rfl (ivec_any _ H9) rfl ?_
      rintro e w11 ⟨A11, n11, c11, rfl, hc11', V11, H11, ex⟩
      refine ⟨_, rfl, ?_⟩
      replace F := F.chs ex
      replace B2 := B2.chs ex
      replace J1 := J1.chs ex
      replace B3 := B3.chs ex
      replace KP := KP.chs ex
      replace J9 := J9.chs ex
      have J11 := V11.kk (S := [gB3, gB2, gr, gi]) (by simp; omega)
      refine wl_y (y_fieldAddr (o := 31) (s := 1) (off := 0) (o' := 31) rfl Tryz.underlying55 rfl (by kernel_rfl) rfl rfl) rfl ?_
      refine wl_ef (ef_storeB (i := 31) rfl rfl rfl (by kernel_rfl) B3 (Nat.le_of_ble_eq_true rfl)) rfl ?_
      rintro _ wS16_3 ⟨rfl, D, cg⟩
      have ex := Chs.one cg
      clear cg
      replace F := F.chs ex
      replace B2 := B2.chs ex
      replace J1 := J1.chs ex
      replace KP := KP.chs ex
      replace J9 := J9.chs ex
      replace H11 := H11.chs ex
      replace J11 := J11.chs ex
      replace B3 := D; clear D
      refine wl_nil ?_
      refine wq_then_norm (hK14 ?_)
      refine wc_seq ?_; intro K15 hK15
      refine wc_region ?_
      refine wl_y (y_loadx (o := 0) (s := 32) rfl Tryz.underlying55 rfl (by kernel_rfl) B3 rfl) rfl ?_
      refine wl_ef (ef_storeP (o := 0) rfl rfl (by kernel_rfl) B2 (Nat.le_of_ble_eq_true rfl) (all_ones rfl)) rfl ?_
      rintro _ wS17_1 ⟨rfl, D, cg⟩
      have ex := Chs.one cg
      clear cg
      replace F := F.chs ex
      replace J1 := J1.chs ex
      replace B3 := B3.chs ex
      replace KP := KP.chs ex
      replace J9 := J9.chs ex
      replace H11 := H11.chs ex
      replace J11 := J11.chs ex
      replace B2 := D; clear D
      replace B2 := B2.congr (cs' := msgV ⟨A1, n1, c1⟩ e.1 (f.1 : Int) k.1 (propX k.2).1.kind i h0 h1 h2 (propX k.2).1.pack.leaf.src h4 h5 ig l0 l1 l2 (propX k.2).1.leaf.src l4 l5 (propX k.2).1.at_ nilH false nilH nilH nilH 0 nilH nilH nilH ⟨A9, n9, c9⟩ nilH ⟨A11, n11, c11⟩) rfl
      refine wl_nil ?_
      refine wq_then_norm (hK15 ?_)
      refine wc_ret ?_
      refine hret rfl B2 rfl ?_
      rw [mess_two hg he hf hk (by omega)]
      exact ⟨_, rfl, ⟨_, _, _, _, _, _, _, _, _, _, _, _, _, _, _, _, _, _, _, _, _, _, _, _, _, _, (by rw [show k.1 = 2 by omega]; rfl), he8, (by show 2 < 256; omega), (by show (-9223372036854775808 : Int) ≤ (f.1 : Int) ∧ (f.1 : Int) ≤ 9223372036854775807; omega), J1.out.mono (by omega), PropF.mono KP.out (by omega), ComF.zero _ _, J9.out.mono (by omega), Fb.nil _ _ _, J11.out.mono (by omega)⟩, H11.mono (fun k hk => by simp [hk]) hmi hmr, (F.drop (by omega)).drop (by omega)⟩
  · skip
    refine wc_seq ?_; intro K16 hK16
    refine wc_region ?_
    refine wl_y (y_eql rfl rfl) rfl ?_
    refine wl_y (y_assign rfl) rfl ?_
    refine wl_nil ?_
    refine wq_then_norm (hK16 ?_)
    refine wc_dec rfl (fun hc2 => ?_) (fun hc2 => ?_)
    · skip
      refine wc_region ?_
      refine wl_y (y_move rfl) rfl ?_
      have q2 := B2.lt; have q3 := B3.lt; have q4 := F.size
      refine wl_call Tryz.func39 rfl rfl rfl (icommit_any _ H7 (mem2 (by omega) (by omega) fun k hk => Nat.lt_of_lt_of_le (hS k hk) (by omega)) (by omega)) rfl ?_
      rintro e w8 ⟨cs, rfl, HP, H8, ex⟩
      refine ⟨_, rfl, ?_⟩
      replace F := F.chs ex
      replace B2 := B2.chs ex
      replace J1 := J1.chs ex
      replace B3 := B3.chs ex
      have KP := HP.kk (S := [gB3, gB2, gr, gi]) (by simp; omega)
      obtain ⟨it, i0, i1, i2, p, i4, i5, ct, rfl, _⟩ := HP
      refine wl_y (y_fieldAddr (o := 20) (s := 9) (off := 0) (o' := 20) rfl Tryz.underlying55 rfl (by kernel_rfl) rfl rfl) rfl ?_
      refine wl_ef (ef_storeP (o := 20) rfl rfl (by kernel_rfl) B3 (Nat.le_of_ble_eq_true rfl) (all_ones rfl)) rfl ?_
      rintro _ wS12_3 ⟨rfl, D, cg⟩
      have ex := Chs.one cg
      clear cg
      replace F := F.chs ex
      replace B2 := B2.chs ex
      replace J1 := J1.chs ex
      replace H8 := H8.chs ex
      replace KP := KP.chs ex
      replace B3 := D; clear D
      replace B3 := B3.congr (cs' := msgV ⟨A1, n1, c1⟩ e.1 (f.1 : Int) k.1 0 nilH nilH nilH nilH 0 nilH nilH nilH nilH nilH nilH 0 nilH nilH 0 it (comX k.2).1.has i0 i1 i2 p i4 i5 ct nilH nilH nilH) rfl
      refine wl_nil ?_
      refine wq_blk_norm ?_
      refine wq_then_norm (hK8 ?_)
      refine wc_seq ?_; intro K17 hK17
      refine wc_region ?_
      refine wl_y (y_move rfl) rfl ?_
      have u2 := B2.lt; have u3 := B3.lt; have u4 := F.size
      refine wl_call Tryz.func74 rfl rfl rfl (ivec_any _ H8) rfl ?_
      rintro e w9 ⟨A9, n9, c9, rfl, hc9', V9, H9, ex⟩
      refine ⟨_, rfl, ?_⟩
      replace F := F.chs ex
      replace B2 := B2.chs ex
      replace J1 := J1.chs ex
      replace B3 := B3.chs ex
      replace KP := KP.chs ex
      have J9 := V9.kk (S := [gB3, gB2, gr, gi]) (by simp; omega)
      refine wl_y (y_fieldAddr (o := 29) (s := 1) (off := 0) (o' := 29) rfl Tryz.underlying55 rfl (by kernel_rfl) rfl rfl) rfl ?_
      refine wl_ef (ef_storeB (i := 29) rfl rfl rfl (by kernel_rfl) B3 (Nat.le_of_ble_eq_true rfl)) rfl ?_
      rintro _ wS13_3 ⟨rfl, D, cg⟩
      have ex := Chs.one cg
      clear cg
      replace F := F.chs ex
      replace B2 := B2.chs ex
      replace J1 := J1.chs ex
      replace KP := KP.chs ex
      replace H9 := H9.chs ex
      replace J9 := J9.chs ex
      replace B3 := D; clear D
      refine wl_nil ?_
      refine wq_then_norm (hK17 ?_)
      refine wc_seq ?_; intro K18 hK18
      refine wc_seq ?_; intro K19 hK19
      refine wc_region ?_
      refine wl_y (y_fieldAddr (o := 3) (s := 1) (off := 0) (o' := 3) rfl Tryz.underlying55 rfl (by kernel_rfl) rfl rfl) rfl ?_
      refine wl_y (y_load1 rfl Tryz.underlying5 rfl (B3.get (i := 3) rfl)) rfl ?_
      refine wl_y (y_eql rfl rfl) rfl ?_
      refine wl_nil ?_
      refine wq_then_norm (hK19 ?_)
      refine wc_dec rfl (fun hc3 => ?_) (fun hc3 => ?_)
      · skip
        refine wc_region ?_
        refine wl_y (y_move rfl) rfl ?_
        have v2 := B2.lt; have v3 := B3.lt; have v4 := F.size
        refine wl_call Tryz.func74 rfl rfl rfl (ivec_any _ H9) rfl ?_
        rintro e w10 ⟨A10, n10, c10, rfl, hc10', V10, H10, ex⟩
        refine ⟨_, rfl, ?_⟩
        replace F := F.chs ex
        replace B2 := B2.chs ex
        replace J1 := J1.chs ex
        replace B3 := B3.chs ex
        replace KP := KP.chs ex
        replace J9 := J9.chs ex
        have J10 := V10.kk (S := [gB3, gB2, gr, gi]) (by simp; omega)
        refine wl_y (y_fieldAddr (o := 30) (s := 1) (off := 0) (o' := 30) rfl Tryz.underlying55 rfl (by kernel_rfl) rfl rfl) rfl ?_
        refine wl_ef (ef_storeB (i := 30) rfl rfl rfl (by kernel_rfl) B3 (Nat.le_of_ble_eq_true rfl)) rfl ?_
        rintro _ wS15_3 ⟨rfl, D, cg⟩
        have ex := Chs.one cg
        clear cg
        replace F := F.chs ex
        replace B2 := B2.chs ex
        replace J1 := J1.chs ex
        replace KP := KP.chs ex
        replace J9 := J9.chs ex
        replace H10 := H10.chs ex
        replace J10 := J10.chs ex
        replace B3 := D; clear D
        refine wl_nil ?_
        refine wq_then_norm (hK18 ?_)
        refine wc_seq ?_; intro K20 hK20
        refine wc_region ?_
        refine wl_y (y_move rfl) rfl ?_
        have x2 := B2.lt; have x3 := B3.lt; have x4 := F.size
        refine wl_call Tryz.func74 rfl rfl rfl (ivec_any _ H10) rfl ?_
        rintro e w11 ⟨A11, n11, c11, rfl, hc11', V11, H11, ex⟩
        refine ⟨_, rfl, ?_⟩
        replace F := F.chs ex
        replace B2 := B2.chs ex
        replace J1 := J1.chs ex
        replace B3 := B3.chs ex
        replace KP := KP.chs ex
        replace J9 := J9.chs ex
        replace J10 := J10.chs ex
        have J11 := V11.kk (S := [gB3, gB2, gr, gi]) (by simp; omega)
        refine wl_y (y_fieldAddr (o := 31) (s := 1) (off := 0) (o' := 31) rfl Tryz.underlying55 rfl (by kernel_rfl) rfl rfl) rfl ?_
        refine wl_ef (ef_storeB (i := 31) rfl rfl rfl (by kernel_rfl) B3 (Nat.le_of_ble_eq_true rfl)) rfl ?_
        rintro _ wS16_3 ⟨rfl, D, cg⟩
        have ex := Chs.one cg
        clear cg
        replace F := F.chs ex
        replace B2 := B2.chs ex
        replace J1 := J1.chs ex
        replace KP := KP.chs ex
        replace J9 := J9.chs ex
        replace J10 := J10.chs ex
        replace H11 := H11.chs ex
        replace J11 := J11.chs ex
        replace B3 := D; clear D
        refine wl_nil ?_
        refine wq_then_norm (hK20 ?_)
        refine wc_seq ?_; intro K21 hK21
        refine wc_region ?_
        refine wl_y (y_loadx (o := 0) (s := 32) rfl Tryz.underlying55 rfl (by kernel_rfl) B3 rfl) rfl ?_
        refine wl_ef (ef_storeP (o := 0) rfl rfl (by kernel_rfl) B2 (Nat.le_of_ble_eq_true rfl) (all_ones rfl)) rfl ?_
        rintro _ wS17_1 ⟨rfl, D, cg⟩
        have ex := Chs.one cg
        clear cg
        replace F := F.chs ex
        replace J1 := J1.chs ex
        replace B3 := B3.chs ex
        replace KP := KP.chs ex
        replace J9 := J9.chs ex
        replace J10 := J10.chs ex
        replace H11 := H11.chs ex
        replace J11 := J11.chs ex
        replace B2 := D; clear D
        replace B2 := B2.congr (cs' := msgV ⟨A1, n1, c1⟩ e.1 (f.1 : Int) k.1 0 nilH nilH nilH nilH 0 nilH nilH nilH nilH nilH nilH 0 nilH nilH 0 it (comX k.2).1.has i0 i1 i2 p i4 i5 ct ⟨A9, n9, c9⟩ ⟨A10, n10, c10⟩ ⟨A11, n11, c11⟩) rfl
        refine wl_nil ?_
        refine wq_then_norm (hK21 ?_)
        refine wc_ret ?_
        refine hret rfl B2 rfl ?_
        rw [mess_three hg he hf hk (by omega)]
        exact ⟨_, rfl, ⟨_, _, _, _, _, _, _, _, _, _, _, _, _, _, _, _, _, _, _, _, _, _, _, _, _, _, (by rw [show k.1 = 3 by omega]; rfl), he8, (by show 3 < 256; omega), (by show (-9223372036854775808 : Int) ≤ (f.1 : Int) ∧ (f.1 : Int) ≤ 9223372036854775807; omega), J1.out.mono (by omega), PropF.zero _ _, ComF.mono KP.out (by omega), J9.out.mono (by omega), J10.out.mono (by omega), J11.out.mono (by omega)⟩, H11.mono (fun k hk => by simp [hk]) hmi hmr, (F.drop (by omega)).drop (by omega)⟩
      · skip
        omega
    · skip
      refine wc_region ?_
      refine wl_y (y_move rfl) rfl ?_
      refine wl_call Tryz.func79 rfl rfl rfl (note_in 3 3 rfl (by omega) _ H7) rfl ?_
      rintro e w8 ⟨rfl, H8, ex⟩
      refine ⟨_, rfl, ?_⟩
      rw [noteX_bad] at H8
      replace F := F.chs ex
      replace B2 := B2.chs ex
      replace J1 := J1.chs ex
      replace B3 := B3.chs ex
      refine wl_nil ?_
      refine wq_blk_norm ?_
      refine wq_then_norm (hK8 ?_)
      refine wc_seq ?_; intro K22 hK22
      refine wc_region ?_
      refine wl_y (y_move rfl) rfl ?_
      have u2 := B2.lt; have u3 := B3.lt; have u4 := F.size
      refine wl_call Tryz.func74 rfl rfl rfl (ivec_any _ H8) rfl ?_
      rintro e w9 ⟨A9, n9, c9, rfl, hc9', V9, H9, ex⟩
      refine ⟨_, rfl, ?_⟩
      replace F := F.chs ex
      replace B2 := B2.chs ex
      replace J1 := J1.chs ex
      replace B3 := B3.chs ex
      have J9 := V9.kk (S := [gB3, gB2, gr, gi]) (by simp; omega)
      refine wl_y (y_fieldAddr (o := 29) (s := 1) (off := 0) (o' := 29) rfl Tryz.underlying55 rfl (by kernel_rfl) rfl rfl) rfl ?_
      refine wl_ef (ef_storeB (i := 29) rfl rfl rfl (by kernel_rfl) B3 (Nat.le_of_ble_eq_true rfl)) rfl ?_
      rintro _ wS13_3 ⟨rfl, D, cg⟩
      have ex := Chs.one cg
      clear cg
      replace F := F.chs ex
      replace B2 := B2.chs ex
      replace J1 := J1.chs ex
      replace H9 := H9.chs ex
      replace J9 := J9.chs ex
      replace B3 := D; clear D
      refine wl_nil ?_
      refine wq_then_norm (hK22 ?_)
      refine wc_seq ?_; intro K23 hK23
      refine wc_seq ?_; intro K24 hK24
      refine wc_region ?_
      refine wl_y (y_fieldAddr (o := 3) (s := 1) (off := 0) (o' := 3) rfl Tryz.underlying55 rfl (by kernel_rfl) rfl rfl) rfl ?_
      refine wl_y (y_load1 rfl Tryz.underlying5 rfl (B3.get (i := 3) rfl)) rfl ?_
      refine wl_y (y_eql rfl rfl) rfl ?_
      refine wl_nil ?_
      refine wq_then_norm (hK24 ?_)
      refine wc_dec rfl (fun hc3 => ?_) (fun hc3 => ?_)
      · skip
        omega
      · skip
        refine wc_skip ?_
        refine wq_then_norm (hK23 ?_)
        refine wc_seq ?_; intro K25 hK25
        refine wc_region ?_
        refine wl_y (y_move rfl) rfl ?_
        have x2 := B2.lt; have x3 := B3.lt; have x4 := F.size
        refine wl_call Tryz.func74 rfl rfl rfl (ivec_any _ H9) rfl ?_
        rintro e w11 ⟨A11, n11, c11, rfl, hc11', V11, H11, ex⟩
        refine ⟨_, rfl, ?_⟩
        replace F := F.chs ex
        replace B2 := B2.chs ex
        replace J1 := J1.chs ex
        replace B3 := B3.chs ex
        replace J9 := J9.chs ex
        have J11 := V11.kk (S := [gB3, gB2, gr, gi]) (by simp; omega)
        refine wl_y (y_fieldAddr (o := 31) (s := 1) (off := 0) (o' := 31) rfl Tryz.underlying55 rfl (by kernel_rfl) rfl rfl) rfl ?_
        refine wl_ef (ef_storeB (i := 31) rfl rfl rfl (by kernel_rfl) B3 (Nat.le_of_ble_eq_true rfl)) rfl ?_
        rintro _ wS16_3 ⟨rfl, D, cg⟩
        have ex := Chs.one cg
        clear cg
        replace F := F.chs ex
        replace B2 := B2.chs ex
        replace J1 := J1.chs ex
        replace J9 := J9.chs ex
        replace H11 := H11.chs ex
        replace J11 := J11.chs ex
        replace B3 := D; clear D
        refine wl_nil ?_
        refine wq_then_norm (hK25 ?_)
        refine wc_seq ?_; intro K26 hK26
        refine wc_region ?_
        refine wl_y (y_loadx (o := 0) (s := 32) rfl Tryz.underlying55 rfl (by kernel_rfl) B3 rfl) rfl ?_
        refine wl_ef (ef_storeP (o := 0) rfl rfl (by kernel_rfl) B2 (Nat.le_of_ble_eq_true rfl) (all_ones rfl)) rfl ?_
        rintro _ wS17_1 ⟨rfl, D, cg⟩
        have ex := Chs.one cg
        clear cg
        replace F := F.chs ex
        replace J1 := J1.chs ex
        replace B3 := B3.chs ex
        replace J9 := J9.chs ex
        replace H11 := H11.chs ex
        replace J11 := J11.chs ex
        replace B2 := D; clear D
        replace B2 := B2.congr (cs' := msgV ⟨A1, n1, c1⟩ e.1 (f.1 : Int) k.1 0 nilH nilH nilH nilH 0 nilH nilH nilH nilH nilH nilH 0 nilH nilH 0 nilH false nilH nilH nilH 0 nilH nilH nilH ⟨A9, n9, c9⟩ nilH ⟨A11, n11, c11⟩) rfl
        refine wl_nil ?_
        refine wq_then_norm (hK26 ?_)
        refine wc_ret ?_
        refine hret rfl B2 rfl ?_
        rw [mess_no hg he hf hk (by omega) (by omega)]
        exact ⟨_, rfl, ⟨_, _, _, _, _, _, _, _, _, _, _, _, _, _, _, _, _, _, _, _, _, _, _, _, _, _, rfl, he8, hk8, (by show (-9223372036854775808 : Int) ≤ (f.1 : Int) ∧ (f.1 : Int) ≤ 9223372036854775807; omega), J1.out.mono (by omega), PropF.zero _ _, ComF.zero _ _, J9.out.mono (by omega), Fb.nil _ _ _, J11.out.mono (by omega)⟩, H11.mono (fun k hk => by simp [hk]) hmi hmr, (F.drop (by omega)).drop (by omega)⟩
end
theorem endX_lt {N g : Nat} {S : List Nat} {w : World} {t : St} (h : Rs N S w g t) : endX t < 256 := by
  cases t with
  | error c => exact h.2.1
  | ok xs =>
    cases xs with
    | nil => show 0 < 256; omega
    | cons x xs => show 5 < 256; omega
theorem note_end {t t' : St} (h : (∃ xs, t = .ok xs ∧ t' = t) ∨ (ecode t ≠ 0 ∧ t = .error (ecode t))) : ecode (noteX (endX t') t) = endX t := by
  rcases h with ⟨xs, rfl, rfl⟩ | ⟨h0, h1⟩
  · cases xs with
    | nil => rfl
    | cons x xs => rfl
  · generalize ecode t = c at *
    subst h1; rfl
theorem read_any {A : Option Addr} {n c N : Nat} {b : List UInt8} {V : List Nat} {t : St} {okv : Bool} {ft fo : FuncId} {us vs : List Value} {fn1 fn2 : Func} {bd1 bd2 : Code} {Ψ : Nat → World → Prop} (w : World) (K : Kp N V (fun w => Bs w A n b) w) (hc : n ≤ c) (hn : n ≤ 1048576) (hV : ∀ k ∈ V, k < w.heap.size)
    (hf1 : Tryz.prog.funcs[ft]? = some fn1) (hb1 : fn1.body = some bd1) (hm1 : (fn1.name == "runtime.NumGoroutine") = false) (hf2 : Tryz.prog.funcs[fo]? = some fn2) (hb2 : fn2.body = some bd2) (hm2 : (fn2.name == "runtime.NumGoroutine") = false)
    (hT : ∀ (w1 : World) (gi gr : Nat), Ext w w1 → w.heap.size ≤ gi → w.heap.size ≤ gr → In N (gi :: gr :: V) w1 gi gr (.ok b) → (∀ k ∈ gi :: gr :: V, k < w1.heap.size) →
      Calls Tryz.prog ft (.pointer (some ⟨gi, 0, none⟩) :: us).toArray w1 fun e w2 => e = .returned (.tuple #[]) ∧ In N (gi :: gr :: V) w2 gi gr t ∧ Ψ gi w2 ∧ Lat w.heap.size V w1 w2)
    (hΨ : ∀ gi w1 w2, w.heap.size ≤ gi → Ψ gi w1 → Chs [gi] w1 w2 → Ψ gi w2)
    (hO : ∀ gi w1, Ψ gi w1 → endX t = 0 → Calls Tryz.prog fo vs.toArray w1 fun e w2 => e = .returned (.bool okv) ∧ Ext w1 w2) :
    Calls Tryz.prog 29 #[.slice A n c, .func (.func ft) #[] us.toArray, .func (.func fo) #[] vs.toArray] w fun e w' => e = .returned (.int .u8 (((if endX t ≠ 0 then endX t else if okv then 0 else 3 : Nat) : Nat) : Int)) ∧ (∃ gi, w.heap.size ≤ gi ∧ Ψ gi w') ∧ endX t < 256 ∧ Chs V w w' := by
  have E := Ext.refl w
  have hbl := K.out.1
  refine vc_enter1 42 Tryz.func29 rfl rfl rfl rfl ?_
  intro Q hret
  refine wc_seq ?_; intro K1 hK1
  refine wc_region ?_
  refine wl_y (y_assign rfl) rfl ?_
  refine wl_nil ?_
  refine wq_then_norm (hK1 ?_)
  refine wc_seq ?_; intro K2 hK2
  refine wc_seq ?_; intro K3 hK3
  refine wc_region ?_
  refine wl_y (y_move rfl) rfl ?_
  refine wl_y (y_len_slice rfl Tryz.underlying22) rfl ?_
  refine wl_y (y_gtr rfl rfl) rfl ?_
  refine wl_nil ?_
  refine wq_then_norm (hK3 ?_)
  refine wc_no rfl (by omega) ?_
  refine wc_skip ?_
  refine wq_then_norm (hK2 ?_)
  refine wc_seq ?_; intro K4 hK4
  refine wc_region ?_
  refine wl_y (y_move rfl) rfl ?_
  refine wl_call Tryz.func78 rfl rfl rfl (newReader_any A n c b _ hc K) rfl ?_
  rintro e w1 ⟨gr, rfl, hgr, R, ex⟩
  refine ⟨_, rfl, ?_⟩
  replace E := E.ext ex
  skip
  have hlr := R.lt; have z1 := E.size
  refine wl_y (y_build rfl (cells := inV gr 0) (by kernel_rfl)) rfl ?_
  have R0 := R
  refine wl_ef (ef_box rfl rfl) rfl ?_
  rintro _ w2 ⟨gi, rfl, BI, hgi, ex⟩
  replace E := E.ext ex
  replace R := R.ext ex
  replace R0 := R0.grow ex hgi
  refine wl_y (y_assign rfl) rfl ?_
  refine wl_nil ?_
  refine wq_then_norm (hK4 ?_)
  refine wc_seq ?_; intro K5 hK5
  refine wc_region ?_
  refine wl_y (y_move rfl) rfl ?_
  refine wl_y (y_move rfl) rfl ?_
  have H : In N (gi :: gr :: V) w2 gi gr (.ok b) := ⟨BI, List.mem_cons_self, by omega, R0⟩
  have z2 := BI.lt
  have z3 := E.size
  have z4 := H.ltr
  refine wl_ef (ef_callv (Φ := fun v w' => v = .tuple #[] ∧ In N (gi :: gr :: V) w' gi gr t ∧ Ψ gi w' ∧ Lat w.heap.size V w2 w') (xs := [.tmp 16]) (vs := [.pointer (some ⟨gi, 0, none⟩)]) rfl hf1 hb1 hm1 rfl (hT w2 gi gr E (by omega) (by omega) H (mem2 z2 z4 fun k hk => Nat.lt_of_lt_of_le (hV k hk) z3)) (fun _ _ ⟨h1, h2, h3, h4⟩ => ⟨_, h1, rfl, h2, h3, h4⟩)) rfl ?_
  rintro _ w3 ⟨rfl, H3, P3, L3⟩
  have F := (Chs.of E V).lats L3 (Nat.le_refl _) (fun k hk => hk)
  refine wl_nil ?_
  refine wq_then_norm (hK5 ?_)
  refine wc_seq ?_; intro K6 hK6
  refine wc_region ?_
  refine wl_y (y_move rfl) rfl ?_
  refine wl_y (y_move rfl) rfl ?_
  refine wl_y (y_nilp rfl) rfl ?_
  refine wl_y (y_fieldAddr (o := 0) (s := 1) (off := 0) (o' := 0) rfl Tryz.underlying128 rfl (by kernel_rfl) rfl rfl) rfl ?_
  refine wl_y (y_load1 rfl Tryz.underlying125 rfl (H3.blk.get (i := 0) rfl)) rfl ?_
  obtain ⟨t', I3, h8, hcs⟩ := H3.cases
  have he8 := endX_lt I3.2.2.2
  have hne := note_end hcs
  have het : endX t < 256 := by rcases hcs with ⟨xs, rfl, rfl⟩ | ⟨h, e⟩; exact he8; rw [e]; exact h8
  refine wl_call Tryz.func80 rfl rfl rfl (rEnd_any _ I3.2.2.2) rfl ?_
  rintro e w4 ⟨rfl, ex⟩
  refine ⟨_, rfl, ?_⟩
  replace F := F.ext ex
  replace H3 := H3.ext ex
  replace P3 := hΨ gi _ _ (by omega) P3 (Chs.of ex [gi])
  refine wl_call Tryz.func79 rfl rfl rfl (note_in (endX t') _ rfl he8 _ H3) rfl ?_
  rintro e w5 ⟨rfl, H5, ex⟩
  refine ⟨_, rfl, ?_⟩
  have z6 := F.size; replace P3 := hΨ gi _ _ (by omega) P3 ex; replace F := F.lats (Chs.lat (M := w.heap.size) (V := []) ex (by omega)) (Nat.le_refl _) (by simp)
  obtain ⟨q, hq⟩ : ∃ q, q = noteX (endX t') t := ⟨_, rfl⟩; rw [← hq] at H5 hne; have BQ := H5.blk
  refine wl_nil ?_
  refine wq_then_norm (hK6 ?_)
  refine wc_seq ?_; intro K7 hK7
  refine wc_seq ?_; intro K8 hK8
  refine wc_region ?_
  refine wl_y (y_move rfl) rfl ?_
  refine wl_y (y_nilp rfl) rfl ?_
  refine wl_y (y_fieldAddr (o := 1) (s := 1) (off := 0) (o' := 1) rfl Tryz.underlying128 rfl (by kernel_rfl) rfl rfl) rfl ?_
  refine wl_y (y_load1 rfl Tryz.underlying28 rfl (BQ.get (i := 1) rfl)) rfl ?_
  refine wl_yask (y_eql rfl rfl) rfl (fun h0 => ?_) (fun h0 => ?_)
  · skip
    refine wl_y (y_move rfl) rfl ?_
    refine wl_gy 30 rfl rfl (y_move rfl) rfl ?_
    refine wl_gef 30 rfl rfl (ef_callv (Φ := fun v w' => v = .bool okv ∧ Ext w5 w') (xs := []) (vs := []) rfl hf2 hb2 hm2 rfl (hO gi _ P3 (by omega)) (fun _ _ ⟨h1, h2⟩ => ⟨_, h1, rfl, h2⟩)) rfl ?_
    rintro _ w6 ⟨rfl, ex⟩
    replace F := F.ext ex
    replace BQ := BQ.ext ex
    replace P3 := hΨ gi _ _ (by omega) P3 (Chs.of ex [gi])
    refine wl_gy 30 rfl rfl (y_not rfl) rfl ?_
    refine wl_y (y_pickt rfl rfl) rfl ?_
    refine wl_nil ?_
    refine wq_then_norm (hK8 ?_)
    refine wc_cond rfl (fun hc2 => ?_) (fun hc2 => ?_)
    · skip
      refine wc_region ?_
      refine wl_y (y_move rfl) rfl ?_
      refine wl_y (y_nilp rfl) rfl ?_
      refine wl_y (y_fieldAddr (o := 1) (s := 1) (off := 0) (o' := 1) rfl Tryz.underlying128 rfl (by kernel_rfl) rfl rfl) rfl ?_
      refine wl_ef (ef_storeB rfl rfl rfl (by kernel_rfl) BQ (by show 1 < 2; omega)) rfl ?_
      rintro _ w7 ⟨rfl, D, cg⟩
      have ex := Chs.one cg
      have z7 := F.size; replace P3 := hΨ gi _ _ (by omega) P3 ex; replace F := F.lats (Chs.lat (M := w.heap.size) (V := []) ex (by omega)) (Nat.le_refl _) (by simp)
      refine wl_nil ?_
      refine wq_then_norm (hK7 ?_)
      refine wc_seq ?_; intro K9 hK9
      refine wc_region ?_
      refine wl_y (y_move rfl) rfl ?_
      refine wl_y (y_nilp rfl) rfl ?_
      refine wl_y (y_fieldAddr (o := 1) (s := 1) (off := 0) (o' := 1) rfl Tryz.underlying128 rfl (by kernel_rfl) rfl rfl) rfl ?_
      refine wl_y (y_load1 rfl Tryz.underlying28 rfl (D.get (i := 1) rfl)) rfl ?_
      refine wl_y (y_assign rfl) rfl ?_
      refine wl_nil ?_
      refine wq_then_norm (hK9 ?_)
      refine wc_ret ?_
      refine hret rfl ?_
      rw [if_neg (by omega), if_neg (by simpa using hc2)]
      exact ⟨rfl, ⟨gi, by omega, P3⟩, het, F⟩
    · skip
      refine wc_skip ?_
      refine wq_then_norm (hK7 ?_)
      refine wc_seq ?_; intro K10 hK10
      refine wc_region ?_
      refine wl_y (y_move rfl) rfl ?_
      refine wl_y (y_nilp rfl) rfl ?_
      refine wl_y (y_fieldAddr (o := 1) (s := 1) (off := 0) (o' := 1) rfl Tryz.underlying128 rfl (by kernel_rfl) rfl rfl) rfl ?_
      refine wl_y (y_load1 rfl Tryz.underlying28 rfl (BQ.get (i := 1) rfl)) rfl ?_
      refine wl_y (y_assign rfl) rfl ?_
      refine wl_nil ?_
      refine wq_then_norm (hK10 ?_)
      refine wc_ret ?_
      refine hret rfl ?_
      rw [if_neg (by omega), if_pos (by simpa using hc2), show ecode q = 0 by omega]
      exact ⟨rfl, ⟨gi, by omega, P3⟩, het, F⟩
  · skip
    refine wl_y (y_move rfl) rfl ?_
    refine wl_gno 30 rfl rfl rfl rfl ?_
    refine wl_gno 30 rfl rfl rfl rfl ?_
    refine wl_gno 30 rfl rfl rfl rfl ?_
    refine wl_y (y_pickf rfl rfl) rfl ?_
    refine wl_nil ?_
    refine wq_then_norm (hK8 ?_)
    refine wc_false rfl rfl ?_
    refine wc_skip ?_
    refine wq_then_norm (hK7 ?_)
    refine wc_seq ?_; intro K11 hK11
    refine wc_region ?_
    refine wl_y (y_move rfl) rfl ?_
    refine wl_y (y_nilp rfl) rfl ?_
    refine wl_y (y_fieldAddr (o := 1) (s := 1) (off := 0) (o' := 1) rfl Tryz.underlying128 rfl (by kernel_rfl) rfl rfl) rfl ?_
    refine wl_y (y_load1 rfl Tryz.underlying28 rfl (BQ.get (i := 1) rfl)) rfl ?_
    refine wl_y (y_assign rfl) rfl ?_
    refine wl_nil ?_
    refine wq_then_norm (hK11 ?_)
    refine wc_ret ?_
    refine hret rfl ?_
    rw [if_pos (by omega), hne]
    exact ⟨rfl, ⟨gi, by omega, P3⟩, het, F⟩
end Go.Proofs.YtpgalbgonmclaaaGreat
