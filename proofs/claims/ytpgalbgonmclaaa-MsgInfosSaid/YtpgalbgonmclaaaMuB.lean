/- Infos, welcomes and a guest's secrets of bytes: what msg hands back. No conditions: contracts of the program's functions. -/
import Derived.Test.YtpgalbgonmclaaaMuA
namespace Go.Proofs.Ytpgalbgonmclaaa
open Go.RowKit
attribute [local irreducible] Y Ef WL WC WK WQ WM OpM WN WF OpN WJ OpJ WG OpG
open Wire Nd M20
def zInfV : Array Value := infV nilH 0 nilH nilH nilH 0 nilH
def zWelV : Array Value := twoV nilH nilH
theorem InfF.zero (base : Nat) (w : World) : InfF base w zInfV Inf.zero := ⟨_, _, _, _, _, rfl, (by decide), (by decide), Fb.nil _ _ _, Fb.nil _ _ _, Fb.nil _ _ _, Fb.nil _ _ _, Fb.nil _ _ _⟩
theorem WelF.zero (base : Nat) (w : World) : WelF base w zWelV Wel.zero := ⟨_, _, rfl, ElsF.nil _ _ _ _ _, Fb.nil _ _ _⟩
theorem InfF.size {base : Nat} {w : World} {cs : Array Value} {x : Inf} (h : InfF base w cs x) : cs.size = 7 ∧ ones cs.toList = true := by
  obtain ⟨g, t, u, tg, sg, rfl, _⟩ := h; exact ⟨rfl, rfl⟩
theorem WelF.size {base : Nat} {w : World} {cs : Array Value} {x : Wel} (h : WelF base w cs x) : cs.size = 2 ∧ ones cs.toList = true := by
  obtain ⟨a, b, rfl, _⟩ := h; exact ⟨rfl, rfl⟩
theorem infOf1_any {N gi gr gm M : Nat} {s : St} (w : World) (H : In N [gi, gr, gm] w gi gr s) (B : Blk w gm 67 zInfV) (hi : gi ≠ gm) (hr : gr ≠ gm) (hM1 : M ≤ gi) (hM2 : M ≤ gr) (hM : M ≤ w.heap.size) :
    Calls Try.prog 111 #[.pointer (some ⟨gi, 0, none⟩), .pointer (some ⟨gm, 0, none⟩)] w fun e w' => e = .returned (.tuple #[]) ∧ In N [gi, gr, gm] w' gi gr (infX s).2 ∧ (∃ cs, Blk w' gm 67 cs ∧ cs.size = 7 ∧ Kp w'.heap.size [gi, gm] (fun w => InfF M w cs (infX s).1) w') ∧ Lat M [gm] w w' := by
  have hli := H.lti
  have hlr := H.ltr
  have hlm := B.lt
  have F := Chs.refl [gr, gi, gm] w
  obtain ⟨c, hc⟩ : ∃ c, c = ctxX s := ⟨_, rfl⟩
  obtain ⟨t, ht⟩ : ∃ t, t = vecX (justX 1 0 c.2) := ⟨_, rfl⟩
  obtain ⟨f, hf⟩ : ∃ f, f = numX 4 t.2 := ⟨_, rfl⟩
  have hX : infX s = (⟨c.1, t.1, (f.1 : Int), (vecX f.2).1⟩, (vecX f.2).2) := by rw [hf, ht, hc]; rfl
  have hf4 : f.1 < 4294967296 := by rw [hf]; exact numX_lt 4 _
  refine vc_enter0 18 Try.func111 rfl rfl rfl rfl ?_
  intro Q hret
  refine wc_seq ?_; intro K1 hK1
  refine wc_region ?_
  refine wl_y (y_move rfl) rfl ?_
  refine wl_call Try.func112 rfl rfl rfl (ictx_any _ H) rfl ?_
  rintro e w1 ⟨cs, rfl, HC, H1, ex⟩
  refine ⟨_, rfl, ?_⟩
  replace F := F.chs ex
  replace B := B.chs ex
  rw [← hc] at H1 HC; obtain ⟨g, tr, u, rfl, he, ja, jb, jc⟩ := HC; have Ja := ja.kk (S := [gi, gr, gm]) (by simp; omega); have Jb := jb.kk (S := [gi, gr, gm]) (by simp; omega); have Jc := jc.kk (S := [gi, gr, gm]) (by simp; omega)
  refine wl_y (y_fieldAddr (o := 0) (s := 4) (off := 0) (o' := 0) rfl Try.underlying67 rfl (by kernel_rfl) rfl rfl) rfl ?_
  refine wl_ef (ef_storeP (o := 0) rfl rfl (by kernel_rfl) B (Nat.le_of_ble_eq_true rfl) (all_ones rfl)) rfl ?_
  rintro _ wS0_3 ⟨rfl, D, cg⟩
  have ex := Chs.one cg
  clear cg
  replace F := F.chs ex
  replace H1 := H1.chs ex
  replace Ja := Ja.chs ex
  replace Jb := Jb.chs ex
  replace Jc := Jc.chs ex
  replace B := D; clear D
  replace B := B.congr (cs' := infV g c.1.ep tr u nilH 0 nilH) rfl
  refine wl_nil ?_
  refine wq_then_norm (hK1 ?_)
  refine wc_seq ?_; intro K2 hK2
  refine wc_region ?_
  refine wl_y (y_move rfl) rfl ?_
  refine wl_call Try.func113 rfl rfl rfl (ijust_any 1 0 1 0 rfl rfl _ (by omega) H1) rfl ?_
  rintro e w2 ⟨rfl, H2, ex⟩
  refine ⟨_, rfl, ?_⟩
  replace F := F.chs ex
  replace B := B.chs ex
  replace Ja := Ja.chs ex
  replace Jb := Jb.chs ex
  replace Jc := Jc.chs ex
  refine wl_nil ?_
  refine wq_then_norm (hK2 ?_)
  refine wc_seq ?_; intro K3 hK3
  refine wc_region ?_
  refine wl_y (y_move rfl) rfl ?_
  have q2 := F.size
  refine wl_call Try.func114 rfl rfl rfl (ivec_any _ H2) rfl ?_
  rintro e w3 ⟨A1, n1, c1, rfl, hc1', V1, H3, ex⟩
  refine ⟨_, rfl, ?_⟩
  replace F := F.chs ex
  replace B := B.chs ex
  replace Ja := Ja.chs ex
  replace Jb := Jb.chs ex
  replace Jc := Jc.chs ex
  rw [← ht] at H3 V1; have J1 := V1.kk (S := [gi, gr, gm]) (by simp; omega)
  refine wl_y (y_fieldAddr (o := 4) (s := 1) (off := 0) (o' := 4) rfl Try.underlying67 rfl (by kernel_rfl) rfl rfl) rfl ?_
  refine wl_ef (ef_storeB (i := 4) rfl rfl rfl (by kernel_rfl) B (Nat.le_of_ble_eq_true rfl)) rfl ?_
  rintro _ wS2_3 ⟨rfl, D, cg⟩
  have ex := Chs.one cg
  clear cg
  replace F := F.chs ex
  replace Ja := Ja.chs ex
  replace Jb := Jb.chs ex
  replace Jc := Jc.chs ex
  replace H3 := H3.chs ex
  replace J1 := J1.chs ex
  replace B := D; clear D
  refine wl_nil ?_
  refine wq_then_norm (hK3 ?_)
  refine wc_seq ?_; intro K4 hK4
  refine wc_region ?_
  refine wl_y (y_move rfl) rfl ?_
  refine wl_call Try.func115 rfl rfl rfl (inum_any 4 4 rfl _ (by omega) H3) rfl ?_
  rintro e w4 ⟨rfl, H4, ex⟩
  refine ⟨_, rfl, ?_⟩
  rw [← hf] at H4 ⊢
  replace F := F.chs ex
  replace B := B.chs ex
  replace Ja := Ja.chs ex
  replace Jb := Jb.chs ex
  replace Jc := Jc.chs ex
  replace J1 := J1.chs ex
  refine wl_y (y_conv rfl Try.underlying46 Try.underlying3 (i64_ok (by omega) (by omega))) rfl ?_
  refine wl_y (y_fieldAddr (o := 5) (s := 1) (off := 0) (o' := 5) rfl Try.underlying67 rfl (by kernel_rfl) rfl rfl) rfl ?_
  refine wl_ef (ef_storeB (i := 5) rfl rfl rfl (by kernel_rfl) B (Nat.le_of_ble_eq_true rfl)) rfl ?_
  rintro _ wS3_4 ⟨rfl, D, cg⟩
  have ex := Chs.one cg
  clear cg
  replace F := F.chs ex
  replace Ja := Ja.chs ex
  replace Jb := Jb.chs ex
  replace Jc := Jc.chs ex
  replace J1 := J1.chs ex
  replace H4 := H4.chs ex
  replace B := D; clear D
  refine wl_nil ?_
  refine wq_then_norm (hK4 ?_)
  refine wc_region ?_
  refine wl_y (y_move rfl) rfl ?_
  have q3 := F.size
  refine wl_call Try.func114 rfl rfl rfl (ivec_any _ H4) rfl ?_
  rintro e w5 ⟨A2, n2, c2, rfl, hc2', V2, H5, ex⟩
  refine ⟨_, rfl, ?_⟩
  replace F := F.chs ex
  replace B := B.chs ex
  replace Ja := Ja.chs ex
  replace Jb := Jb.chs ex
  replace Jc := Jc.chs ex
  replace J1 := J1.chs ex
  have J2 := V2.kk (S := [gi, gr, gm]) (by simp; omega)
  refine wl_y (y_fieldAddr (o := 6) (s := 1) (off := 0) (o' := 6) rfl Try.underlying67 rfl (by kernel_rfl) rfl rfl) rfl ?_
  refine wl_ef (ef_storeB (i := 6) rfl rfl rfl (by kernel_rfl) B (Nat.le_of_ble_eq_true rfl)) rfl ?_
  rintro _ wS4_3 ⟨rfl, D, cg⟩
  have ex := Chs.one cg
  clear cg
  replace F := F.chs ex
  replace Ja := Ja.chs ex
  replace Jb := Jb.chs ex
  replace Jc := Jc.chs ex
  replace J1 := J1.chs ex
  replace H5 := H5.chs ex
  replace J2 := J2.chs ex
  replace B := D; clear D
  replace B := B.congr (cs' := infV g c.1.ep tr u ⟨A1, n1, c1⟩ (f.1 : Int) ⟨A2, n2, c2⟩) rfl
  refine wl_nil ?_
  refine hret (.inr rfl) ?_
  rw [hX]
  exact ⟨rfl, H5, ⟨_, B, rfl, (((((Ja.bump Ja.1 (Nat.le_refl _)).and (Jb.bump Jb.1 (Nat.le_refl _))).and (Jc.bump Jc.1 (Nat.le_refl _))).and (J1.bump J1.1 (Nat.le_refl _))).and (J2.bump J2.1 (Nat.le_refl _))).map (fun _ ⟨⟨⟨⟨a, b⟩, c⟩, d⟩, e⟩ => ⟨_, _, _, _, _, rfl, he, (by show (-9223372036854775808 : Int) ≤ (f.1 : Int) ∧ (f.1 : Int) ≤ 9223372036854775807; omega), a.mono (by omega), b.mono (by omega), c.mono (by omega), d.mono (by omega), e.mono (by omega)⟩) |>.mono (by simp)⟩, F.lat hM⟩
section
variable {N3 M x gx gs gi base : Nat} {T : List Nat} {st : St}
end
def Inf.Fit (i : Inf) : Prop := i.ctx.grp.length ≤ 1000000 ∧ i.ctx.tree.length ≤ 1000000 ∧ i.ctx.trans.length ≤ 1000000 ∧ i.tag.length ≤ 1000000 ∧ i.sig.length ≤ 1000000
theorem inf_fit {s : St} (h : slen s ≤ 10000) : (infX s).1.Fit := by
  have h1 := just_le 2 1 s
  have h2 := just_le 2 1 (justX 2 1 s)
  have h3 := vec_fit (s := justX 2 1 (justX 2 1 s)) (B := 10000) (by omega)
  have h4 := num_le (s := (vecX (justX 2 1 (justX 2 1 s))).2) 8
  have h5 := vec_fit (s := (numX 8 (vecX (justX 2 1 (justX 2 1 s))).2).2) (B := 10000) (by omega)
  have h6 := vec_fit h5.2
  have h7 := just_le 1 0 (vecX (vecX (numX 8 (vecX (justX 2 1 (justX 2 1 s))).2).2).2).2
  have h8 := just_le 1 0 (ctxX s).2
  have h8' : slen (justX 1 0 (ctxX s).2) ≤ 10000 := Nat.le_trans h8 (Nat.le_trans h7 h6.2)
  have h9 := vec_fit h8'
  have h10 := num_le (s := (vecX (justX 1 0 (ctxX s).2)).2) 4
  have h11 := vec_fit (s := (numX 4 (vecX (justX 1 0 (ctxX s).2)).2).2) (B := 10000) (by omega)
  exact ⟨Nat.le_trans h3.1 (by omega), Nat.le_trans h5.1 (by omega), Nat.le_trans h6.1 (by omega), Nat.le_trans h9.1 (by omega), Nat.le_trans h11.1 (by omega)⟩
theorem infOf2_any {gm : Nat} {cs : Array Value} {x : Inf} (w : World) (B : Blk w gm 67 cs) (hz : cs.size = 7) (H : InfAt w cs x) :
    Calls Try.prog 117 #[.pointer (some ⟨gm, 0, none⟩)] w fun e w' => e = .returned (.bool (decide (okInf x))) ∧ Ext w w' := by
  have E := Ext.refl w
  refine vc_enter1 4 Try.func117 rfl rfl rfl rfl ?_
  intro Q hret
  refine wc_seq ?_; intro K1 hK1
  refine wc_region ?_
  refine wl_y (y_assign rfl) rfl ?_
  refine wl_nil ?_
  refine wq_then_norm (hK1 ?_)
  refine wc_seq ?_; intro K2 hK2
  refine wc_region ?_
  refine wl_y (y_loadw rfl Try.underlying67 rfl (by rw [hz]; kernel_rfl) B) rfl ?_
  refine wl_call Try.func107 rfl rfl rfl (rightInfo_any _ H) rfl ?_
  rintro e w1 ⟨rfl, ex⟩
  refine ⟨_, rfl, ?_⟩
  replace E := E.ext ex
  skip
  refine wl_y (y_assign rfl) rfl ?_
  refine wl_nil ?_
  refine wq_then_norm (hK2 ?_)
  refine wc_ret ?_
  refine hret rfl ?_
  exact ⟨rfl, E⟩
theorem infOf_any {A : Option Addr} {n c : Nat} {b : List UInt8} (w : World) (HA : Bs w A n b) (hc : n ≤ c) (hn : n ≤ 1048576) :
    Calls Try.prog 47 #[.slice A n c] w fun e w' => ∃ cs, e = .returned (.tuple #[.agg cs, .int .u8 (((infOf b).2 : Nat) : Int)]) ∧ InfF w.heap.size w' cs (infOf b).1 ∧ (infOf b).2 < 256 ∧ Ext w w' := by
  have F := Chs.refl [] w
  have KA : Kp w.heap.size [] (fun w => Bs w A n b) w := Kp.bs HA (by simp)
  have hbl := HA.1
  have hX : infOf b = wholeX Inf.zero (infX (.ok b)) (decide (okInf (infX (.ok b)).1)) := rfl
  refine vc_enterct (s := 7) 17 Try.func47 rfl rfl rfl Try.underlying67 rfl (by kernel_rfl) rfl ?_
  intro Q hret
  refine wc_seq ?_; intro K1 hK1
  refine wc_region ?_
  refine wl_ef (ef_alloc (Z := #[.slice none 0 0, .int .u64 0, .slice none 0 0, .slice none 0 0, .slice none 0 0, .int .i64 0, .slice none 0 0]) (by kernel_rfl)) rfl ?_
  rintro _ wB2 ⟨gB2, rfl, B2, hgB2, ex⟩
  have lB2 := B2.lt; have zB2 := ex.size
  replace F := F.grow ex hgB2
  replace KA := KA.grow ex hgB2
  refine wl_y (y_assign rfl) rfl ?_
  refine wl_nil ?_
  refine wq_then_norm (hK1 ?_)
  refine wc_seq ?_; intro K2 hK2
  refine wc_region ?_
  refine wl_ef (ef_alloc (Z := #[.slice none 0 0, .int .u64 0, .slice none 0 0, .slice none 0 0, .slice none 0 0, .int .i64 0, .slice none 0 0]) (by kernel_rfl)) rfl ?_
  rintro _ wB4 ⟨gB4, rfl, B4, hgB4, ex⟩
  have lB4 := B4.lt; have zB4 := ex.size
  have nB2_4 : gB2 < gB4 := Nat.lt_of_lt_of_le B2.lt hgB4
  replace F := F.grow ex hgB4
  replace KA := KA.grow ex hgB4
  replace B2 := B2.grow ex hgB4
  refine wl_nil ?_
  refine wq_then_norm (hK2 ?_)
  refine wc_seq ?_; intro K3 hK3
  refine wc_region ?_
  refine wl_y (y_func rfl) rfl ?_
  refine wl_y (y_assign rfl) rfl ?_
  refine wl_nil ?_
  refine wq_then_norm (hK3 ?_)
  refine wc_seq ?_; intro K4 hK4
  refine wc_seq ?_; intro K5 hK5
  refine wc_region ?_
  refine wl_y (y_move rfl) rfl ?_
  refine wl_y (y_move rfl) rfl ?_
  refine wl_y (y_func rfl) rfl ?_
  have q2 := B2.lt; have q4 := B4.lt; have q5 := F.size
  replace B4 := B4.congr (cs' := zInfV) rfl
  refine wl_call Try.func116 rfl rfl rfl (read_any (N := w.heap.size) (V := [gB4]) (t := (infX (.ok b)).2) (okv := decide (okInf (infX (.ok b)).1)) (us := [.pointer (some ⟨gB4, 0, none⟩)]) (vs := [.pointer (some ⟨gB4, 0, none⟩)]) (Ψ := fun gi w => ∃ cs, Blk w gB4 67 cs ∧ cs.size = 7 ∧ Kp w.heap.size [gi, gB4] (fun w => InfF wB4.heap.size w cs (infX (.ok b)).1) w) _ (KA.mono (by simp)) hc (by omega) (by simp; omega) Try.func111 rfl rfl Try.func117 rfl rfl (fun w1 gi gr E hi hr H hS => infOf1_any w1 H (B4.ext E) (by omega) (by omega) hi hr E.size) (fun gi w1 w2 hi ⟨cs, B, hz, K⟩ C => ⟨cs, B.chs C (by simp; omega), hz, (K.chs C (by simp)).bump C.size (Nat.le_refl _)⟩) (fun gi w1 ⟨cs, B, hz, K⟩ _ => infOf2_any w1 B hz (InfF.at K.out))) rfl ?_
  rintro e w5 ⟨rfl, ⟨gi, hgi, cs, BM, hz, KM⟩, h256, ex⟩
  refine ⟨_, rfl, ?_⟩
  replace F := F.chs ex
  replace KA := KA.chs ex
  replace B2 := B2.chs ex
  have h5 := ex.size; have h9 := KM.1; have KM2 := (InfF.kk KM.out (S := [gB2, gB4]) (by simp; omega)); obtain ⟨_, ho⟩ := InfF.size KM.out; clear KM
  refine wl_y (y_assign rfl) rfl ?_
  refine wl_nil ?_
  refine wq_then_norm (hK5 ?_)
  refine wc_seq ?_; intro K6 hK6
  refine wc_region ?_
  refine wl_y (y_move rfl) rfl ?_
  refine wl_y (y_neq rfl rfl) rfl ?_
  refine wl_nil ?_
  refine wq_then_norm (hK6 ?_)
  refine wc_dec rfl (fun hc1 => ?_) (fun hc1 => ?_)
  · skip
    refine wc_seq ?_; intro K7 hK7
    have e1 := whole_no (z := Inf.zero) (p := infX (.ok b)) (ok := decide (okInf (infX (.ok b)).1)) (by omega)
    refine wc_region ?_
    refine wl_y (y_build rfl (cells := zInfV) (by kernel_rfl)) rfl ?_
    refine wl_y (y_move rfl) rfl ?_
    refine wl_ef (ef_storeP (o := 0) rfl rfl (by kernel_rfl) B2 (Nat.le_of_ble_eq_true rfl) (all_ones rfl)) rfl ?_
    rintro _ wS5_2 ⟨rfl, D, cg⟩
    have ex := Chs.one cg
    clear cg
    replace F := F.chs ex
    replace KA := KA.chs ex
    replace BM := BM.chs ex
    replace KM2 := KM2.chs ex
    replace B2 := D; clear D
    replace B2 := B2.congr (cs' := zInfV) rfl
    refine wl_y (y_assign rfl) rfl ?_
    refine wl_nil ?_
    refine wq_then_norm (hK7 ?_)
    refine wc_ret ?_
    refine wq_then_ret ?_
    refine hret rfl rfl B2 rfl ?_
    rw [hX, e1]; exact ⟨_, rfl, InfF.zero _ _, (by dsimp only; split; exact h256; split <;> omega), (F.drop (by omega)).drop (by omega) |>.toExt (by simp)⟩
  · skip
    refine wc_skip ?_
    refine wq_then_norm (hK4 ?_)
    refine wc_seq ?_; intro K8 hK8
    have e1 := whole_yes (z := Inf.zero) (p := infX (.ok b)) (ok := decide (okInf (infX (.ok b)).1)) (by omega)
    refine wc_region ?_
    refine wl_y (y_loadw rfl Try.underlying67 rfl (by rw [hz]; kernel_rfl) BM) rfl ?_
    refine wl_ef (ef_storeP (o := 0) rfl rfl (by rw [hz]; kernel_rfl) B2 (by rw [hz]; decide) (all_ones ho)) rfl ?_
    rintro _ w6 ⟨rfl, D2, cg⟩
    have ex := Chs.one cg
    clear cg; rw [whole_cells (k := 7) rfl hz] at D2
    replace F := F.chs ex
    replace KA := KA.chs ex
    replace BM := BM.chs ex
    replace KM2 := KM2.chs ex
    refine wl_y (y_assign rfl) rfl ?_
    refine wl_nil ?_
    refine wq_then_norm (hK8 ?_)
    refine wc_ret ?_
    refine hret rfl rfl D2 hz ?_
    rw [hX, e1]; exact ⟨_, rfl, InfF.mono KM2.out (by omega), (by show 0 < 256; omega), (F.drop (by omega)).drop (by omega) |>.toExt (by simp)⟩
end Go.Proofs.Ytpgalbgonmclaaa
