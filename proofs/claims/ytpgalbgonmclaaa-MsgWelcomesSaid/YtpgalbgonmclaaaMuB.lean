/- Infos, welcomes and a guest's secrets of bytes: what msg hands back. No conditions: contracts of the program's functions. -/
import Derived.Test.YtpgalbgonmclaaaMuA
namespace Go.Proofs.Ytpgalbgonmclaaa
open Go.RowKit
attribute [local irreducible] Y Ef WL WC WK WQ WM OpM WN WF OpN WJ OpJ WG OpG
open Wire Nd M20
def zInfV : Array Value := infV nilH 0 nilH nilH nilH 0 nilH
def zWelV : Array Value := twoV nilH nilH
theorem InfF.zero (base : Nat) (w : World) : InfF base w zInfV Inf.zero := ⟨_, _, _, _, _, rfl, (by decide), (by decide), Fb.nil _ _ _, Fb.nil _ _ _, Fb.nil _ _ _, Fb.nil _ _ _, Fb.nil _ _ _⟩
theorem WelF.zero (base : Nat) (w : World) : WelF base w zWelV Wel.zero := ⟨_, _, rfl, ElsF.nil _ _ _ _ _, Fb.nil _ _ _⟩
theorem InfF.size {base : Nat} {w : World} {cs : Array Value} {x : Inf} (h : InfF base w cs x) : cs.size = 7 ∧ ones cs.toList = true := by
  obtain ⟨g, t, u, tg, sg, rfl, _⟩ := h; exact ⟨rfl, rfl⟩
theorem WelF.size {base : Nat} {w : World} {cs : Array Value} {x : Wel} (h : WelF base w cs x) : cs.size = 2 ∧ ones cs.toList = true := by
  obtain ⟨a, b, rfl, _⟩ := h; exact ⟨rfl, rfl⟩
theorem eltGst : EltW Try.prog 78 142 3 72 := EltW.of Try.underlying78 (z := .agg #[.slice none 0 0, .slice none 0 0, .slice none 0 0]) (by kernel_rfl) rfl (by omega)
theorem gst_dec (y : UInt8) (ys r : List UInt8) (h : (gstX (.ok (y :: ys))).2 = .ok r) : r.length < (y :: ys).length := by
  have h' : (vecX (vecX (vecX (.ok (y :: ys))).2).2).2 = .ok r := h
  have h1 := (vecX_le (vecX (.ok (y :: ys))).2).2
  have h2 := (vecX_le (vecX (vecX (.ok (y :: ys))).2).2).2
  rw [h'] at h2
  have h2' : r.length ≤ slen (vecX (vecX (.ok (y :: ys))).2).2 := h2
  rcases st_cases (vecX (.ok (y :: ys))).2 with ⟨c, hc⟩ | ⟨q, hq⟩
  · rw [hc] at h'; cases h'
  · have h3 := vec_dec hq
    rw [hq] at h1 h2'
    have h1' : slen (vecX (.ok q)).2 ≤ q.length := h1
    omega
section
variable {N3 M x gx gs gi base : Nat} {T : List Nat} {st : St}
theorem welOf11_any {zs : List Gst} (w : World) (X : In N3 T w x gx st) (HJ : RowJ gs 80 (fun h => twoV h nilH) (GstF base) 3 142 gi N3 x gx zs w) (hx : M ≤ x) (hg : M ≤ gx) (hx3 : x < N3) (hg3 : gx < N3) (hs3 : gs < N3) (hi3 : gi < N3) (hsx : gs ≠ x) (hsg : gs ≠ gx) (h3 : N3 ≤ w.heap.size) (hm : gs ∈ T) (hb : base ≤ w.heap.size) (hM : M ≤ N3) (hz : zs.length < 1073741824) :
    Calls Try.prog 129 #[.pointer (some ⟨x, 0, none⟩), .pointer (some ⟨gs, 0, none⟩)] w fun e w' => e = .returned (.tuple #[]) ∧ In N3 T w' x gx (gstX st).2 ∧ RowJ gs 80 (fun h => twoV h nilH) (GstF base) 3 142 gi N3 x gx (zs ++ [(gstX st).1]) w' ∧ Lat M [gs] w w' := by
  obtain ⟨⟨hA, hn, hc⟩, BS, EK⟩ := HJ
  have F := Chs.refl [gx, x] w
  have hmi := X.memi
  have hmr := X.memr
  have hown := EK.own
  have hlen := EK.len
  dsimp only at BS EK hown hlen
  refine vc_enter0 21 Try.func129 rfl rfl rfl rfl ?_
  intro Q hret
  refine wc_seq ?_; intro K1 hK1
  refine wc_region ?_
  refine wl_ef (ef_alloc (Z := #[.slice none 0 0, .slice none 0 0, .slice none 0 0]) (by kernel_rfl)) rfl ?_
  rintro _ wB3 ⟨gB3, rfl, B3, hgB3, ex⟩
  have lB3 := B3.lt; have zB3 := ex.size
  replace F := F.grow ex hgB3
  replace X := X.grow ex hgB3
  replace BS := BS.grow ex hgB3
  refine wl_nil ?_
  refine wq_then_norm (hK1 ?_)
  refine wc_seq ?_; intro K2 hK2
  refine wc_region ?_
  refine wl_y (y_move rfl) rfl ?_
  have q3 := B3.lt; have q4 := F.size
  refine wl_call Try.func114 rfl rfl rfl (ivec_any _ X) rfl ?_
  rintro e w1 ⟨A1, n1, c1, rfl, hc1', V1, X1, ex⟩
  refine ⟨_, rfl, ?_⟩
  replace F := F.chs ex
  replace BS := BS.chs ex
  replace B3 := B3.chs ex
  have J1 := V1.kk (S := (Value.slice hA hn hc).ownBlock.toList ++ [x, gx, gs, gi, gB3]) (fun g hg => by rcases List.mem_append.1 hg with h | h; have := hown g h; omega; simp at h; omega)
  refine wl_y (y_fieldAddr (o := 0) (s := 1) (off := 0) (o' := 0) rfl Try.underlying142 rfl (by kernel_rfl) rfl rfl) rfl ?_
  refine wl_ef (ef_storeB (i := 0) rfl rfl rfl (by kernel_rfl) B3 (Nat.le_of_ble_eq_true rfl)) rfl ?_
  rintro _ wS1_3 ⟨rfl, D, cg⟩
  have ex := Chs.one cg
  clear cg
  replace F := F.chs ex
  replace BS := BS.chs ex
  replace X1 := X1.chs ex
  replace J1 := J1.chs ex
  replace B3 := D; clear D
  refine wl_nil ?_
  refine wq_then_norm (hK2 ?_)
  refine wc_seq ?_; intro K3 hK3
  refine wc_region ?_
  refine wl_y (y_move rfl) rfl ?_
  have r3 := B3.lt; have q5 := F.size
  refine wl_call Try.func114 rfl rfl rfl (ivec_any _ X1) rfl ?_
  rintro e w2 ⟨A2, n2, c2, rfl, hc2', V2, X2, ex⟩
  refine ⟨_, rfl, ?_⟩
  replace F := F.chs ex
  replace BS := BS.chs ex
  replace B3 := B3.chs ex
  replace J1 := J1.chs ex
  have J2 := V2.kk (S := (Value.slice hA hn hc).ownBlock.toList ++ [x, gx, gs, gi, gB3]) (fun g hg => by rcases List.mem_append.1 hg with h | h; have := hown g h; omega; simp at h; omega)
  refine wl_y (y_fieldAddr (o := 1) (s := 2) (off := 0) (o' := 1) rfl Try.underlying142 rfl (by kernel_rfl) rfl rfl) rfl ?_
  refine wl_y (y_fieldAddr (o := 0) (s := 1) (off := 1) (o' := 1) rfl Try.underlying111 rfl (by kernel_rfl) rfl rfl) rfl ?_
  refine wl_ef (ef_storeB (i := 1) rfl rfl rfl (by kernel_rfl) B3 (Nat.le_of_ble_eq_true rfl)) rfl ?_
  rintro _ wS2_4 ⟨rfl, D, cg⟩
  have ex := Chs.one cg
  clear cg
  replace F := F.chs ex
  replace BS := BS.chs ex
  replace J1 := J1.chs ex
  replace X2 := X2.chs ex
  replace J2 := J2.chs ex
  replace B3 := D; clear D
  refine wl_nil ?_
  refine wq_then_norm (hK3 ?_)
  refine wc_seq ?_; intro K4 hK4
  refine wc_region ?_
  refine wl_y (y_move rfl) rfl ?_
  have s3 := B3.lt; have q6 := F.size
  refine wl_call Try.func114 rfl rfl rfl (ivec_any _ X2) rfl ?_
  rintro e w5 ⟨A5, n5, c5, rfl, hc5', V5, X3, ex⟩
  refine ⟨_, rfl, ?_⟩
  replace F := F.chs ex
  replace BS := BS.chs ex
  replace B3 := B3.chs ex
  replace J1 := J1.chs ex
  replace J2 := J2.chs ex
  have J3 := V5.kk (S := (Value.slice hA hn hc).ownBlock.toList ++ [x, gx, gs, gi, gB3]) (fun g hg => by rcases List.mem_append.1 hg with h | h; have := hown g h; omega; simp at h; omega)
  refine wl_y (y_fieldAddr (o := 1) (s := 2) (off := 0) (o' := 1) rfl Try.underlying142 rfl (by kernel_rfl) rfl rfl) rfl ?_
  refine wl_y (y_fieldAddr (o := 1) (s := 1) (off := 1) (o' := 2) rfl Try.underlying111 rfl (by kernel_rfl) rfl rfl) rfl ?_
  refine wl_ef (ef_storeB (i := 2) rfl rfl rfl (by kernel_rfl) B3 (Nat.le_of_ble_eq_true rfl)) rfl ?_
  rintro _ wS3_4 ⟨rfl, D, cg⟩
  have ex := Chs.one cg
  clear cg
  replace F := F.chs ex
  replace BS := BS.chs ex
  replace J1 := J1.chs ex
  replace J2 := J2.chs ex
  replace X3 := X3.chs ex
  replace J3 := J3.chs ex
  replace B3 := D; clear D
  refine wl_nil ?_
  refine wq_then_norm (hK4 ?_)
  refine wc_region ?_
  refine wl_y (y_fieldAddr (o := 0) (s := 1) (off := 0) (o' := 0) rfl Try.underlying80 rfl (by kernel_rfl) rfl rfl) rfl ?_
  refine wl_y (y_load1 rfl Try.underlying78 rfl (BS.get (i := 0) rfl)) rfl ?_
  refine wl_y (y_loadx (o := 0) (s := 3) rfl Try.underlying142 rfl (by kernel_rfl) B3 rfl) rfl ?_
  refine wl_ef (ef_litS (cells := thrV ⟨A1, n1, c1⟩ ⟨A2, n2, c2⟩ ⟨A5, n5, c5⟩) Try.underlying78 rfl (by kernel_rfl)) rfl ?_
  rintro _ w3 ⟨g13, rfl, B13, hg13, ex⟩
  replace F := F.ext ex
  replace BS := BS.ext ex
  replace B3 := B3.ext ex
  replace J1 := J1.ext ex
  replace J2 := J2.ext ex
  replace X3 := X3.ext ex
  replace J3 := J3.ext ex
  skip
  have z3 := F.size
  have LF : Lat M [gs] w _ := F.lat (by omega)
  have EK2 := (EK.chs (F.drop hgB3) (by simp) (by simp; omega)).bump z3 (Nat.le_refl _)
  obtain ⟨hl, vals, hr, hk⟩ := EK2
  refine wl_ef (ef_appW (A := hA) (n := hn) (c := hc) rfl rfl eltGst hr B13 rfl (all_ones rfl) (by omega) (by omega) (by omega)) rfl ?_
  rintro _ w4 ⟨A4, c4, rfl, R4, gr4, hgl⟩
  have L4 : Lat N3 [] w3 w4 := lat_own gr4 (by omega) fun k hk => (hown k hk).1
  have HE : ElsK (GstF base) 3 142 N3 w3.heap.size [x, gx, gs, gi] w4 A4 (hn + 1) c4 (zs ++ [⟨(vecX st).1, (vecX (vecX st).2).1, (vecX (vecX (vecX st).2).2).1⟩]) := ElsK.app (cs := thrV ⟨A1, n1, c1⟩ ⟨A2, n2, c2⟩ ⟨A5, n5, c5⟩) hl hr hk ((((J1.bump J1.1 (Nat.le_refl _)).and (J2.bump J2.1 (Nat.le_refl _))).and (J3.bump J3.1 (Nat.le_refl _))).map (fun _ ⟨⟨a, b⟩, c⟩ => ⟨_, _, _, rfl, a.mono (by omega), b.mono (by omega), c.mono (by omega)⟩) |>.mono (fun k hk => by simp at hk ⊢; rcases hk with h | h | h | h | h <;> simp [h])) rfl R4 gr4 hgl
  have BS : Blk w4 gs 80 (twoV ⟨hA, hn, hc⟩ nilH) := (L4.block gs hs3 (by simp)).trans BS
  replace X3 := X3.lat L4 (Nat.le_refl _) (by simp) hx3 hg3 (by simp) (by simp)
  replace LF := LF.tr (Lat.mono (V := []) ⟨L4.os, L4.tape, L4.output, L4.size, fun k hk hn => L4.block k (by omega) hn⟩ (by simp)) 
  refine wl_y (y_fieldAddr (o := 0) (s := 1) (off := 0) (o' := 0) rfl Try.underlying80 rfl (by kernel_rfl) rfl rfl) rfl ?_
  have hm' : gs = gB3 ∨ gs ∈ T := .inr hm
  refine wl_ef (ef_storeB (i := 0) rfl rfl rfl (by kernel_rfl) BS (Nat.le_of_ble_eq_true rfl)) rfl ?_
  rintro _ wS4_6 ⟨rfl, D, cg⟩
  have ex := Chs.one cg
  clear cg
  replace X3 := X3.chs ex
  replace HE := HE.chs ex
  replace BS := D; clear D
  replace BS := BS.congr (cs' := twoV ⟨A4, hn + 1, c4⟩ nilH) rfl
  refine wl_nil ?_
  refine hret (.inr rfl) ?_
  have L5 := LF.tr (Chs.lat (M := M) ex (by have := L4.size; omega))
  have z4 := L4.size; have z5 := ex.size
  exact ⟨rfl, X3.mono (fun k hk => List.mem_cons_of_mem _ hk) hmi hmr, ⟨⟨A4, hn + 1, c4⟩, BS, HE.bump (by omega) (Nat.le_refl _)⟩, L5⟩
end
theorem welOf1_any {N gi gr gm M : Nat} {s : St} (w : World) (H : In N [gi, gr, gm] w gi gr s) (B : Blk w gm 80 zWelV) (hi : gi ≠ gm) (hr : gr ≠ gm) (hM1 : M ≤ gi) (hM2 : M ≤ gr) (hM : M ≤ w.heap.size) (hN : N ≤ w.heap.size) :
    Calls Try.prog 127 #[.pointer (some ⟨gi, 0, none⟩), .pointer (some ⟨gm, 0, none⟩)] w fun e w' => e = .returned (.tuple #[]) ∧ In N [gi, gr, gm] w' gi gr (welX s).2 ∧ (∃ cs, Blk w' gm 80 cs ∧ cs.size = 2 ∧ Kp w'.heap.size [gi, gm] (fun w => WelF M w cs (welX s).1) w') ∧ Lat M [gm] w w' := by
  have hli := H.lti
  have hlr := H.ltr
  have hlm := B.lt
  have hne := H.ne
  have F := Chs.refl [gr, gi, gm] w
  obtain ⟨l, hl⟩ : ∃ l, l = eachX gstX (justX 2 1 (justX 2 3 (justX 2 1 s))) := ⟨_, rfl⟩
  have hX : welX s = (⟨l.1, (vecX l.2).1⟩, (vecX l.2).2) := by rw [hl]; rfl
  refine vc_enter0 15 Try.func127 rfl rfl rfl rfl ?_
  intro Q hret
  refine wc_seq ?_; intro K1 hK1
  refine wc_region ?_
  refine wl_y (y_move rfl) rfl ?_
  refine wl_call Try.func113 rfl rfl rfl (ijust_any 2 1 2 1 rfl rfl _ (by omega) H) rfl ?_
  rintro e w1 ⟨rfl, H1, ex⟩
  refine ⟨_, rfl, ?_⟩
  replace F := F.chs ex
  replace B := B.chs ex
  refine wl_nil ?_
  refine wq_then_norm (hK1 ?_)
  refine wc_seq ?_; intro K2 hK2
  refine wc_region ?_
  refine wl_y (y_move rfl) rfl ?_
  refine wl_call Try.func113 rfl rfl rfl (ijust_any 2 3 2 3 rfl rfl _ (by omega) H1) rfl ?_
  rintro e w2 ⟨rfl, H2, ex⟩
  refine ⟨_, rfl, ?_⟩
  replace F := F.chs ex
  replace B := B.chs ex
  refine wl_nil ?_
  refine wq_then_norm (hK2 ?_)
  refine wc_seq ?_; intro K3 hK3
  refine wc_region ?_
  refine wl_y (y_move rfl) rfl ?_
  refine wl_call Try.func113 rfl rfl rfl (ijust_any 2 1 2 1 rfl rfl _ (by omega) H2) rfl ?_
  rintro e w3 ⟨rfl, H3, ex⟩
  refine ⟨_, rfl, ?_⟩
  replace F := F.chs ex
  replace B := B.chs ex
  refine wl_nil ?_
  refine wq_then_norm (hK3 ?_)
  refine wc_seq ?_; intro K4 hK4
  refine wc_region ?_
  refine wl_y (y_move rfl) rfl ?_
  refine wl_y (y_func rfl) rfl ?_
  have z3 := F.size
  have hS3 : ∀ k ∈ [gi, gr, gm], k < w3.heap.size := by simp; omega
  refine wl_call Try.func128 rfl rfl rfl (ieach_any (f := gstX) (V := [gm]) (J := fun N3 x gx zs w => RowJ gm 80 (fun h => twoV h nilH) (GstF w3.heap.size) 3 142 gi N3 x gx zs w) _ H3 Try.func129 rfl rfl hS3 (by omega) (by simp) (by simp; omega) (by simp; omega) gst_dec (fun w1 x gx C hx hg hx1 hg1 => RowJ.start (B.chs C (by simp; omega))) (fun N3 x gx zs w1 w2 hN h k => h.note k (by omega) (by omega)) (fun N3 x gx ys zs w1 hx hg hx3 hg3 h3 hz X HJ => welOf11_any w1 X HJ hx hg hx3 hg3 (by omega) (by omega) (by omega) (by omega) h3 (by simp) (by omega) (by omega) (by omega))) rfl ?_
  rintro e w4 ⟨rfl, H4, ⟨N3, x, gx, hN3, HJ⟩, ex⟩
  refine ⟨_, rfl, ?_⟩
  replace F := F.chs ex
  rw [← hl] at H4 HJ; obtain ⟨⟨hA, hn, hc⟩, B, HE⟩ := HJ.els; have KE := HE.kk (S := [gi, gr, gm]) (by omega) (by simp; omega) (fun _ _ h => GstF.kk h (by simp; omega))
  refine wl_nil ?_
  refine wq_then_norm (hK4 ?_)
  refine wc_region ?_
  refine wl_y (y_move rfl) rfl ?_
  have q3 := F.size
  refine wl_call Try.func114 rfl rfl rfl (ivec_any _ H4) rfl ?_
  rintro e w5 ⟨A2, n2, c2, rfl, hc2', V2, H5, ex⟩
  refine ⟨_, rfl, ?_⟩
  replace F := F.chs ex
  replace B := B.chs ex
  replace KE := KE.chs ex
  have J2 := V2.kk (S := [gi, gr, gm]) (by simp; omega)
  refine wl_y (y_fieldAddr (o := 1) (s := 1) (off := 0) (o' := 1) rfl Try.underlying80 rfl (by kernel_rfl) rfl rfl) rfl ?_
  refine wl_ef (ef_storeB (i := 1) rfl rfl rfl (by kernel_rfl) B (Nat.le_of_ble_eq_true rfl)) rfl ?_
  rintro _ wS4_3 ⟨rfl, D, cg⟩
  have ex := Chs.one cg
  clear cg
  replace F := F.chs ex
  replace KE := KE.chs ex
  replace H5 := H5.chs ex
  replace J2 := J2.chs ex
  replace B := D; clear D
  replace B := B.congr (cs' := twoV ⟨hA, hn, hc⟩ ⟨A2, n2, c2⟩) rfl
  refine wl_nil ?_
  refine hret (.inr rfl) ?_
  rw [hX]
  exact ⟨rfl, H5, ⟨_, B, rfl, ((KE.bump KE.1 (Nat.le_refl _)).and (J2.bump J2.1 (Nat.le_refl _))).map (fun _ ⟨a, b⟩ => ⟨_, _, rfl, a.mono (by omega) (fun _ _ h => GstF.mono h (by omega)), b.mono (by omega)⟩) |>.mono (by simp)⟩, F.lat hM⟩
theorem gst_fit {s : St} (h : slen s ≤ 10000) : (gstX s).1.Fit := by
  have h1 := vec_fit (s := s) (B := 10000) h
  have h2 := vec_fit (s := (vecX s).2) (B := 10000) h1.2
  have h3 := vec_fit (s := (vecX (vecX s).2).2) (B := 10000) h2.2
  exact ⟨Nat.le_trans h1.1 (by omega), Nat.le_trans h2.1 (by omega), Nat.le_trans h3.1 (by omega)⟩
theorem gst_le (s : St) : slen (gstX s).2 ≤ slen s := Nat.le_trans (vecX_le _).2 (Nat.le_trans (vecX_le _).2 (vecX_le s).2)
theorem wel_fit {s : St} (h : slen s ≤ 10000) : (welX s).1.Fit := by
  have h1 := just_le 2 1 s
  have h2 := just_le 2 3 (justX 2 1 s)
  have h3 := just_le 2 1 (justX 2 3 (justX 2 1 s))
  have h4 := each_fit (f := gstX) (P := Gst.Fit) (s := justX 2 1 (justX 2 3 (justX 2 1 s))) (B := 10000) (by omega) (fun ys hy => gst_fit hy) (le_of gst_le)
  have h5 := each_le gstX (justX 2 1 (justX 2 3 (justX 2 1 s)))
  have h6 := vec_fit (s := (eachX gstX (justX 2 1 (justX 2 3 (justX 2 1 s)))).2) (B := 10000) (by omega)
  exact ⟨h4.1, h4.2, Nat.le_trans h6.1 (by omega)⟩
def Inf.Fit (i : Inf) : Prop := i.ctx.grp.length ≤ 1000000 ∧ i.ctx.tree.length ≤ 1000000 ∧ i.ctx.trans.length ≤ 1000000 ∧ i.tag.length ≤ 1000000 ∧ i.sig.length ≤ 1000000
theorem welOf2_any {gm : Nat} {cs : Array Value} {x : Wel} (w : World) (B : Blk w gm 80 cs) (hz : cs.size = 2) (H : WelAt w cs x) (hf : x.Fit) :
    Calls Try.prog 130 #[.pointer (some ⟨gm, 0, none⟩)] w fun e w' => e = .returned (.bool (decide (okWel x))) ∧ Ext w w' := by
  have E := Ext.refl w
  refine vc_enter1 4 Try.func130 rfl rfl rfl rfl ?_
  intro Q hret
  refine wc_seq ?_; intro K1 hK1
  refine wc_region ?_
  refine wl_y (y_assign rfl) rfl ?_
  refine wl_nil ?_
  refine wq_then_norm (hK1 ?_)
  refine wc_seq ?_; intro K2 hK2
  refine wc_region ?_
  refine wl_y (y_loadw rfl Try.underlying80 rfl (by rw [hz]; kernel_rfl) B) rfl ?_
  refine wl_call Try.func123 rfl rfl rfl (rightWelcome_any _ H (by have := hf.1; omega)) rfl ?_
  rintro e w1 ⟨rfl, ex⟩
  refine ⟨_, rfl, ?_⟩
  replace E := E.ext ex
  skip
  refine wl_y (y_assign rfl) rfl ?_
  refine wl_nil ?_
  refine wq_then_norm (hK2 ?_)
  refine wc_ret ?_
  refine hret rfl ?_
  exact ⟨rfl, E⟩
theorem welOf_any {A : Option Addr} {n c : Nat} {b : List UInt8} (w : World) (HA : Bs w A n b) (hc : n ≤ c) (hn : n ≤ 1048576) (hfit : (welX (.ok b)).1.Fit) :
    Calls Try.prog 58 #[.slice A n c] w fun e w' => ∃ cs, e = .returned (.tuple #[.agg cs, .int .u8 (((welOf b).2 : Nat) : Int)]) ∧ WelF w.heap.size w' cs (welOf b).1 ∧ (welOf b).2 < 256 ∧ Ext w w' := by
  have F := Chs.refl [] w
  have KA : Kp w.heap.size [] (fun w => Bs w A n b) w := Kp.bs HA (by simp)
  have hbl := HA.1
  have hX : welOf b = wholeX Wel.zero (welX (.ok b)) (decide (okWel (welX (.ok b)).1)) := rfl
  refine vc_enterct (s := 2) 17 Try.func58 rfl rfl rfl Try.underlying80 rfl (by kernel_rfl) rfl ?_
  intro Q hret
  refine wc_seq ?_; intro K1 hK1
  refine wc_region ?_
  refine wl_ef (ef_alloc (Z := #[.slice none 0 0, .slice none 0 0]) (by kernel_rfl)) rfl ?_
  rintro _ wB2 ⟨gB2, rfl, B2, hgB2, ex⟩
  have lB2 := B2.lt; have zB2 := ex.size
  replace F := F.grow ex hgB2
  replace KA := KA.grow ex hgB2
  refine wl_y (y_assign rfl) rfl ?_
  refine wl_nil ?_
  refine wq_then_norm (hK1 ?_)
  refine wc_seq ?_; intro K2 hK2
  refine wc_region ?_
  refine wl_ef (ef_alloc (Z := #[.slice none 0 0, .slice none 0 0]) (by kernel_rfl)) rfl ?_
  rintro _ wB4 ⟨gB4, rfl, B4, hgB4, ex⟩
  have lB4 := B4.lt; have zB4 := ex.size
  have nB2_4 : gB2 < gB4 := Nat.lt_of_lt_of_le B2.lt hgB4
  replace F := F.grow ex hgB4
  replace KA := KA.grow ex hgB4
  replace B2 := B2.grow ex hgB4
  refine wl_nil ?_
  refine wq_then_norm (hK2 ?_)
  refine wc_seq ?_; intro K3 hK3
  refine wc_region ?_
  refine wl_y (y_func rfl) rfl ?_
  refine wl_y (y_assign rfl) rfl ?_
  refine wl_nil ?_
  refine wq_then_norm (hK3 ?_)
  refine wc_seq ?_; intro K4 hK4
  refine wc_seq ?_; intro K5 hK5
  refine wc_region ?_
  refine wl_y (y_move rfl) rfl ?_
  refine wl_y (y_move rfl) rfl ?_
  refine wl_y (y_func rfl) rfl ?_
  have q2 := B2.lt; have q4 := B4.lt; have q5 := F.size
  replace B4 := B4.congr (cs' := zWelV) rfl
  refine wl_call Try.func116 rfl rfl rfl (read_any (N := w.heap.size) (V := [gB4]) (t := (welX (.ok b)).2) (okv := decide (okWel (welX (.ok b)).1)) (us := [.pointer (some ⟨gB4, 0, none⟩)]) (vs := [.pointer (some ⟨gB4, 0, none⟩)]) (Ψ := fun gi w => ∃ cs, Blk w gB4 80 cs ∧ cs.size = 2 ∧ Kp w.heap.size [gi, gB4] (fun w => WelF wB4.heap.size w cs (welX (.ok b)).1) w) _ (KA.mono (by simp)) hc (by omega) (by simp; omega) Try.func127 rfl rfl Try.func130 rfl rfl (fun w1 gi gr E hi hr H hS => welOf1_any w1 H (B4.ext E) (by omega) (by omega) hi hr E.size (Nat.le_trans (by omega) E.size)) (fun gi w1 w2 hi ⟨cs, B, hz, K⟩ C => ⟨cs, B.chs C (by simp; omega), hz, (K.chs C (by simp)).bump C.size (Nat.le_refl _)⟩) (fun gi w1 ⟨cs, B, hz, K⟩ _ => welOf2_any w1 B hz (WelF.at K.out) hfit)) rfl ?_
  rintro e w5 ⟨rfl, ⟨gi, hgi, cs, BM, hz, KM⟩, h256, ex⟩
  refine ⟨_, rfl, ?_⟩
  replace F := F.chs ex
  replace KA := KA.chs ex
  replace B2 := B2.chs ex
  have h5 := ex.size; have h9 := KM.1; have KM2 := (WelF.kk KM.out (S := [gB2, gB4]) (by simp; omega)); obtain ⟨_, ho⟩ := WelF.size KM.out; clear KM
  refine wl_y (y_assign rfl) rfl ?_
  refine wl_nil ?_
  refine wq_then_norm (hK5 ?_)
  refine wc_seq ?_; intro K6 hK6
  refine wc_region ?_
  refine wl_y (y_move rfl) rfl ?_
  refine wl_y (y_neq rfl rfl) rfl ?_
  refine wl_nil ?_
  refine wq_then_norm (hK6 ?_)
  refine wc_dec rfl (fun hc1 => ?_) (fun hc1 => ?_)
  · skip
    refine wc_seq ?_; intro K7 hK7
    have e1 := whole_no (z := Wel.zero) (p := welX (.ok b)) (ok := decide (okWel (welX (.ok b)).1)) (by omega)
    refine wc_region ?_
    refine wl_y (y_build rfl (cells := zWelV) (by kernel_rfl)) rfl ?_
    refine wl_y (y_move rfl) rfl ?_
    refine wl_ef (ef_storeP (o := 0) rfl rfl (by kernel_rfl) B2 (Nat.le_of_ble_eq_true rfl) (all_ones rfl)) rfl ?_
    rintro _ wS5_2 ⟨rfl, D, cg⟩
    have ex := Chs.one cg
    clear cg
    replace F := F.chs ex
    replace KA := KA.chs ex
    replace BM := BM.chs ex
    replace KM2 := KM2.chs ex
    replace B2 := D; clear D
    replace B2 := B2.congr (cs' := zWelV) rfl
    refine wl_y (y_assign rfl) rfl ?_
    refine wl_nil ?_
    refine wq_then_norm (hK7 ?_)
    refine wc_ret ?_
    refine wq_then_ret ?_
    refine hret rfl rfl B2 rfl ?_
    rw [hX, e1]; exact ⟨_, rfl, WelF.zero _ _, (by dsimp only; split; exact h256; split <;> omega), (F.drop (by omega)).drop (by omega) |>.toExt (by simp)⟩
  · skip
    refine wc_skip ?_
    refine wq_then_norm (hK4 ?_)
    refine wc_seq ?_; intro K8 hK8
    have e1 := whole_yes (z := Wel.zero) (p := welX (.ok b)) (ok := decide (okWel (welX (.ok b)).1)) (by omega)
    refine wc_region ?_
    refine wl_y (y_loadw rfl Try.underlying80 rfl (by rw [hz]; kernel_rfl) BM) rfl ?_
    refine wl_ef (ef_storeP (o := 0) rfl rfl (by rw [hz]; kernel_rfl) B2 (by rw [hz]; decide) (all_ones ho)) rfl ?_
    rintro _ w6 ⟨rfl, D2, cg⟩
    have ex := Chs.one cg
    clear cg; rw [whole_cells (k := 2) rfl hz] at D2
    replace F := F.chs ex
    replace KA := KA.chs ex
    replace BM := BM.chs ex
    replace KM2 := KM2.chs ex
    refine wl_y (y_assign rfl) rfl ?_
    refine wl_nil ?_
    refine wq_then_norm (hK8 ?_)
    refine wc_ret ?_
    refine hret rfl rfl D2 hz ?_
    rw [hX, e1]; exact ⟨_, rfl, WelF.mono KM2.out (by omega), (by show 0 < 256; omega), (F.drop (by omega)).drop (by omega) |>.toExt (by simp)⟩
end Go.Proofs.Ytpgalbgonmclaaa
