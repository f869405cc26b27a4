/- What the message layer's reader takes behind each other in a vector: steps of a way, commits. No conditions: contracts of the program's functions. -/
import Derived.Test.YtpgalbgonmclaaaGreatMsX
namespace Go.Proofs.YtpgalbgonmclaaaGreat
open Go.RowKit
attribute [local irreducible] Y Ef WL WC WK WQ WM OpM WN WF OpN WJ OpJ
open Wire Nd M20
theorem eltBxd : EltW Tryz.prog 96 100 2 48 := EltW.of Tryz.underlying96 (z := .agg #[.slice none 0 0, .slice none 0 0]) (by kernel_rfl) rfl (by omega)
theorem eltStp : EltW Tryz.prog 36 98 2 48 := EltW.of Tryz.underlying36 (z := .agg #[.slice none 0 0, .slice none 0 0]) (by kernel_rfl) rfl (by omega)
theorem eltItm : EltW Tryz.prog 35 95 17 344 := EltW.of Tryz.underlying35 (z := .agg (itmV nilH 0 nilH nilH nilH nilH 0 nilH nilH nilH nilH nilH nilH 0 nilH nilH 0)) (by kernel_rfl) rfl (by omega)
/-- A row that grows in a block: the block's cells but for the row are as they were. -/
def RowJ {α : Type} (gc : Nat) (tc : TypeId) (cf : Hd → Array Value) (R : World → Array Value → α → Prop) (sz : Nat) (e : TypeId) (gi : Nat) (N3 x gx : Nat) (zs : List α) (w : World) : Prop :=
  ∃ h : Hd, Blk w gc tc (cf h) ∧ ElsK R sz e N3 w.heap.size [x, gx, gc, gi] w h.A h.n h.c zs
section
variable {α : Type} {gc : Nat} {tc e : TypeId} {cf : Hd → Array Value} {R : World → Array Value → α → Prop} {sz gi N3 x gx : Nat} {zs : List α} {w w' : World}
theorem RowJ.start (B : Blk w gc tc (cf nilH)) : RowJ gc tc cf R sz e gi N3 x gx [] w := ⟨nilH, B, ElsK.empty _ _ _ _ _ _ _⟩
theorem RowJ.note (h : RowJ gc tc cf R sz e gi N3 x gx zs w) (k : Chs [gi] w w') (hn : gc ≠ gi) (hi : gi < N3) : RowJ gc tc cf R sz e gi N3 x gx zs w' := by
  obtain ⟨hd, B, E⟩ := h
  exact ⟨hd, B.chs k (by simpa using hn), (E.chs k (by simp) (by simpa using hi)).bump k.size (Nat.le_refl _)⟩
theorem RowJ.els (h : RowJ gc tc cf R sz e gi N3 x gx zs w) : ∃ h : Hd, Blk w gc tc (cf h) ∧ ElsF N3 R sz w h.A h.n zs := by
  obtain ⟨hd, B, E⟩ := h
  exact ⟨hd, B, E.els⟩
end
theorem ElsK.len {α : Type} {R : World → Array Value → α → Prop} {sz : Nat} {e : TypeId} {base N : Nat} {S : List Nat} {w : World} {A : Option Addr} {n c : Nat} {zs : List α} (h : ElsK R sz e base N S w A n c zs) : zs.length = n := h.1
theorem ElsK.own {α : Type} {R : World → Array Value → α → Prop} {sz : Nat} {e : TypeId} {base N : Nat} {S : List Nat} {w : World} {A : Option Addr} {n c : Nat} {zs : List α} (h : ElsK R sz e base N S w A n c zs) : ∀ g ∈ (Value.slice A n c).ownBlock.toList, base ≤ g ∧ g < w.heap.size := by
  obtain ⟨_, vals, hr, _⟩ := h; exact hr.ownGe
theorem lat_own {w w' : World} {o : Option Nat} {M : Nat} (gr : w.grownBy w' o) (hM : M ≤ w.heap.size) (hS : ∀ k ∈ o.toList, M ≤ k) : Lat M [] w w' := (Chs.own' gr).lat hM fun k hk hlt => absurd hlt (by have := hS k hk; omega)
section
variable {N3 M x gx gs gi base : Nat} {T : List Nat} {hd : Hd} {st : St}
theorem step1_any {zs : List Bxd} (w : World) (X : In N3 T w x gx st) (HJ : RowJ gs 98 (fun h => twoV hd h) (BxdF base) 2 100 gi N3 x gx zs w) (hx : M ≤ x) (hg : M ≤ gx) (hx3 : x < N3) (hg3 : gx < N3) (hs3 : gs < N3) (hi3 : gi < N3) (hsx : gs ≠ x) (hsg : gs ≠ gx) (h3 : N3 ≤ w.heap.size) (hm : gs ∈ T) (hb : base ≤ w.heap.size) (hM : M ≤ N3) (hz : zs.length < 1073741824) :
    Calls Tryz.prog 121 #[.pointer (some ⟨x, 0, none⟩), .pointer (some ⟨gs, 0, none⟩)] w fun e w' => e = .returned (.tuple #[]) ∧ In N3 T w' x gx (bxdX st).2 ∧ RowJ gs 98 (fun h => twoV hd h) (BxdF base) 2 100 gi N3 x gx (zs ++ [(bxdX st).1]) w' ∧ Lat M [gs] w w' := by
  obtain ⟨⟨hA, hn, hc⟩, BS, EK⟩ := HJ
  have F := Chs.refl [gx, x] w
  have hmi := X.memi
  have hmr := X.memr
  have hown := EK.own
  have hlen := EK.len
  dsimp only at BS EK hown hlen
  refine vc_enter0 16 Tryz.func121 rfl rfl rfl rfl ?_
  intro Q hret
  refine wc_seq ?_; intro K1 hK1
  refine wc_region ?_
  refine wl_ef (ef_alloc (Z := #[.slice none 0 0, .slice none 0 0]) (by kernel_rfl)) rfl ?_
  rintro _ wB3 ⟨gB3, rfl, B3, hgB3, ex⟩
  have lB3 := B3.lt; have zB3 := ex.size
  replace F := F.grow ex hgB3
  replace X := X.grow ex hgB3
  replace BS := BS.grow ex hgB3
  refine wl_nil ?_
  refine wq_then_norm (hK1 ?_)
  refine wc_seq ?_; intro K2 hK2
  refine wc_region ?_
  refine wl_y (y_move rfl) rfl ?_
  have q3 := B3.lt; have q4 := F.size
  refine wl_call Tryz.func74 rfl rfl rfl (ivec_any _ X) rfl ?_
  rintro e w1 ⟨A1, n1, c1, rfl, hc1', V1, X1, ex⟩
  refine ⟨_, rfl, ?_⟩
  replace F := F.chs ex
  replace BS := BS.chs ex
  replace B3 := B3.chs ex
  have J1 := V1.kk (S := (Value.slice hA hn hc).ownBlock.toList ++ [x, gx, gs, gi, gB3]) (fun g hg => by rcases List.mem_append.1 hg with h | h; have := hown g h; omega; simp at h; omega)
  refine wl_y (y_fieldAddr (o := 0) (s := 1) (off := 0) (o' := 0) rfl Tryz.underlying100 rfl (by kernel_rfl) rfl rfl) rfl ?_
  refine wl_ef (ef_storeB (i := 0) rfl rfl rfl (by kernel_rfl) B3 (Nat.le_of_ble_eq_true rfl)) rfl ?_
  rintro _ wS1_3 ⟨rfl, D, cg⟩
  have ex := Chs.one cg
  clear cg
  replace F := F.chs ex
  replace BS := BS.chs ex
  replace X1 := X1.chs ex
  replace J1 := J1.chs ex
  replace B3 := D; clear D
  refine wl_nil ?_
  refine wq_then_norm (hK2 ?_)
  refine wc_seq ?_; intro K3 hK3
  refine wc_region ?_
  refine wl_y (y_move rfl) rfl ?_
  have q3 := B3.lt; have q5 := F.size
  refine wl_call Tryz.func74 rfl rfl rfl (ivec_any _ X1) rfl ?_
  rintro e w2 ⟨A2, n2, c2, rfl, hc2', V2, X2, ex⟩
  refine ⟨_, rfl, ?_⟩
  replace F := F.chs ex
  replace BS := BS.chs ex
  replace B3 := B3.chs ex
  replace J1 := J1.chs ex
  have J2 := V2.kk (S := (Value.slice hA hn hc).ownBlock.toList ++ [x, gx, gs, gi, gB3]) (fun g hg => by rcases List.mem_append.1 hg with h | h; have := hown g h; omega; simp at h; omega)
  refine wl_y (y_fieldAddr (o := 1) (s := 1) (off := 0) (o' := 1) rfl Tryz.underlying100 rfl (by kernel_rfl) rfl rfl) rfl ?_
  refine wl_ef (ef_storeB (i := 1) rfl rfl rfl (by kernel_rfl) B3 (Nat.le_of_ble_eq_true rfl)) rfl ?_
  rintro _ wS2_3 ⟨rfl, D, cg⟩
  have ex := Chs.one cg
  clear cg
  replace F := F.chs ex
  replace BS := BS.chs ex
  replace J1 := J1.chs ex
  replace X2 := X2.chs ex
  replace J2 := J2.chs ex
  replace B3 := D; clear D
  refine wl_nil ?_
  refine wq_then_norm (hK3 ?_)
  refine wc_region ?_
  refine wl_y (y_fieldAddr (o := 1) (s := 1) (off := 0) (o' := 1) rfl Tryz.underlying98 rfl (by kernel_rfl) rfl rfl) rfl ?_
  refine wl_y (y_load1 rfl Tryz.underlying96 rfl (BS.get (i := 1) rfl)) rfl ?_
  refine wl_y (y_loadx (o := 0) (s := 2) rfl Tryz.underlying100 rfl (by kernel_rfl) B3 rfl) rfl ?_
  refine wl_ef (ef_litS (cells := twoV ⟨A1, n1, c1⟩ ⟨A2, n2, c2⟩) Tryz.underlying96 rfl (by kernel_rfl)) rfl ?_
  rintro _ w3 ⟨g13, rfl, B13, hg13, ex⟩
  replace F := F.ext ex
  replace BS := BS.ext ex
  replace B3 := B3.ext ex
  replace J1 := J1.ext ex
  replace X2 := X2.ext ex
  replace J2 := J2.ext ex
  skip
  have z3 := F.size
  have LF : Lat M [gs] w _ := F.lat (by omega)
  have EK2 := (EK.chs (F.drop hgB3) (by simp) (by simp; omega)).bump z3 (Nat.le_refl _)
  obtain ⟨hl, vals, hr, hk⟩ := EK2
  refine wl_ef (ef_appW (A := hA) (n := hn) (c := hc) rfl rfl eltBxd hr B13 rfl (all_ones rfl) (by omega) (by omega) (by omega)) rfl ?_
  rintro _ w4 ⟨A4, c4, rfl, R4, gr4, hgl⟩
  have L4 : Lat N3 [] w3 w4 := lat_own gr4 (by omega) fun k hk => (hown k hk).1
  have HE : ElsK (BxdF base) 2 100 N3 w3.heap.size [x, gx, gs, gi] w4 A4 (hn + 1) c4 (zs ++ [⟨(vecX st).1, (vecX (vecX st).2).1⟩]) := ElsK.app (cs := twoV ⟨A1, n1, c1⟩ ⟨A2, n2, c2⟩) hl hr hk (((J1.bump J1.1 (Nat.le_refl _)).and (J2.bump J2.1 (Nat.le_refl _))).map (fun _ ⟨a, b⟩ => ⟨_, _, rfl, a.mono (by omega), b.mono (by omega)⟩) |>.mono (fun k hk => by simp at hk ⊢; rcases hk with h | h | h | h | h <;> simp [h])) rfl R4 gr4 hgl
  have BS : Blk w4 gs 98 (twoV hd ⟨hA, hn, hc⟩) := (L4.block gs hs3 (by simp)).trans BS
  replace X2 := X2.lat L4 (Nat.le_refl _) (by simp) hx3 hg3 (by simp) (by simp)
  replace LF := LF.tr (Lat.mono (V := []) ⟨L4.os, L4.tape, L4.output, L4.size, fun k hk hn => L4.block k (by omega) hn⟩ (by simp)) 
  refine wl_y (y_fieldAddr (o := 1) (s := 1) (off := 0) (o' := 1) rfl Tryz.underlying98 rfl (by kernel_rfl) rfl rfl) rfl ?_
  have hm' : gs = gB3 ∨ gs ∈ T := .inr hm
  refine wl_ef (ef_storeB (i := 1) rfl rfl rfl (by kernel_rfl) BS (Nat.le_of_ble_eq_true rfl)) rfl ?_
  rintro _ wS3_6 ⟨rfl, D, cg⟩
  have ex := Chs.one cg
  clear cg
  replace X2 := X2.chs ex
  replace HE := HE.chs ex
  replace BS := D; clear D
  replace BS := BS.congr (cs' := twoV hd ⟨A4, hn + 1, c4⟩) rfl
  refine wl_nil ?_
  refine hret (.inr rfl) ?_
  have L5 := LF.tr (Chs.lat (M := M) ex (by have := L4.size; omega))
  have z4 := L4.size; have z5 := ex.size
  exact ⟨rfl, X2.mono (fun k hk => List.mem_cons_of_mem _ hk) hmi hmr, ⟨⟨A4, hn + 1, c4⟩, BS, HE.bump (by omega) (Nat.le_refl _)⟩, L5⟩
end
theorem mem2 {P : Nat → Prop} {a b : Nat} {L : List Nat} (ha : P a) (hb : P b) (hL : ∀ k ∈ L, P k) : ∀ k ∈ a :: b :: L, P k := fun k hk => by
  simp only [List.mem_cons] at hk
  rcases hk with rfl | rfl | hk
  · exact ha
  · exact hb
  · exact hL k hk
theorem bxdX_le (s : St) : slen (bxdX s).2 ≤ slen s := by
  have h1 := (vecX_le s).2
  have h2 := (vecX_le (vecX s).2).2
  show slen (vecX (vecX s).2).2 ≤ _
  omega
theorem pVec_dec {xs v r : List UInt8} (h : pVec xs = .ok (v, r)) : r.length < xs.length := by
  obtain ⟨k, h1, h2, h3, _⟩ := pVec_drop h
  rw [h3, List.length_drop]; omega
theorem vec_dec {xs r : List UInt8} (h : (vecX (.ok xs)).2 = .ok r) : r.length < xs.length := by
  rw [vecX_ok] at h
  cases hp : pVec xs with
  | error c => rw [hp] at h; cases h
  | ok p =>
    rw [hp] at h
    injection h with h
    subst h
    exact pVec_dec (v := p.1) hp
theorem bxd_dec (y : UInt8) (ys r : List UInt8) (h : (bxdX (.ok (y :: ys))).2 = .ok r) : r.length < (y :: ys).length := by
  have h' : (vecX (vecX (.ok (y :: ys))).2).2 = .ok r := h
  rcases st_cases (vecX (.ok (y :: ys))).2 with ⟨c, hc⟩ | ⟨q, hq⟩
  · rw [hc] at h'; cases h'
  · rw [hq] at h'
    have h1 := vec_dec hq
    have h2 := vec_dec h'
    omega
section
variable {N gi gr : Nat} {S : List Nat} {s : St}
theorem istep_any (w : World) (H0 : In N S w gi gr s) (hS : ∀ k ∈ S, k < w.heap.size) (hN : N ≤ w.heap.size) :
    Calls Tryz.prog 91 #[.pointer (some ⟨gi, 0, none⟩)] w fun e w' => ∃ cs, e = .returned (.agg cs) ∧ StpF w.heap.size w' cs (stpX s).1 ∧ In N S w' gi gr (stpX s).2 ∧ Chs [gr, gi] w w' := by
  have F := Chs.refl [gr, gi] w
  have hmi := H0.memi
  have hmr := H0.memr
  have hli := H0.lti
  have hlr := H0.ltr
  have hne := H0.ne
  have H := H0
  refine vc_enterc1 (s := 2) 11 Tryz.func91 rfl rfl rfl Tryz.underlying98 rfl (by kernel_rfl) rfl ?_
  intro Q hret
  refine wc_seq ?_; intro K1 hK1
  refine wc_region ?_
  refine wl_ef (ef_alloc (Z := #[.slice none 0 0, .slice none 0 0]) (by kernel_rfl)) rfl ?_
  rintro _ wB2 ⟨gB2, rfl, B2, hgB2, ex⟩
  have lB2 := B2.lt; have zB2 := ex.size
  replace F := F.grow ex hgB2
  replace H := H.grow ex hgB2
  refine wl_nil ?_
  refine wq_then_norm (hK1 ?_)
  refine wc_seq ?_; intro K2 hK2
  refine wc_region ?_
  refine wl_y (y_move rfl) rfl ?_
  have q2 := B2.lt; have q4 := F.size
  refine wl_call Tryz.func74 rfl rfl rfl (ivec_any _ H) rfl ?_
  rintro e w1 ⟨A1, n1, c1, rfl, hc1', V1, H1, ex⟩
  refine ⟨_, rfl, ?_⟩
  replace F := F.chs ex
  replace B2 := B2.chs ex
  have J1 := V1.kk (S := [gB2, gr, gi]) (by simp; omega)
  refine wl_y (y_build rfl (cells := twoV ⟨A1, n1, c1⟩ nilH) (by kernel_rfl)) rfl ?_
  refine wl_ef (ef_alloc (Z := #[.slice none 0 0, .slice none 0 0]) (by kernel_rfl)) rfl ?_
  rintro _ wB3 ⟨gB3, rfl, B3, hgB3, ex⟩
  have lB3 := B3.lt; have zB3 := ex.size
  have nB2_3 : gB2 < gB3 := Nat.lt_of_lt_of_le B2.lt hgB3
  replace F := F.grow ex hgB3
  replace B2 := B2.grow ex hgB3
  replace H1 := H1.grow ex hgB3
  replace J1 := J1.grow ex hgB3
  refine wl_ef (ef_storeP (o := 0) rfl rfl (by kernel_rfl) B3 (Nat.le_of_ble_eq_true rfl) (all_ones rfl)) rfl ?_
  rintro _ wS1_4 ⟨rfl, D, cg⟩
  have ex := Chs.one cg
  clear cg
  replace F := F.chs ex
  replace B2 := B2.chs ex
  replace H1 := H1.chs ex
  replace J1 := J1.chs ex
  replace B3 := D; clear D
  replace B3 := B3.congr (cs' := twoV ⟨A1, n1, c1⟩ nilH) rfl
  refine wl_nil ?_
  refine wq_then_norm (hK2 ?_)
  refine wc_seq ?_; intro K3 hK3
  refine wc_region ?_
  refine wl_y (y_move rfl) rfl ?_
  refine wl_y (y_func rfl) rfl ?_
  have q2 := B2.lt; have q3 := B3.lt; have q5 := F.size
  have hS2 : ∀ k ∈ gB3 :: gB2 :: S, k < wS1_4.heap.size := fun k hk => by
    simp only [List.mem_cons] at hk
    rcases hk with rfl | rfl | hk
    · exact q3
    · exact q2
    · have := hS k hk; omega
  refine wl_call Tryz.func72 rfl rfl rfl (ieach_any (f := bxdX) (V := [gB3]) (J := fun N3 x gx zs w => RowJ gB3 98 (fun h => twoV ⟨A1, n1, c1⟩ h) (BxdF wS1_4.heap.size) 2 100 gi N3 x gx zs w) _ H1 Tryz.func121 rfl rfl hS2 (by omega) (by simp) (by simp; omega) (by simp; omega) bxd_dec (fun w1 x gx C hx hg hx1 hg1 => RowJ.start (B3.chs C (by simp; omega))) (fun N3 x gx zs w1 w2 hN h k => h.note k (by omega) (by omega)) (fun N3 x gx ys zs w1 hx hg hx3 hg3 h3 hz X HJ => step1_any w1 X HJ hx hg hx3 hg3 (by omega) (by omega) (by omega) (by omega) h3 (by simp) (by omega) (by omega) (by omega))) rfl ?_
  rintro e w2 ⟨rfl, H2, ⟨N3, x, gx, hN3, HJ⟩, ex⟩
  refine ⟨_, rfl, ?_⟩
  replace F := F.chs ex
  replace B2 := B2.chs ex
  replace J1 := J1.chs ex
  obtain ⟨⟨hA, hn, hc⟩, B3, HE⟩ := HJ.els; have KE := HE.kk (S := [gB3, gB2, gr, gi]) (by omega) (by simp; omega) (fun _ _ h => BxdF.kk h (by simp; omega))
  refine wl_nil ?_
  refine wq_then_norm (hK3 ?_)
  refine wc_seq ?_; intro K4 hK4
  refine wc_region ?_
  refine wl_y (y_loadx (o := 0) (s := 2) rfl Tryz.underlying98 rfl (by kernel_rfl) B3 rfl) rfl ?_
  refine wl_ef (ef_storeP (o := 0) rfl rfl (by kernel_rfl) B2 (Nat.le_of_ble_eq_true rfl) (all_ones rfl)) rfl ?_
  rintro _ wS3_1 ⟨rfl, D, cg⟩
  have ex := Chs.one cg
  clear cg
  replace F := F.chs ex
  replace J1 := J1.chs ex
  replace H2 := H2.chs ex
  replace B3 := B3.chs ex
  replace KE := KE.chs ex
  replace B2 := D; clear D
  replace B2 := B2.congr (cs' := twoV ⟨A1, n1, c1⟩ ⟨hA, hn, hc⟩) rfl
  refine wl_nil ?_
  refine wq_then_norm (hK4 ?_)
  refine wc_ret ?_
  refine hret rfl B2 rfl ?_
  exact ⟨_, rfl, ⟨_, _, rfl, J1.out.mono (by omega), KE.out.mono (by omega) fun _ _ h => BxdF.mono h (by omega)⟩, H2.mono (fun k hk => by simp [hk]) hmi hmr, (F.drop (by omega)).drop (by omega)⟩
end
theorem just_le (k n : Nat) (s : St) : slen (justX k n s) ≤ slen s := by
  have h := num_le (s := s) k
  unfold justX
  rcases st_cases (numX k s).2 with ⟨c, hc⟩ | ⟨q, hq⟩
  · rw [hc]; exact Nat.zero_le _
  · rw [hq] at h ⊢
    dsimp only
    split
    · exact h
    · exact Nat.zero_le _
theorem leafI_le (s : St) : slen (leafI s).2 ≤ slen s := by
  cases s with
  | error c => exact Nat.le_refl _
  | ok xs =>
    show slen (if (leafX (.ok xs)).1.2 ≠ 0 then (.error (leafX (.ok xs)).1.2 : St) else (leafX (.ok xs)).2) ≤ _
    split
    · exact Nat.zero_le _
    · exact leafX_le _
theorem packX_le (s : St) : slen (packX s).2 ≤ slen s := by
  have h1 := just_le 2 1 s
  have h2 := just_le 2 1 (justX 2 1 s)
  have h3 := (vecX_le (justX 2 1 (justX 2 1 s))).2
  have h4 := leafI_le (vecX (justX 2 1 (justX 2 1 s))).2
  have h5 := (vecX_le (leafI (vecX (justX 2 1 (justX 2 1 s))).2).2).2
  show slen (vecX (leafI (vecX (justX 2 1 (justX 2 1 s))).2).2).2 ≤ _
  omega
theorem badX_le (s : St) : slen (badX s) ≤ slen s := by cases s <;> exact Nat.zero_le _
theorem propX_le (s : St) : slen (propX s).2 ≤ slen s := by
  have h1 := num_le (s := s) 1
  have h2 := packX_le (numX 1 s).2
  have h3 := leafI_le (numX 1 s).2
  have h4 := num_le (s := (numX 1 s).2) 4
  have h5 := badX_le (numX 1 s).2
  unfold propX
  dsimp only
  split
  · exact Nat.le_trans h2 h1
  · split
    · exact Nat.le_trans h3 h1
    · split
      · exact Nat.le_trans h4 h1
      · exact Nat.le_trans h5 h1
theorem itemX_cons (y : UInt8) (ys : List UInt8) : slen (itemX (.ok (y :: ys))).2 ≤ ys.length := by
  have h2 := propX_le (.ok ys)
  have h3 := (vecX_le (.ok ys)).2
  have h5 := badX_le (.ok ys)
  unfold itemX
  rw [num1_cons]
  dsimp only
  split
  · exact h2
  · split
    · exact h3
    · exact h5
theorem item_dec (y : UInt8) (ys r : List UInt8) (h : (itemX (.ok (y :: ys))).2 = .ok r) : r.length < (y :: ys).length := by
  have h1 := itemX_cons y ys
  rw [h] at h1
  have h2 : r.length ≤ ys.length := h1
  rw [List.length_cons]; omega
theorem each_dec {α : Type} {f : St → α × St} {xs r : List UInt8} (h : (eachX f (.ok xs)).2 = .ok r) : r.length < xs.length := by
  rcases st_cases (vecX (.ok xs)).2 with ⟨c, hc⟩ | ⟨q, hq⟩
  · rw [eachX_no hc] at h; cases h
  · rw [eachX_yes hq] at h
    obtain ⟨z, hz, e⟩ := thenX_ok (q := q) (r := r) h
    subst e
    exact vec_dec hq
theorem stp_dec (y : UInt8) (ys r : List UInt8) (h : (stpX (.ok (y :: ys))).2 = .ok r) : r.length < (y :: ys).length := by
  have h' : (eachX bxdX (vecX (.ok (y :: ys))).2).2 = .ok r := h
  rcases st_cases (vecX (.ok (y :: ys))).2 with ⟨c, hc⟩ | ⟨q, hq⟩
  · rw [hc] at h'; cases h'
  · rw [hq] at h'
    have h1 := vec_dec hq
    have h2 := each_dec h'
    omega
section
variable {N3 M x gx gc gi base : Nat} {T : List Nat} {st : St}
theorem commit1_any {b : Bool} {h0 h1 h2 h4 h5 t : Hd} {s : Nat} {zs : List Item20} (w : World) (X : In N3 T w x gx st) (HJ : RowJ gc 40 (fun h => comV h b h0 h1 h2 s h4 h5 t) (ItemF base) 17 95 gi N3 x gx zs w) (hx : M ≤ x) (hg : M ≤ gx) (hx3 : x < N3) (hg3 : gx < N3) (hs3 : gc < N3) (hi3 : gi < N3) (hsx : gc ≠ x) (hsg : gc ≠ gx) (h3 : N3 ≤ w.heap.size) (hm : gc ∈ T) (hb : base ≤ w.heap.size) (hM : M ≤ N3) (hz : zs.length < 1073741824) :
    Calls Tryz.prog 87 #[.pointer (some ⟨x, 0, none⟩), .pointer (some ⟨gc, 0, none⟩)] w fun e w' => e = .returned (.tuple #[]) ∧ In N3 T w' x gx (itemX st).2 ∧ RowJ gc 40 (fun h => comV h b h0 h1 h2 s h4 h5 t) (ItemF base) 17 95 gi N3 x gx (zs ++ [(itemX st).1]) w' ∧ Lat M [gc] w w' := by
  obtain ⟨⟨hA, hn, hc⟩, BS, EK⟩ := HJ
  have F := Chs.refl [gx, x] w
  have hown := EK.own
  have hlen := EK.len
  dsimp only at BS EK hown hlen
  refine vc_enter0 10 Tryz.func87 rfl rfl rfl rfl ?_
  intro Q hret
  refine wc_drawJ [(3, [gx, x]), (5, (Value.slice hA hn hc).ownBlock.toList), (7, [gc])] (by kernel_rfl) 8 rfl ?_; intro wd0 ex hd0
  replace F := F.ext ex
  replace X := X.ext ex
  replace BS := BS.ext ex
  refine wj_y 0 [3] rfl (by kernel_rfl) (fun wr (cr : Chs ([gx, x]) _ wr) => y_fieldAddr (o := 0) (s := 1) (off := 0) (o' := 0) rfl Tryz.underlying40 rfl (by kernel_rfl) rfl rfl) rfl ?_
  refine wj_y 1 [3] rfl (by kernel_rfl) (fun wr (cr : Chs ([gx, x]) _ wr) => y_load1 rfl Tryz.underlying35 rfl ((BS.chs cr).get (i := 0) rfl)) rfl ?_
  refine wj_y 2 [] rfl (by kernel_rfl) (fun wr (cr : Chs ([]) _ wr) => y_move rfl) rfl ?_
  have q4 := F.size
  refine wj_one 3 (by kernel_rfl) ?_; refine oj_call rfl Tryz.func88 rfl rfl rfl (iitem_any _ X) rfl ?_
  rintro e w1 ⟨cs, rfl, HI, X1, ex⟩
  refine ⟨_, rfl, ex, ?_⟩
  replace F := F.chs ex
  replace BS := BS.chs ex
  have KI := HI.kk (S := (Value.slice hA hn hc).ownBlock.toList ++ [x, gx, gc, gi]) (fun g hg => by rcases List.mem_append.1 hg with h | h; have := hown g h; omega; simp at h; omega)
  obtain ⟨r, i, i0, i1, i2, p, i4, i5, ig, l0, l1, l2, lt, l4, l5, rfl, _⟩ := HI
  refine wj_one 4 (by kernel_rfl) ?_; refine oj_ef rfl (ef_litS (cells := itmV r (itemX st).1.prop.kind i i0 i1 i2 p i4 i5 ig l0 l1 l2 lt l4 l5 (itemX st).1.prop.at_) Tryz.underlying35 rfl (by kernel_rfl)) rfl ?_
  rintro _ w3 ⟨g13, rfl, B13, hg13, ex⟩
  refine ⟨Chs.of ex _, ?_⟩
  replace F := F.ext ex
  replace BS := BS.ext ex
  replace X1 := X1.ext ex
  replace KI := KI.ext ex
  skip
  have z3 := F.size
  have LF : Lat M [gc] w _ := F.lat (by omega)
  have EK2 := (EK.chs F (by simp) (by simp; omega)).bump z3 (Nat.le_refl _)
  obtain ⟨hl, vals, hr, hk⟩ := EK2
  refine wj_one 5 (by kernel_rfl) ?_; refine oj_ef rfl (ef_appW (A := hA) (n := hn) (c := hc) rfl rfl eltItm hr B13 rfl (all_ones rfl) (by omega) (by omega) (by omega)) rfl ?_
  rintro _ w4 ⟨A4, c4, rfl, R4, gr4, hgl⟩
  refine ⟨Chs.own gr4, ?_⟩
  have L4 : Lat N3 [] w3 w4 := lat_own gr4 (by omega) fun k hk => (hown k hk).1
  have HE : ElsK (ItemF base) 17 95 N3 w3.heap.size [x, gx, gc, gi] w4 A4 (hn + 1) c4 (zs ++ [(itemX st).1]) := ElsK.app hl hr hk ((KI.bump KI.1 (Nat.le_refl _)).map fun _ a => ItemF.mono a (by omega)) rfl R4 gr4 hgl
  have BS : Blk w4 gc 40 (comV ⟨hA, hn, hc⟩ b h0 h1 h2 s h4 h5 t) := (L4.block gc hs3 (by simp)).trans BS
  replace X1 := X1.lat L4 (Nat.le_refl _) (by simp) hx3 hg3 (by simp) (by simp)
  replace LF := LF.tr (Lat.mono (V := []) ⟨L4.os, L4.tape, L4.output, L4.size, fun k hk hn => L4.block k (by omega) hn⟩ (by simp)) 
  refine wj_y 6 [] rfl (by kernel_rfl) (fun wr (cr : Chs ([]) _ wr) => y_fieldAddr (o := 0) (s := 1) (off := 0) (o' := 0) rfl Tryz.underlying40 rfl (by kernel_rfl) rfl rfl) rfl ?_
  refine wj_one 7 (by kernel_rfl) ?_; refine oj_ef rfl (ef_storeB (i := 0) rfl rfl rfl (by kernel_rfl) BS (Nat.le_of_ble_eq_true rfl)) rfl ?_
  rintro _ wS0_7 ⟨rfl, D, cg⟩
  have ex := Chs.one cg
  clear cg
  refine ⟨ex, ?_⟩
  replace X1 := X1.chs ex
  replace HE := HE.chs ex
  replace BS := D; clear D
  replace BS := BS.congr (cs' := comV ⟨A4, hn + 1, c4⟩ b h0 h1 h2 s h4 h5 t) rfl
  refine wj_done (by kernel_rfl) ?_
  refine wq_nop ?_
  refine hret (.inr rfl) ?_
  have L5 := LF.tr (Chs.lat (M := M) ex (by have := L4.size; omega))
  have z4 := L4.size; have z5 := ex.size
  exact ⟨rfl, X1, ⟨⟨A4, hn + 1, c4⟩, BS, HE.bump (by omega) (Nat.le_refl _)⟩, L5⟩
theorem commit2_any {b : Bool} {it h0 h1 h2 h4 h5 : Hd} {s : Nat} {zs : List Stp} (w : World) (X : In N3 T w x gx st) (HJ : RowJ gc 40 (fun h => comV it b h0 h1 h2 s h4 h5 h) (StpF base) 2 98 gi N3 x gx zs w) (hT : ∀ k ∈ T, k < w.heap.size) (hx : M ≤ x) (hg : M ≤ gx) (hx3 : x < N3) (hg3 : gx < N3) (hs3 : gc < N3) (hi3 : gi < N3) (hsx : gc ≠ x) (hsg : gc ≠ gx) (h3 : N3 ≤ w.heap.size) (hm : gc ∈ T) (hb : base ≤ w.heap.size) (hM : M ≤ N3) (hz : zs.length < 1073741824) :
    Calls Tryz.prog 90 #[.pointer (some ⟨x, 0, none⟩), .pointer (some ⟨gc, 0, none⟩)] w fun e w' => e = .returned (.tuple #[]) ∧ In N3 T w' x gx (stpX st).2 ∧ RowJ gc 40 (fun h => comV it b h0 h1 h2 s h4 h5 h) (StpF base) 2 98 gi N3 x gx (zs ++ [(stpX st).1]) w' ∧ Lat M [gc] w w' := by
  obtain ⟨⟨hA, hn, hc⟩, BS, EK⟩ := HJ
  have F := Chs.refl [gx, x] w
  have hown := EK.own
  have hlen := EK.len
  dsimp only at BS EK hown hlen
  refine vc_enter0 12 Tryz.func90 rfl rfl rfl rfl ?_
  intro Q hret
  refine wc_drawJ [(4, [gx, x]), (6, (Value.slice hA hn hc).ownBlock.toList), (9, [gc])] (by kernel_rfl) 10 rfl ?_; intro wd0 ex hd0
  replace F := F.ext ex
  replace X := X.ext ex
  replace BS := BS.ext ex
  refine wj_y 0 [4] rfl (by kernel_rfl) (fun wr (cr : Chs ([gx, x]) _ wr) => y_fieldAddr (o := 2) (s := 7) (off := 0) (o' := 2) rfl Tryz.underlying40 rfl (by kernel_rfl) rfl rfl) rfl ?_
  refine wj_y 1 [4] rfl (by kernel_rfl) (fun wr (cr : Chs ([gx, x]) _ wr) => y_fieldAddr (o := 6) (s := 1) (off := 2) (o' := 8) rfl Tryz.underlying38 rfl (by kernel_rfl) rfl rfl) rfl ?_
  refine wj_y 2 [4] rfl (by kernel_rfl) (fun wr (cr : Chs ([gx, x]) _ wr) => y_load1 rfl Tryz.underlying36 rfl ((BS.chs cr).get (i := 8) rfl)) rfl ?_
  refine wj_y 3 [] rfl (by kernel_rfl) (fun wr (cr : Chs ([]) _ wr) => y_move rfl) rfl ?_
  have q4 := F.size
  refine wj_one 4 (by kernel_rfl) ?_; refine oj_call rfl Tryz.func91 rfl rfl rfl (istep_any _ X (fun k hk => by have := hT k hk; omega) (by omega)) rfl ?_
  rintro e w1 ⟨cs, rfl, HI, X1, ex⟩
  refine ⟨_, rfl, ex, ?_⟩
  replace F := F.chs ex
  replace BS := BS.chs ex
  have KI := HI.kk (S := (Value.slice hA hn hc).ownBlock.toList ++ [x, gx, gc, gi]) (fun g hg => by rcases List.mem_append.1 hg with h | h; have := hown g h; omega; simp at h; omega)
  obtain ⟨i0, i1, rfl, _⟩ := HI
  refine wj_one 5 (by kernel_rfl) ?_; refine oj_ef rfl (ef_litS (cells := twoV i0 i1) Tryz.underlying36 rfl (by kernel_rfl)) rfl ?_
  rintro _ w3 ⟨g13, rfl, B13, hg13, ex⟩
  refine ⟨Chs.of ex _, ?_⟩
  replace F := F.ext ex
  replace BS := BS.ext ex
  replace X1 := X1.ext ex
  replace KI := KI.ext ex
  skip
  have z3 := F.size
  have LF : Lat M [gc] w _ := F.lat (by omega)
  have EK2 := (EK.chs F (by simp) (by simp; omega)).bump z3 (Nat.le_refl _)
  obtain ⟨hl, vals, hr, hk⟩ := EK2
  refine wj_one 6 (by kernel_rfl) ?_; refine oj_ef rfl (ef_appW (A := hA) (n := hn) (c := hc) rfl rfl eltStp hr B13 rfl (all_ones rfl) (by omega) (by omega) (by omega)) rfl ?_
  rintro _ w4 ⟨A4, c4, rfl, R4, gr4, hgl⟩
  refine ⟨Chs.own gr4, ?_⟩
  have L4 : Lat N3 [] w3 w4 := lat_own gr4 (by omega) fun k hk => (hown k hk).1
  have HE : ElsK (StpF base) 2 98 N3 w3.heap.size [x, gx, gc, gi] w4 A4 (hn + 1) c4 (zs ++ [(stpX st).1]) := ElsK.app hl hr hk ((KI.bump KI.1 (Nat.le_refl _)).map fun _ a => StpF.mono a (by omega)) rfl R4 gr4 hgl
  have BS : Blk w4 gc 40 (comV it b h0 h1 h2 s h4 h5 ⟨hA, hn, hc⟩) := (L4.block gc hs3 (by simp)).trans BS
  replace X1 := X1.lat L4 (Nat.le_refl _) (by simp) hx3 hg3 (by simp) (by simp)
  replace LF := LF.tr (Lat.mono (V := []) ⟨L4.os, L4.tape, L4.output, L4.size, fun k hk hn => L4.block k (by omega) hn⟩ (by simp)) 
  refine wj_y 7 [] rfl (by kernel_rfl) (fun wr (cr : Chs ([]) _ wr) => y_fieldAddr (o := 2) (s := 7) (off := 0) (o' := 2) rfl Tryz.underlying40 rfl (by kernel_rfl) rfl rfl) rfl ?_
  refine wj_y 8 [] rfl (by kernel_rfl) (fun wr (cr : Chs ([]) _ wr) => y_fieldAddr (o := 6) (s := 1) (off := 2) (o' := 8) rfl Tryz.underlying38 rfl (by kernel_rfl) rfl rfl) rfl ?_
  refine wj_one 9 (by kernel_rfl) ?_; refine oj_ef rfl (ef_storeB (i := 8) rfl rfl rfl (by kernel_rfl) BS (Nat.le_of_ble_eq_true rfl)) rfl ?_
  rintro _ wS0_9 ⟨rfl, D, cg⟩
  have ex := Chs.one cg
  clear cg
  refine ⟨ex, ?_⟩
  replace X1 := X1.chs ex
  replace HE := HE.chs ex
  replace BS := D; clear D
  replace BS := BS.congr (cs' := comV it b h0 h1 h2 s h4 h5 ⟨A4, hn + 1, c4⟩) rfl
  refine wj_done (by kernel_rfl) ?_
  refine wq_nop ?_
  refine hret (.inr rfl) ?_
  have L5 := LF.tr (Chs.lat (M := M) ex (by have := L4.size; omega))
  have z4 := L4.size; have z5 := ex.size
  exact ⟨rfl, X1, ⟨⟨A4, hn + 1, c4⟩, BS, HE.bump (by omega) (Nat.le_refl _)⟩, L5⟩
end
section
variable {N gi gr : Nat} {S : List Nat} {s : St}
theorem icommit_any (w : World) (H0 : In N S w gi gr s) (hS : ∀ k ∈ S, k < w.heap.size) (hN : N ≤ w.heap.size) :
    Calls Tryz.prog 39 #[.pointer (some ⟨gi, 0, none⟩)] w fun e w' => ∃ cs, e = .returned (.agg cs) ∧ ComF w.heap.size w' cs (comX s).1 ∧ In N S w' gi gr (comX s).2 ∧ Chs [gr, gi] w w' := by
  have F := Chs.refl [gr, gi] w
  have hmi := H0.memi
  have hmr := H0.memr
  have hli := H0.lti
  have hlr := H0.ltr
  have hne := H0.ne
  have H := H0
  obtain ⟨it, hit⟩ : ∃ i, i = eachX itemX s := ⟨_, rfl⟩
  obtain ⟨f, hf⟩ : ∃ f, f = flagX it.2 := ⟨_, rfl⟩
  obtain ⟨l, hl⟩ : ∃ l, l = leafI f.2 := ⟨_, rfl⟩
  have hX : comX s = if f.1 then (⟨it.1, true, ⟨l.1, (eachX stpX l.2).1⟩⟩, (eachX stpX l.2).2) else (⟨it.1, false, Way20.zero⟩, f.2) := by rw [hl, hf, hit]; rfl
  refine vc_enterc1 (s := 9) 20 Tryz.func39 rfl rfl rfl Tryz.underlying40 rfl (by kernel_rfl) rfl ?_
  intro Q hret
  refine wc_seq ?_; intro K1 hK1
  refine wc_region ?_
  refine wl_ef (ef_alloc (Z := #[.slice none 0 0, .bool false, .slice none 0 0, .slice none 0 0, .slice none 0 0, .int .u8 0, .slice none 0 0, .slice none 0 0, .slice none 0 0]) (by kernel_rfl)) rfl ?_
  rintro _ wB2 ⟨gB2, rfl, B2, hgB2, ex⟩
  have lB2 := B2.lt; have zB2 := ex.size
  replace F := F.grow ex hgB2
  replace H := H.grow ex hgB2
  refine wl_nil ?_
  refine wq_then_norm (hK1 ?_)
  refine wc_seq ?_; intro K2 hK2
  refine wc_region ?_
  refine wl_ef (ef_alloc (Z := #[.slice none 0 0, .bool false, .slice none 0 0, .slice none 0 0, .slice none 0 0, .int .u8 0, .slice none 0 0, .slice none 0 0, .slice none 0 0]) (by kernel_rfl)) rfl ?_
  rintro _ wB3 ⟨gB3, rfl, B3, hgB3, ex⟩
  have lB3 := B3.lt; have zB3 := ex.size
  have nB2_3 : gB2 < gB3 := Nat.lt_of_lt_of_le B2.lt hgB3
  replace F := F.grow ex hgB3
  replace H := H.grow ex hgB3
  replace B2 := B2.grow ex hgB3
  refine wl_nil ?_
  refine wq_then_norm (hK2 ?_)
  refine wc_seq ?_; intro K3 hK3
  refine wc_region ?_
  refine wl_y (y_move rfl) rfl ?_
  refine wl_y (y_func rfl) rfl ?_
  have q2 := B2.lt; have q3 := B3.lt; have q5 := F.size
  have hS2 : ∀ k ∈ gB3 :: gB2 :: S, k < wB3.heap.size := fun k hk => by
    simp only [List.mem_cons] at hk
    rcases hk with rfl | rfl | hk
    · exact q3
    · exact q2
    · have := hS k hk; omega
  replace B3 := B3.congr (cs' := comV nilH false nilH nilH nilH 0 nilH nilH nilH) rfl
  refine wl_call Tryz.func72 rfl rfl rfl (ieach_any (f := itemX) (V := [gB3]) (J := fun N3 x gx zs w => RowJ gB3 40 (fun h => comV h false nilH nilH nilH 0 nilH nilH nilH) (ItemF wB3.heap.size) 17 95 gi N3 x gx zs w) _ H Tryz.func87 rfl rfl hS2 (by omega) (by simp) (by simp; omega) (by simp; omega) item_dec (fun w1 x gx C hx hg hx1 hg1 => RowJ.start (B3.chs C (by simp; omega))) (fun N3 x gx zs w1 w2 hN h k => h.note k (by omega) (by omega)) (fun N3 x gx ys zs w1 hx hg hx3 hg3 h3 hz X HJ => commit1_any w1 X HJ hx hg hx3 hg3 (by omega) (by omega) (by omega) (by omega) h3 (by simp) (by omega) (by omega) (by omega))) rfl ?_
  rintro e w2 ⟨rfl, H2, ⟨N3, x, gx, hN3, HJ⟩, ex⟩
  refine ⟨_, rfl, ?_⟩
  replace F := F.chs ex
  replace B2 := B2.chs ex
  rw [← hit] at H2 HJ; obtain ⟨⟨hA, hn, hc⟩, B3, HE⟩ := HJ.els; have KE := HE.kk (S := [gB3, gB2, gr, gi]) (by omega) (by simp; omega) (fun _ _ h => ItemF.kk h (by simp; omega))
  refine wl_nil ?_
  refine wq_then_norm (hK3 ?_)
  refine wc_seq ?_; intro K4 hK4
  refine wc_seq ?_; intro K5 hK5
  refine wc_region ?_
  refine wl_y (y_move rfl) rfl ?_
  refine wl_call Tryz.func89 rfl rfl rfl (iflag_any _ H2) rfl ?_
  rintro e w3 ⟨rfl, H3, ex⟩
  refine ⟨_, rfl, ?_⟩
  replace F := F.chs ex
  replace B2 := B2.chs ex
  replace B3 := B3.chs ex
  replace KE := KE.chs ex
  rw [← hf] at H3 ⊢
  refine wl_y (y_fieldAddr (o := 1) (s := 1) (off := 0) (o' := 1) rfl Tryz.underlying40 rfl (by kernel_rfl) rfl rfl) rfl ?_
  refine wl_ef (ef_storeB (i := 1) rfl rfl rfl (by kernel_rfl) B3 (Nat.le_of_ble_eq_true rfl)) rfl ?_
  rintro _ wS3_3 ⟨rfl, D, cg⟩
  have ex := Chs.one cg
  clear cg
  replace F := F.chs ex
  replace B2 := B2.chs ex
  replace KE := KE.chs ex
  replace H3 := H3.chs ex
  replace B3 := D; clear D
  replace B3 := B3.congr (cs' := comV ⟨hA, hn, hc⟩ f.1 nilH nilH nilH 0 nilH nilH nilH) rfl
  refine wl_nil ?_
  refine wq_then_norm (hK5 ?_)
  refine wc_seq ?_; intro K6 hK6
  refine wc_region ?_
  refine wl_y (y_fieldAddr (o := 1) (s := 1) (off := 0) (o' := 1) rfl Tryz.underlying40 rfl (by kernel_rfl) rfl rfl) rfl ?_
  refine wl_y (y_load1 rfl Tryz.underlying4 rfl (B3.get (i := 1) rfl)) rfl ?_
  refine wl_nil ?_
  refine wq_then_norm (hK6 ?_)
  refine wc_cond rfl (fun hc1 => ?_) (fun hc1 => ?_)
  · skip
    refine wc_seq ?_; intro K7 hK7
    refine wc_region ?_
    refine wl_y (y_move rfl) rfl ?_
    have r2 := B2.lt; have r3 := B3.lt; have r5 := F.size
    refine wl_call Tryz.func81 rfl rfl rfl (ileaf_any _ H3) rfl ?_
    rintro e w4 ⟨cs, rfl, HL, H4, ex⟩
    refine ⟨_, rfl, ?_⟩
    replace F := F.chs ex
    replace B2 := B2.chs ex
    replace B3 := B3.chs ex
    replace KE := KE.chs ex
    rw [← hl] at H4 HL; have KL := HL.kk (S := [gB3, gB2, gr, gi]) (by simp; omega); obtain ⟨h0, h1, h2, h4, h5, rfl, _⟩ := HL
    refine wl_y (y_fieldAddr (o := 2) (s := 7) (off := 0) (o' := 2) rfl Tryz.underlying40 rfl (by kernel_rfl) rfl rfl) rfl ?_
    refine wl_y (y_fieldAddr (o := 0) (s := 6) (off := 2) (o' := 2) rfl Tryz.underlying38 rfl (by kernel_rfl) rfl rfl) rfl ?_
    refine wl_ef (ef_storeP (o := 2) rfl rfl (by kernel_rfl) B3 (Nat.le_of_ble_eq_true rfl) (all_ones rfl)) rfl ?_
    rintro _ wS5_4 ⟨rfl, D, cg⟩
    have ex := Chs.one cg
    clear cg
    replace F := F.chs ex
    replace B2 := B2.chs ex
    replace KE := KE.chs ex
    replace H4 := H4.chs ex
    replace KL := KL.chs ex
    replace B3 := D; clear D
    replace B3 := B3.congr (cs' := comV ⟨hA, hn, hc⟩ true h0 h1 h2 l.1.src h4 h5 nilH) (by rw [hc1]; rfl)
    refine wl_nil ?_
    refine wq_then_norm (hK7 ?_)
    refine wc_region ?_
    refine wl_y (y_move rfl) rfl ?_
    refine wl_y (y_func rfl) rfl ?_
    have u2 := B2.lt; have u3 := B3.lt; have u5 := F.size
    have hS3 : ∀ k ∈ gB3 :: gB2 :: S, k < wS5_4.heap.size := fun k hk => by
      simp only [List.mem_cons] at hk
      rcases hk with rfl | rfl | hk
      · exact u3
      · exact u2
      · have := hS k hk; omega
    refine wl_call Tryz.func72 rfl rfl rfl (ieach_any (f := stpX) (V := [gB3]) (J := fun N3 x gx zs w => RowJ gB3 40 (fun h => comV ⟨hA, hn, hc⟩ true h0 h1 h2 l.1.src h4 h5 h) (StpF wS5_4.heap.size) 2 98 gi N3 x gx zs w) _ H4 Tryz.func90 rfl rfl hS3 (by omega) (by simp) (by simp; omega) (by simp; omega) stp_dec (fun w1 x gx C hx hg hx1 hg1 => RowJ.start (B3.chs C (by simp; omega))) (fun N3 x gx zs w1 w2 hN h k => h.note k (by omega) (by omega)) (fun N3 x gx ys zs w1 hx hg hx3 hg3 h3 hz X HJ => commit2_any w1 X HJ (mem2 (by omega) (by omega) fun k hk => Nat.lt_of_lt_of_le (hS3 k hk) (by omega)) hx hg hx3 hg3 (by omega) (by omega) (by omega) (by omega) h3 (by simp) (by omega) (by omega) (by omega))) rfl ?_
    rintro e w5 ⟨rfl, H5, ⟨N5, x5, gx5, hN5, HJ5⟩, ex⟩
    refine ⟨_, rfl, ?_⟩
    replace F := F.chs ex
    replace B2 := B2.chs ex
    replace KE := KE.chs ex
    replace KL := KL.chs ex
    obtain ⟨⟨hA5, hn5, hc5⟩, B3, HE5⟩ := HJ5.els; have KE5 := HE5.kk (S := [gB3, gB2, gr, gi]) (by omega) (by simp; omega) (fun _ _ h => StpF.kk h (by simp; omega))
    refine wl_nil ?_
    refine wq_then_norm (hK4 ?_)
    refine wc_seq ?_; intro K8 hK8
    refine wc_region ?_
    refine wl_y (y_loadx (o := 0) (s := 9) rfl Tryz.underlying40 rfl (by kernel_rfl) B3 rfl) rfl ?_
    refine wl_ef (ef_storeP (o := 0) rfl rfl (by kernel_rfl) B2 (Nat.le_of_ble_eq_true rfl) (all_ones rfl)) rfl ?_
    rintro _ wS7_1 ⟨rfl, D, cg⟩
    have ex := Chs.one cg
    clear cg
    replace F := F.chs ex
    replace KE := KE.chs ex
    replace KL := KL.chs ex
    replace H5 := H5.chs ex
    replace B3 := B3.chs ex
    replace KE5 := KE5.chs ex
    replace B2 := D; clear D
    replace B2 := B2.congr (cs' := comV ⟨hA, hn, hc⟩ true h0 h1 h2 l.1.src h4 h5 ⟨hA5, hn5, hc5⟩) rfl
    refine wl_nil ?_
    refine wq_then_norm (hK8 ?_)
    refine wc_ret ?_
    refine hret rfl B2 rfl ?_
    rw [hX, if_pos hc1]
    exact ⟨_, rfl, ⟨_, _, _, _, _, _, _, _, rfl, KE.out.mono (by omega) fun _ _ h => ItemF.mono h (by omega), ⟨_, _, _, _, _, _, _, rfl, LeafF.mono KL.out (by omega), KE5.out.mono (by omega) fun _ _ h => StpF.mono h (by omega)⟩⟩, H5.mono (fun k hk => by simp [hk]) hmi hmr, (F.drop (by omega)).drop (by omega)⟩
  · skip
    refine wc_skip ?_
    refine wq_then_norm (hK4 ?_)
    refine wc_seq ?_; intro K9 hK9
    refine wc_region ?_
    refine wl_y (y_loadx (o := 0) (s := 9) rfl Tryz.underlying40 rfl (by kernel_rfl) B3 rfl) rfl ?_
    refine wl_ef (ef_storeP (o := 0) rfl rfl (by kernel_rfl) B2 (Nat.le_of_ble_eq_true rfl) (all_ones rfl)) rfl ?_
    rintro _ wS7_1 ⟨rfl, D, cg⟩
    have ex := Chs.one cg
    clear cg
    replace F := F.chs ex
    replace B3 := B3.chs ex
    replace KE := KE.chs ex
    replace H3 := H3.chs ex
    replace B2 := D; clear D
    replace B2 := B2.congr (cs' := comV ⟨hA, hn, hc⟩ false nilH nilH nilH 0 nilH nilH nilH) (by rw [← hc1]; rfl)
    refine wl_nil ?_
    refine wq_then_norm (hK9 ?_)
    refine wc_ret ?_
    refine hret rfl B2 rfl ?_
    rw [hX, if_neg (by rw [hc1]; decide)]
    exact ⟨_, rfl, ⟨_, _, _, _, _, _, _, _, rfl, KE.out.mono (by omega) fun _ _ h => ItemF.mono h (by omega), ⟨_, _, _, _, _, _, _, rfl, LeafF.zero _ _, ElsF.nil _ _ _ _ _⟩⟩, H3.mono (fun k hk => by simp [hk]) hmi hmr, (F.drop (by omega)).drop (by omega)⟩
end
end Go.Proofs.YtpgalbgonmclaaaGreat
