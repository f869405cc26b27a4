/- The law NodeSigns: a leaf signed by any seed, or the error; it is checked, if its key is the seed's. -/
import Derived.Test.YtopimmomkapdoaaGreatNdQ
namespace Go.Proofs.YtopimmomkapdoaaGreat
open Go.RowKit
attribute [local irreducible] Y Ef WL WC WK WQ WM OpM WN WF OpN WJ OpJ
open Wire Nd
theorem signLeaf_at {cs : Array Value} {l L : Leaf} {y : Nat} {A : Option Addr} {n c : Nat} {seed : List UInt8} {B : Option Addr} {m d : Nat} {gs : List UInt8} {z : Int} (w : World) (H : LeafAt w cs l) (hf : l.Fit) (hU : (leafU l).length ≤ 80000) (HA : Bs w A n seed) (hn : n ≤ 100) (HB : Bs w B m gs) (hm : m ≤ 100) (hX : signX l seed gs z = (L, y)) :
    Calls Tryz.prog 12 #[.agg cs, .slice A n c, .slice B m d, .int .i64 z] w fun e w' => ∃ cs', e = .returned (.tuple #[.agg cs', .int .u8 (y : Int)]) ∧ LeafAc w' cs' L ∧ Ext w w' :=
  (signLeaf_any w H hf hU HA hn HB hm).mono fun _ _ ⟨cs', h1, h2, h3⟩ => ⟨cs', by rw [h1, hX], by rw [hX] at h2; exact h2, h3⟩
theorem LeafAc.kp0 {w : World} {cs : Array Value} {l : Leaf} (h : LeafAc w cs l) : Kp w.heap.size [] (fun w => LeafAc w cs l) w :=
  ⟨Nat.le_refl _, fun w2 hw => LeafC.imp h fun _ _ b => ⟨(Kp.bs (S := []) b.1 (by simp)).2 w2 hw, b.2⟩⟩
theorem LeafAc.sub {w : World} {l : Leaf} {i0 i1 i2 i4 i5 h : Hd} {xs : List UInt8} (H : LeafAc w (leafV i0 i1 i2 l.src i4 i5) l) (b : Bs w h.A h.n xs) (hc : h.n ≤ h.c) : LeafAc w (leafV i0 i1 i2 l.src i4 h) (l.put xs) := by
  obtain ⟨j0, j1, j2, j4, j5, e, hs, q0, q1, q2, q4, q5⟩ := H
  have e0 : j0 = i0 ∧ j1 = i1 ∧ j2 = i2 ∧ j4 = i4 := by
    unfold leafV at e
    simp only [Array.mk.injEq, List.cons.injEq, Value.slice.injEq, and_true, true_and] at e
    obtain ⟨a, b, c, d, f⟩ := e
    refine ⟨?_, ?_, ?_, ?_⟩
    · cases i0; cases j0; simp_all
    · cases i1; cases j1; simp_all
    · cases i2; cases j2; simp_all
    · cases i4; cases j4; simp_all
  obtain ⟨rfl, rfl, rfl, rfl⟩ := e0
  exact ⟨_, _, _, _, h, rfl, hs, q0, q1, q2, q4, b, hc⟩
theorem signX_form {l : Leaf} {seed gs : List UInt8} {z : Int} (h : ¬ okLeaf (wantL l)) : signX l seed gs z = (Leaf.zero, 3) := by unfold signX; rw [if_pos h]
theorem signX_arg {l : Leaf} {seed gs : List UInt8} {z : Int} (okw : okLeaf (wantL l)) (h : ¬ okAt l z ∨ seed.length ≠ 32) : signX l seed gs z = (Leaf.zero, 1) := by
  unfold signX
  rw [if_neg (fun h => h okw)]
  by_cases ha : okAt l z
  · have h32 : ¬ seed.length = 32 := h.resolve_left (fun h => h ha)
    have e : sigE seed (Sg.text lab.data.toList (leafT l gs z)) = ([], 1) := by unfold sigE; rw [if_neg h32]
    rw [if_neg (fun h => h ha), e, if_pos (by decide)]
  · rw [if_pos ha]
theorem signX_ok {l : Leaf} {seed gs : List UInt8} {z : Int} (okw : okLeaf (wantL l)) (ha : okAt l z) (h32 : seed.length = 32) : signX l seed gs z = (l.put (Sg.sig seed (Sg.text lab.data.toList (leafT l gs z))), 0) := by
  have e : sigE seed (Sg.text lab.data.toList (leafT l gs z)) = (Sg.sig seed (Sg.text lab.data.toList (leafT l gs z)), 0) := by unfold sigE; rw [if_pos h32]
  unfold signX
  rw [if_neg (fun h => h okw), if_neg (fun h => h ha), e, if_neg (fun h => h rfl)]
theorem okLeaf_put {l : Leaf} {s : List UInt8} (okw : okLeaf (wantL l)) (hs : s.length = 64) : okLeaf (l.put s) := by
  obtain ⟨o1, o2, _, o4⟩ := okw
  exact ⟨o1, o2, hs, o4⟩
theorem chk_put {l : Leaf} {seed gs : List UInt8} {z : Int} (okw : okLeaf (wantL l)) (ha : okAt l z) (hp : Sg.pub seed = l.sign) : chk (l.put (Sg.sig seed (Sg.text lab.data.toList (leafT l gs z)))) gs z = true := by
  have e := chk_eq (l := l.put (Sg.sig seed (Sg.text lab.data.toList (leafT l gs z)))) (gs := gs) (z := z) ha (okLeaf_put (s := Sg.sig seed (Sg.text lab.data.toList (leafT l gs z))) okw (Sg.sig_length _ _))
  rw [e]
  show Sg.holds l.sign (Sg.text lab.data.toList (leafT l gs z)) (Sg.sig seed (Sg.text lab.data.toList (leafT l gs z))) = true
  rw [← hp]
  exact Sg.holds_sig _ _
theorem fit_put {l : Leaf} {s : List UInt8} (hf : l.Fit) (hs : s.length = 64) : (l.put s).Fit := ⟨hf.1, hf.2.1, hf.2.2.1, hf.2.2.2.1, (show s.length ≤ 1000000 by omega)⟩
set_option maxHeartbeats 1000000 in
theorem nodeSigns_law (cs : Array Value) (l : Leaf) (A : Option Addr) (n c : Nat) (seed : List UInt8) (B : Option Addr) (m d : Nat) (gs : List UInt8) (z : Int) (w : World) (H : LeafAc w cs l) (HA : Bs w A n seed) (_hn : n ≤ maxLen) (HB : Bs w B m gs) (_hm : m ≤ maxLen) (_hz : (Lit.int .i64 z).wf = true) :
    Calls Tryz.prog 4 #[.agg cs, .slice A n c, .slice B m d, .int .i64 z] w fun e w' => e = .returned (.bool true) ∧ Below w.heap.size w w' := by
  have HL := H.at
  have HL0 := HL
  have HC := H
  have hlA := HA.1; have hlB := HB.1
  obtain ⟨g0, g1, g2, g4, g5, rfl, hs, ⟨b0, _⟩, ⟨b1, _⟩, ⟨b2, _⟩, ⟨b4, _⟩, ⟨b5, q5⟩⟩ := H
  have XL := leafN_at HL0
  have l1 := b1.1; have l5 := b5.1
  have F := Chs.refl [] w
  obtain ⟨L, y, hX⟩ : ∃ L y, signX l seed gs z = (L, y) := ⟨_, _, rfl⟩
  refine vc_enter1 119 Tryz.func4 rfl rfl rfl rfl ?_
  intro Q hret
  refine wc_seq ?_; intro K1 hK1
  refine wc_region ?_
  refine wl_ef (ef_box rfl rfl) rfl ?_
  rintro _ wB4 ⟨gB4, rfl, B4, hgB4, ex⟩
  have lB4 := B4.lt; have zB4 := ex.size
  replace F := F.ext ex
  refine wl_y (y_assign rfl) rfl ?_
  refine wl_nil ?_
  refine wq_then_norm (hK1 ?_)
  refine wc_seq ?_; intro K2 hK2
  refine wc_seq ?_; intro K3 hK3
  refine wc_region ?_
  refine wl_call Tryz.func6 rfl rfl rfl (alive16_any _) rfl ?_
  rintro e w1 ⟨rfl, ex⟩
  refine ⟨_, rfl, ?_⟩
  replace F := F.ext ex
  replace B4 := B4.ext ex
  refine wl_y (y_not rfl) rfl ?_
  refine wl_nil ?_
  refine wq_then_norm (hK3 ?_)
  refine wc_false rfl rfl ?_
  refine wc_skip ?_
  refine wq_then_norm (hK2 ?_)
  refine wc_seq ?_; intro K4 hK4
  refine wc_seq ?_; intro K5 hK5
  refine wc_region ?_
  refine wl_y (y_loadx (o := 0) (s := 6) rfl Tryz.underlying24 rfl (by kernel_rfl) B4 rfl) rfl ?_
  refine wl_y (y_build rfl (cells := nodeV 0 g0 g1 g2 l.src g4 g5 nilH nilH nilH) (by kernel_rfl)) rfl ?_
  refine wl_call Tryz.func7 rfl rfl rfl (small_any _ (XL.ext (F.toExt (by simp)))) rfl ?_
  rintro e w2 ⟨rfl, ex⟩
  refine ⟨_, rfl, ?_⟩
  replace F := F.ext ex
  replace B4 := B4.ext ex
  skip
  refine wl_y (y_not rfl) rfl ?_
  refine wl_yaskb (y_move rfl) rfl (fun u0 => ?_) (fun u0 => ?_)
  · skip
    refine wl_gno 22 rfl rfl rfl rfl ?_
    refine wl_gno 22 rfl rfl rfl rfl ?_
    refine wl_gno 22 rfl rfl rfl rfl ?_
    refine wl_y (y_pickt rfl rfl) rfl ?_
    refine wl_y (y_move rfl) rfl ?_
    refine wl_gno 27 rfl rfl rfl rfl ?_
    refine wl_gno 27 rfl rfl rfl rfl ?_
    refine wl_gno 27 rfl rfl rfl rfl ?_
    refine wl_y (y_pickt rfl rfl) rfl ?_
    refine wl_nil ?_
    refine wq_then_norm (hK5 ?_)
    refine wc_true rfl rfl ?_
    refine wc_seq ?_; intro K6 hK6
    refine wc_region ?_
    refine wl_y (y_assign rfl) rfl ?_
    refine wl_nil ?_
    refine wq_then_norm (hK6 ?_)
    refine wc_ret ?_
    refine wq_then_ret ?_
    refine hret rfl ?_
    exact ⟨rfl, F.toExt (by simp)⟩
  · skip
    refine wl_gy 22 rfl rfl (y_move rfl) rfl ?_
    refine wl_gy 22 rfl rfl (y_len_slice rfl Tryz.underlying22) rfl ?_
    refine wl_gy 22 rfl rfl (y_gtr rfl rfl) rfl ?_
    refine wl_y (y_pickf rfl rfl) rfl ?_
    refine wl_yask (y_move rfl) rfl (fun u1 => ?_) (fun u1 => ?_)
    · skip
      refine wl_gno 27 rfl rfl rfl rfl ?_
      refine wl_gno 27 rfl rfl rfl rfl ?_
      refine wl_gno 27 rfl rfl rfl rfl ?_
      refine wl_y (y_pickt rfl rfl) rfl ?_
      refine wl_nil ?_
      refine wq_then_norm (hK5 ?_)
      refine wc_true rfl rfl ?_
      refine wc_seq ?_; intro K7 hK7
      refine wc_region ?_
      refine wl_y (y_assign rfl) rfl ?_
      refine wl_nil ?_
      refine wq_then_norm (hK7 ?_)
      refine wc_ret ?_
      refine wq_then_ret ?_
      refine hret rfl ?_
      exact ⟨rfl, F.toExt (by simp)⟩
    · skip
      refine wl_gy 27 rfl rfl (y_move rfl) rfl ?_
      refine wl_gy 27 rfl rfl (y_len_slice rfl Tryz.underlying22) rfl ?_
      refine wl_gy 27 rfl rfl (y_gtr rfl rfl) rfl ?_
      refine wl_y (y_pickf rfl rfl) rfl ?_
      refine wl_nil ?_
      refine wq_then_norm (hK5 ?_)
      refine wc_dec rfl (fun hc2 => ?_) (fun hc2 => ?_)
      · skip
        refine wc_seq ?_; intro K8 hK8
        refine wc_region ?_
        refine wl_y (y_assign rfl) rfl ?_
        refine wl_nil ?_
        refine wq_then_norm (hK8 ?_)
        refine wc_ret ?_
        refine wq_then_ret ?_
        refine hret rfl ?_
        exact ⟨rfl, F.toExt (by simp)⟩
      · skip
        refine wc_skip ?_
        refine wq_then_norm (hK4 ?_)
        refine wc_seq ?_; intro K9 hK9
        refine wc_region ?_
        refine wl_y (y_loadx (o := 0) (s := 6) rfl Tryz.underlying24 rfl (by kernel_rfl) B4 rfl) rfl ?_
        refine wl_y (y_move rfl) rfl ?_
        refine wl_y (y_move rfl) rfl ?_
        refine wl_y (y_move rfl) rfl ?_
        have sl : (⟨0, l, Par.zero⟩ : Node).Small := by simpa using u0
        have hf : l.Fit := sl.fit.1
        have hU := leafU_small sl
        have s1 : l.sign.length ≤ 200 := sl.2.1
        have s5 : l.sig.length ≤ 200 := sl.2.2.2.2.1
        have E5 := F.toExt (by simp)
        refine wl_call Tryz.func12 rfl rfl rfl (signLeaf_at _ (HL.ext E5) hf (by omega) (HA.ext E5) (by omega) (HB.ext E5) (by omega) hX) rfl ?_
        rintro e w3 ⟨cs9, rfl, HG, ex⟩
        refine ⟨_, rfl, ?_⟩
        replace F := F.ext ex
        replace B4 := B4.ext ex
        have HG2 := HG; obtain ⟨j0, j1, j2, j4, j5, rfl, _⟩ := HG2; have JG := HG.kp0
        refine wl_y (y_move rfl) rfl ?_
        refine wl_y (y_extract rfl rfl) rfl ?_
        refine wl_y (y_extract rfl rfl) rfl ?_
        refine wl_ef (ef_alloc (Z := #[.slice none 0 0, .slice none 0 0, .slice none 0 0, .int .u8 0, .slice none 0 0, .slice none 0 0]) (by kernel_rfl)) rfl ?_
        rintro _ wA9 ⟨gB9, rfl, D9, hgB9, exA⟩
        refine wl_ef (ef_storeP (o := 0) rfl rfl (by kernel_rfl) D9 (Nat.le_of_ble_eq_true rfl) (all_ones rfl)) rfl ?_
        rintro _ wB9 ⟨rfl, B9, cg⟩
        have ex := exA.chg cg hgB9; clear cg exA D9
        have lB9 := B9.lt; have zB9 := ex.size
        replace F := F.ext ex
        replace B4 := B4.ext ex
        replace JG := JG.ext ex
        refine wl_y (y_assign rfl) rfl ?_
        refine wl_nil ?_
        refine wq_then_norm (hK9 ?_)
        refine wc_seq ?_; intro K10 hK10
        refine wc_region ?_
        have m6 := B4.lt; have y6 := F.size; have k9 := B9.lt
        refine wl_y (y_loadx (o := 0) (s := 6) rfl Tryz.underlying24 rfl (by kernel_rfl) B4 rfl) rfl ?_
        refine wl_ef (ef_alloc (Z := #[.slice none 0 0, .slice none 0 0, .slice none 0 0, .int .u8 0, .slice none 0 0, .slice none 0 0]) (by kernel_rfl)) rfl ?_
        rintro _ wB11 ⟨gB11, rfl, B11, hgB11, ex⟩
        have lB11 := B11.lt; have zB11 := ex.size
        replace F := F.grow ex hgB11
        replace B4 := B4.grow ex hgB11
        replace JG := JG.grow ex hgB11
        replace B9 := B9.grow ex hgB11
        refine wl_ef (ef_storeP (o := 0) rfl rfl (by kernel_rfl) B11 (Nat.le_of_ble_eq_true rfl) (all_ones rfl)) rfl ?_
        rintro _ wS6_2 ⟨rfl, D, cg⟩
        have ex := Chs.one cg
        clear cg
        replace F := F.chs ex
        replace B4 := B4.chs ex
        replace JG := JG.chs ex
        replace B9 := B9.chs ex
        replace B11 := D; clear D
        refine wl_nil ?_
        refine wq_then_norm (hK10 ?_)
        refine wc_seq ?_; intro K11 hK11
        refine wc_region ?_
        have m7 := B11.lt; have z7 := F.size
        refine wl_ef (ef_make (n := 64) (z := .int .u8 0) (bytes := 1) rfl rfl Tryz.underlying22 (by kernel_rfl) rfl rfl rfl rfl (by omega) (by omega)) rfl ?_
        rintro _ w5 ⟨g7, rfl, B7, hg7, ex⟩
        replace F := F.ext ex
        replace B4 := B4.ext ex
        replace JG := JG.ext ex
        replace B9 := B9.ext ex
        replace B11 := B11.ext ex
        have J7 : Kp w5.heap.size [gB11] (fun w => Bs w (some ⟨g7, 0, none⟩) 64 (List.replicate 64 0)) w5 := Kp.bs (zeros64 B7 (by rfl)) (fun _ g hg o e => by simp at hg e; omega)
        refine wl_y (y_fieldAddr (o := 5) (s := 1) (off := 0) (o' := 5) rfl Tryz.underlying24 rfl (by kernel_rfl) rfl rfl) rfl ?_
        refine wl_ef (ef_storeB (i := 5) rfl rfl rfl (by kernel_rfl) B11 (Nat.le_of_ble_eq_true rfl)) rfl ?_
        rintro _ wS7_2 ⟨rfl, D, cg⟩
        have ex := Chs.one cg
        clear cg
        replace F := F.chs ex
        replace B4 := B4.chs ex
        replace JG := JG.chs ex
        replace B9 := B9.chs ex
        replace J7 := J7.chs ex
        replace B11 := D; clear D
        replace B11 := B11.congr (cs' := leafV g0 g1 g2 l.src g4 ⟨some ⟨g7, 0, none⟩, 64, 64⟩) rfl
        refine wl_nil ?_
        refine wq_then_norm (hK11 ?_)
        refine wc_seq ?_; intro K12 hK12
        refine wc_seq ?_; intro K13 hK13
        refine wc_region ?_
        refine wl_y (y_loadx (o := 0) (s := 6) rfl Tryz.underlying24 rfl (by kernel_rfl) B11 rfl) rfl ?_
        refine wl_call Tryz.func9 rfl rfl rfl (rrightLeaf_any _ (LeafAc.sub (h := ⟨some ⟨g7, 0, none⟩, 64, 64⟩) (HC.ext (F.toExt (by simp; omega))) J7.out (Nat.le_refl 64)).at) rfl ?_
        rintro e w6 ⟨rfl, ex⟩
        refine ⟨_, rfl, ?_⟩
        replace F := F.ext ex
        replace B4 := B4.ext ex
        replace JG := JG.ext ex
        replace B9 := B9.ext ex
        replace B11 := B11.ext ex
        replace J7 := J7.ext ex
        skip
        refine wl_y (y_not rfl) rfl ?_
        refine wl_nil ?_
        refine wq_then_norm (hK13 ?_)
        refine wc_cond rfl (fun hc3 => ?_) (fun hc3 => ?_)
        · skip
          refine wc_seq ?_; intro K14 hK14
          have hno : ¬ okLeaf (wantL l) := by simpa [wantL] using hc3
          have e1 := signX_form (seed := seed) (gs := gs) (z := z) hno
          rw [hX] at e1
          injection e1 with e1 e2
          subst e1; subst e2
          refine wc_region ?_
          refine wl_y (y_move rfl) rfl ?_
          refine wl_y (y_conv rfl Tryz.underlying36 Tryz.underlying3 (i64_ok (by omega) (by omega))) rfl ?_
          refine wl_y (y_eql rfl rfl) rfl ?_
          refine wl_y (Y.as (y_move rfl) (congrArg Value.bool (decide_eq_true (by omega)))) rfl ?_
          refine wl_gy 49 rfl rfl (y_loadx (o := 0) (s := 6) rfl Tryz.underlying24 rfl (by kernel_rfl) B9 rfl) rfl ?_
          refine wl_gy 49 rfl rfl (y_build rfl (cells := zLeafV) (by kernel_rfl)) rfl ?_
          refine wl_gcall 49 rfl rfl Tryz.func13 rfl rfl rfl (rsameLeaf_any _ JG.out.at (LeafAc.zero _).at fit_zero fit_zero) rfl ?_
          rintro e w7 ⟨rfl, ex⟩
          refine ⟨_, rfl, ?_⟩
          replace F := F.ext ex
          replace B4 := B4.ext ex
          replace JG := JG.ext ex
          replace B9 := B9.ext ex
          replace B11 := B11.ext ex
          replace J7 := J7.ext ex
          rw [decide_eq_true rfl]
          refine wl_y (y_pickt rfl rfl) rfl ?_
          refine wl_y (y_assign rfl) rfl ?_
          refine wl_nil ?_
          refine wq_then_norm (hK14 ?_)
          refine wc_ret ?_
          refine wq_then_ret ?_
          refine hret rfl ?_
          exact ⟨rfl, F.toExt (by simp; omega)⟩
        · skip
          refine wc_skip ?_
          refine wq_then_norm (hK12 ?_)
          refine wc_seq ?_; intro K15 hK15
          refine wc_seq ?_; intro K16 hK16
          have okw : okLeaf (wantL l) := by simpa [wantL] using hc3
          refine wc_region ?_
          refine wl_y (y_fieldAddr (o := 3) (s := 1) (off := 0) (o' := 3) rfl Tryz.underlying24 rfl (by kernel_rfl) rfl rfl) rfl ?_
          refine wl_y (y_load1 rfl Tryz.underlying5 rfl (B4.get (i := 3) rfl)) rfl ?_
          refine wl_y (y_neq rfl rfl) rfl ?_
          refine wl_yask (y_move rfl) rfl (fun v1 => ?_) (fun v1 => ?_)
          · skip
            refine wl_gy 57 rfl rfl (y_move rfl) rfl ?_
            refine wl_gy 57 rfl rfl (y_lss rfl rfl) rfl ?_
            refine wl_gyask 57 rfl rfl (y_move rfl) rfl (fun v2 => ?_) (fun v2 => ?_)
            · skip
              refine wl_gno 60 rfl rfl rfl rfl ?_
              refine wl_gno 60 rfl rfl rfl rfl ?_
              refine wl_gy 57 rfl rfl (y_pickt rfl rfl) rfl ?_
              refine wl_y (y_pickt rfl rfl) rfl ?_
              refine wl_y (y_move rfl) rfl ?_
              refine wl_gno 65 rfl rfl rfl rfl ?_
              refine wl_gno 65 rfl rfl rfl rfl ?_
              refine wl_gno 65 rfl rfl rfl rfl ?_
              refine wl_y (y_pickt rfl rfl) rfl ?_
              refine wl_nil ?_
              refine wq_then_norm (hK16 ?_)
              refine wc_true rfl rfl ?_
              refine wc_seq ?_; intro K17 hK17
              have e1 := signX_arg (seed := seed) (gs := gs) (z := z) okw (by unfold okAt; omega)
              rw [hX] at e1
              injection e1 with e1 e2
              subst e1; subst e2
              refine wc_region ?_
              refine wl_y (y_move rfl) rfl ?_
              refine wl_y (y_conv rfl Tryz.underlying36 Tryz.underlying3 (i64_ok (by omega) (by omega))) rfl ?_
              refine wl_y (y_eql rfl rfl) rfl ?_
              refine wl_y (Y.as (y_move rfl) (congrArg Value.bool (decide_eq_true (by omega)))) rfl ?_
              refine wl_gy 73 rfl rfl (y_loadx (o := 0) (s := 6) rfl Tryz.underlying24 rfl (by kernel_rfl) B9 rfl) rfl ?_
              refine wl_gy 73 rfl rfl (y_build rfl (cells := zLeafV) (by kernel_rfl)) rfl ?_
              refine wl_gcall 73 rfl rfl Tryz.func13 rfl rfl rfl (rsameLeaf_any _ JG.out.at (LeafAc.zero _).at fit_zero fit_zero) rfl ?_
              rintro e w7 ⟨rfl, ex⟩
              refine ⟨_, rfl, ?_⟩
              replace F := F.ext ex
              replace B4 := B4.ext ex
              replace JG := JG.ext ex
              replace B9 := B9.ext ex
              replace B11 := B11.ext ex
              replace J7 := J7.ext ex
              rw [decide_eq_true rfl]
              refine wl_y (y_pickt rfl rfl) rfl ?_
              refine wl_y (y_assign rfl) rfl ?_
              refine wl_nil ?_
              refine wq_then_norm (hK17 ?_)
              refine wc_ret ?_
              refine wq_then_ret ?_
              refine hret rfl ?_
              exact ⟨rfl, F.toExt (by simp; omega)⟩
            · skip
              refine wl_gy 60 rfl rfl (y_move rfl) rfl ?_
              refine wl_gy 60 rfl rfl (y_gtr rfl rfl) rfl ?_
              refine wl_gy 57 rfl rfl (y_pickf rfl rfl) rfl ?_
              refine wl_y (y_pickt rfl rfl) rfl ?_
              refine wl_yask (y_move rfl) rfl (fun v3 => ?_) (fun v3 => ?_)
              · skip
                refine wl_gno 65 rfl rfl rfl rfl ?_
                refine wl_gno 65 rfl rfl rfl rfl ?_
                refine wl_gno 65 rfl rfl rfl rfl ?_
                refine wl_y (y_pickt rfl rfl) rfl ?_
                refine wl_nil ?_
                refine wq_then_norm (hK16 ?_)
                refine wc_true rfl rfl ?_
                refine wc_seq ?_; intro K18 hK18
                have e1 := signX_arg (seed := seed) (gs := gs) (z := z) okw (by unfold okAt; omega)
                rw [hX] at e1
                injection e1 with e1 e2
                subst e1; subst e2
                refine wc_region ?_
                refine wl_y (y_move rfl) rfl ?_
                refine wl_y (y_conv rfl Tryz.underlying36 Tryz.underlying3 (i64_ok (by omega) (by omega))) rfl ?_
                refine wl_y (y_eql rfl rfl) rfl ?_
                refine wl_y (Y.as (y_move rfl) (congrArg Value.bool (decide_eq_true (by omega)))) rfl ?_
                refine wl_gy 73 rfl rfl (y_loadx (o := 0) (s := 6) rfl Tryz.underlying24 rfl (by kernel_rfl) B9 rfl) rfl ?_
                refine wl_gy 73 rfl rfl (y_build rfl (cells := zLeafV) (by kernel_rfl)) rfl ?_
                refine wl_gcall 73 rfl rfl Tryz.func13 rfl rfl rfl (rsameLeaf_any _ JG.out.at (LeafAc.zero _).at fit_zero fit_zero) rfl ?_
                rintro e w7 ⟨rfl, ex⟩
                refine ⟨_, rfl, ?_⟩
                replace F := F.ext ex
                replace B4 := B4.ext ex
                replace JG := JG.ext ex
                replace B9 := B9.ext ex
                replace B11 := B11.ext ex
                replace J7 := J7.ext ex
                rw [decide_eq_true rfl]
                refine wl_y (y_pickt rfl rfl) rfl ?_
                refine wl_y (y_assign rfl) rfl ?_
                refine wl_nil ?_
                refine wq_then_norm (hK18 ?_)
                refine wc_ret ?_
                refine wq_then_ret ?_
                refine hret rfl ?_
                exact ⟨rfl, F.toExt (by simp; omega)⟩
              · skip
                refine wl_gy 65 rfl rfl (y_move rfl) rfl ?_
                refine wl_gy 65 rfl rfl (y_len_slice rfl Tryz.underlying22) rfl ?_
                refine wl_gy 65 rfl rfl (y_neq rfl rfl) rfl ?_
                refine wl_y (y_pickf rfl rfl) rfl ?_
                refine wl_nil ?_
                refine wq_then_norm (hK16 ?_)
                refine wc_dec rfl (fun hc4 => ?_) (fun hc4 => ?_)
                · skip
                  refine wc_seq ?_; intro K19 hK19
                  have e1 := signX_arg (seed := seed) (gs := gs) (z := z) okw (by unfold okAt; omega)
                  rw [hX] at e1
                  injection e1 with e1 e2
                  subst e1; subst e2
                  refine wc_region ?_
                  refine wl_y (y_move rfl) rfl ?_
                  refine wl_y (y_conv rfl Tryz.underlying36 Tryz.underlying3 (i64_ok (by omega) (by omega))) rfl ?_
                  refine wl_y (y_eql rfl rfl) rfl ?_
                  refine wl_y (Y.as (y_move rfl) (congrArg Value.bool (decide_eq_true (by omega)))) rfl ?_
                  refine wl_gy 73 rfl rfl (y_loadx (o := 0) (s := 6) rfl Tryz.underlying24 rfl (by kernel_rfl) B9 rfl) rfl ?_
                  refine wl_gy 73 rfl rfl (y_build rfl (cells := zLeafV) (by kernel_rfl)) rfl ?_
                  refine wl_gcall 73 rfl rfl Tryz.func13 rfl rfl rfl (rsameLeaf_any _ JG.out.at (LeafAc.zero _).at fit_zero fit_zero) rfl ?_
                  rintro e w7 ⟨rfl, ex⟩
                  refine ⟨_, rfl, ?_⟩
                  replace F := F.ext ex
                  replace B4 := B4.ext ex
                  replace JG := JG.ext ex
                  replace B9 := B9.ext ex
                  replace B11 := B11.ext ex
                  replace J7 := J7.ext ex
                  rw [decide_eq_true rfl]
                  refine wl_y (y_pickt rfl rfl) rfl ?_
                  refine wl_y (y_assign rfl) rfl ?_
                  refine wl_nil ?_
                  refine wq_then_norm (hK19 ?_)
                  refine wc_ret ?_
                  refine wq_then_ret ?_
                  refine hret rfl ?_
                  exact ⟨rfl, F.toExt (by simp; omega)⟩
                · skip
                  refine wc_skip ?_
                  refine wq_then_norm (hK15 ?_)
                  refine wc_seq ?_; intro K20 hK20
                  have oka : okAt l z := by unfold okAt; omega
                  have h32 : seed.length = 32 := by omega
                  have e1 := signX_ok (seed := seed) (gs := gs) (z := z) okw oka h32
                  rw [hX] at e1
                  injection e1 with e1 e2
                  subst e1; subst e2
                  have hl64 := Sg.sig_length seed (Sg.text lab.data.toList (leafT l gs z))
                  have fp := fit_put (s := Sg.sig seed (Sg.text lab.data.toList (leafT l gs z))) hf hl64
                  refine wc_region ?_
                  refine wl_y (y_move rfl) rfl ?_
                  refine wl_y (y_loadx (o := 0) (s := 6) rfl Tryz.underlying24 rfl (by kernel_rfl) B4 rfl) rfl ?_
                  refine wl_y (y_move rfl) rfl ?_
                  refine wl_y (y_move rfl) rfl ?_
                  have E12 := F.toExt (by simp; omega)
                  refine wl_call Tryz.func11 rfl rfl rfl (rtext16_any _ (HL.ext E12) hf (HB.ext E12) (by omega)) rfl ?_
                  rintro e w7 ⟨A12, k12, c12, rfl, H12, ex⟩
                  refine ⟨_, rfl, ?_⟩
                  replace F := F.ext ex
                  replace B4 := B4.ext ex
                  replace JG := JG.ext ex
                  replace B9 := B9.ext ex
                  replace B11 := B11.ext ex
                  replace J7 := J7.ext ex
                  have hk12 := H12.1; have hT := leafT_le (z := z) (gs := gs) (show (leafU l).length ≤ 80000 by omega) (show gs.length ≤ 100 by omega)
                  refine wl_call Tryz.func14 rfl rfl rfl (Label_t (s := lab) (HA.ext (F.toExt (by simp; omega))) H12 h32 lab_size (by omega)) rfl ?_
                  rintro e w8 ⟨A13, c13, rfl, H13, h13, ex⟩
                  refine ⟨_, rfl, ?_⟩
                  replace F := F.ext ex
                  replace B4 := B4.ext ex
                  replace JG := JG.ext ex
                  replace B9 := B9.ext ex
                  replace B11 := B11.ext ex
                  replace J7 := J7.ext ex
                  have J13 : Kp w8.heap.size [gB11] (fun w => Bs w A13 64 (Sg.sig seed (Sg.text lab.data.toList (leafT l gs z)))) w8 := Kp.bs H13 (fun _ g hg o e => by obtain rfl := List.mem_singleton.1 hg; exact H13.notin B11 (show (6 : Nat) < 64 by omega) o e)
                  refine wl_y (y_move rfl) rfl ?_
                  refine wl_y (y_extract rfl rfl) rfl ?_
                  refine wl_y (y_extract rfl rfl) rfl ?_
                  refine wl_y (y_assign rfl) rfl ?_
                  refine wl_y (y_assign rfl) rfl ?_
                  refine wl_nil ?_
                  refine wq_then_norm (hK20 ?_)
                  refine wc_seq ?_; intro K21 hK21
                  refine wc_region ?_
                  refine wl_y (y_move rfl) rfl ?_
                  refine wl_y (y_fieldAddr (o := 5) (s := 1) (off := 0) (o' := 5) rfl Tryz.underlying24 rfl (by kernel_rfl) rfl rfl) rfl ?_
                  refine wl_ef (ef_storeB (i := 5) rfl rfl rfl (by kernel_rfl) B11 (Nat.le_of_ble_eq_true rfl)) rfl ?_
                  rintro _ wS13_2 ⟨rfl, D, cg⟩
                  have ex := Chs.one cg
                  clear cg
                  replace F := F.chs ex
                  replace B4 := B4.chs ex
                  replace JG := JG.chs ex
                  replace B9 := B9.chs ex
                  replace J7 := J7.chs ex
                  replace J13 := J13.chs ex
                  replace B11 := D; clear D
                  replace B11 := B11.congr (cs' := leafV g0 g1 g2 l.src g4 ⟨A13, 64, c13⟩) rfl
                  refine wl_nil ?_
                  refine wq_then_norm (hK21 ?_)
                  refine wc_seq ?_; intro K22 hK22
                  refine wc_seq ?_; intro K23 hK23
                  refine wc_region ?_
                  refine wl_y (y_move rfl) rfl ?_
                  refine wl_y (y_conv rfl Tryz.underlying36 Tryz.underlying3 (i64_ok (by omega) (by omega))) rfl ?_
                  refine wl_y (y_neq rfl rfl) rfl ?_
                  refine wl_y (Y.as (y_move rfl) (congrArg Value.bool (decide_eq_false (by omega)))) rfl ?_
                  refine wl_gy 92 rfl rfl (y_move rfl) rfl ?_
                  refine wl_gy 92 rfl rfl (y_conv rfl Tryz.underlying36 Tryz.underlying3 (i64_ok (by omega) (by omega))) rfl ?_
                  refine wl_gy 92 rfl rfl (y_neq rfl rfl) rfl ?_
                  refine wl_y (y_pickf rfl rfl) rfl ?_
                  refine wl_y (Y.as (y_move rfl) (congrArg Value.bool (decide_eq_false (by omega)))) rfl ?_
                  refine wl_gy 97 rfl rfl (y_loadx (o := 0) (s := 6) rfl Tryz.underlying24 rfl (by kernel_rfl) B9 rfl) rfl ?_
                  refine wl_gy 97 rfl rfl (y_loadx (o := 0) (s := 6) rfl Tryz.underlying24 rfl (by kernel_rfl) B11 rfl) rfl ?_
                  refine wl_gcall 97 rfl rfl Tryz.func13 rfl rfl rfl (rsameLeaf_any _ JG.out.at (LeafAc.sub (h := ⟨A13, 64, c13⟩) (HC.ext (F.toExt (by simp; omega))) J13.out h13).at fp fp) rfl ?_
                  rintro e w9 ⟨rfl, ex⟩
                  refine ⟨_, rfl, ?_⟩
                  replace F := F.ext ex
                  replace B4 := B4.ext ex
                  replace JG := JG.ext ex
                  replace B9 := B9.ext ex
                  replace B11 := B11.ext ex
                  replace J7 := J7.ext ex
                  replace J13 := J13.ext ex
                  rw [decide_eq_true rfl]
                  refine wl_gy 97 rfl rfl (y_not rfl) rfl ?_
                  refine wl_y (y_pickf rfl rfl) rfl ?_
                  refine wl_nil ?_
                  refine wq_then_norm (hK23 ?_)
                  refine wc_false rfl rfl ?_
                  refine wc_skip ?_
                  refine wq_then_norm (hK22 ?_)
                  refine wc_seq ?_; intro K24 hK24
                  refine wc_region ?_
                  refine wl_y (y_move rfl) rfl ?_
                  refine wl_call Tryz.func15 rfl rfl rfl (Public_t (HA.ext (F.toExt (by simp; omega))) h32) rfl ?_
                  rintro e w10 ⟨A14, c14, rfl, H14, h14, ex⟩
                  refine ⟨_, rfl, ?_⟩
                  replace F := F.ext ex
                  replace B4 := B4.ext ex
                  replace JG := JG.ext ex
                  replace B9 := B9.ext ex
                  replace B11 := B11.ext ex
                  replace J7 := J7.ext ex
                  replace J13 := J13.ext ex
                  skip
                  refine wl_y (y_move rfl) rfl ?_
                  refine wl_y (y_extract rfl rfl) rfl ?_
                  refine wl_y (y_extract rfl rfl) rfl ?_
                  refine wl_y (y_assign rfl) rfl ?_
                  refine wl_y (y_assign rfl) rfl ?_
                  refine wl_nil ?_
                  refine wq_then_norm (hK24 ?_)
                  refine wc_seq ?_; intro K25 hK25
                  refine wc_region ?_
                  refine wl_y (y_move rfl) rfl ?_
                  refine wl_y (y_fieldAddr (o := 1) (s := 1) (off := 0) (o' := 1) rfl Tryz.underlying24 rfl (by kernel_rfl) rfl rfl) rfl ?_
                  refine wl_y (y_load1 rfl Tryz.underlying22 rfl (B4.get (i := 1) rfl)) rfl ?_
                  refine wl_call Tryz.func16 rfl rfl rfl (sm_any H14 (Bs.ext b1 (F.toExt (by simp; omega))) (by omega) (by omega)) rfl ?_
                  rintro e w11 ⟨rfl, ex⟩
                  refine ⟨_, rfl, ?_⟩
                  replace F := F.ext ex
                  replace B4 := B4.ext ex
                  replace JG := JG.ext ex
                  replace B9 := B9.ext ex
                  replace B11 := B11.ext ex
                  replace J7 := J7.ext ex
                  replace J13 := J13.ext ex
                  replace H14 := H14.ext ex
                  skip
                  refine wl_y (y_not rfl) rfl ?_
                  refine wl_yaskb (y_move rfl) rfl (fun v5 => ?_) (fun v5 => ?_)
                  · skip
                    refine wl_gno 113 rfl rfl rfl rfl ?_
                    refine wl_gno 113 rfl rfl rfl rfl ?_
                    refine wl_gno 113 rfl rfl rfl rfl ?_
                    refine wl_gno 113 rfl rfl rfl rfl ?_
                    refine wl_y (y_pickt rfl rfl) rfl ?_
                    refine wl_y (y_assign rfl) rfl ?_
                    refine wl_nil ?_
                    refine wq_then_norm (hK25 ?_)
                    refine wc_ret ?_
                    refine hret rfl ?_
                    exact ⟨rfl, F.toExt (by simp; omega)⟩
                  · skip
                    refine wl_gy 113 rfl rfl (y_loadx (o := 0) (s := 6) rfl Tryz.underlying24 rfl (by kernel_rfl) B9 rfl) rfl ?_
                    refine wl_gy 113 rfl rfl (y_move rfl) rfl ?_
                    refine wl_gy 113 rfl rfl (y_move rfl) rfl ?_
                    have hp : Sg.pub seed = l.sign := by simpa using v5
                    refine wl_gcall 113 rfl rfl Tryz.func8 rfl rfl rfl (checkLeaf_any _ JG.out fp (show (leafU l).length ≤ 80000 by omega) (show l.sign.length ≤ 1000 by omega) (show (Sg.sig seed (Sg.text lab.data.toList (leafT l gs z))).length ≤ 1000 by omega) (HB.ext (F.toExt (by simp; omega))) (by omega)) rfl ?_
                    rintro e w12 ⟨rfl, ex⟩
                    refine ⟨_, rfl, ?_⟩
                    replace F := F.ext ex
                    replace B4 := B4.ext ex
                    replace JG := JG.ext ex
                    replace B9 := B9.ext ex
                    replace B11 := B11.ext ex
                    replace J7 := J7.ext ex
                    replace J13 := J13.ext ex
                    replace H14 := H14.ext ex
                    skip
                    refine wl_y (y_pickf rfl rfl) rfl ?_
                    refine wl_y (y_assign rfl) rfl ?_
                    refine wl_nil ?_
                    refine wq_then_norm (hK25 ?_)
                    refine wc_ret ?_
                    refine hret rfl ?_
                    exact ⟨by rw [chk_put okw oka hp], F.toExt (by simp; omega)⟩
          · skip
            refine wl_gno 57 rfl rfl rfl rfl ?_
            refine wl_gno 57 rfl rfl rfl rfl ?_
            refine wl_gno 57 rfl rfl rfl rfl ?_
            refine wl_gun 60 rfl rfl rfl ?_
            refine wl_gun 60 rfl rfl rfl ?_
            refine wl_gno 57 rfl rfl rfl rfl ?_
            refine wl_y (y_pickf rfl rfl) rfl ?_
            refine wl_y (y_move rfl) rfl ?_
            refine wl_gy 65 rfl rfl (y_move rfl) rfl ?_
            refine wl_gy 65 rfl rfl (y_len_slice rfl Tryz.underlying22) rfl ?_
            refine wl_gy 65 rfl rfl (y_neq rfl rfl) rfl ?_
            refine wl_y (y_pickf rfl rfl) rfl ?_
            refine wl_nil ?_
            refine wq_then_norm (hK16 ?_)
            refine wc_dec rfl (fun hc4 => ?_) (fun hc4 => ?_)
            · skip
              refine wc_seq ?_; intro K26 hK26
              have e1 := signX_arg (seed := seed) (gs := gs) (z := z) okw (by unfold okAt; omega)
              rw [hX] at e1
              injection e1 with e1 e2
              subst e1; subst e2
              refine wc_region ?_
              refine wl_y (y_move rfl) rfl ?_
              refine wl_y (y_conv rfl Tryz.underlying36 Tryz.underlying3 (i64_ok (by omega) (by omega))) rfl ?_
              refine wl_y (y_eql rfl rfl) rfl ?_
              refine wl_y (Y.as (y_move rfl) (congrArg Value.bool (decide_eq_true (by omega)))) rfl ?_
              refine wl_gy 73 rfl rfl (y_loadx (o := 0) (s := 6) rfl Tryz.underlying24 rfl (by kernel_rfl) B9 rfl) rfl ?_
              refine wl_gy 73 rfl rfl (y_build rfl (cells := zLeafV) (by kernel_rfl)) rfl ?_
              refine wl_gcall 73 rfl rfl Tryz.func13 rfl rfl rfl (rsameLeaf_any _ JG.out.at (LeafAc.zero _).at fit_zero fit_zero) rfl ?_
              rintro e w7 ⟨rfl, ex⟩
              refine ⟨_, rfl, ?_⟩
              replace F := F.ext ex
              replace B4 := B4.ext ex
              replace JG := JG.ext ex
              replace B9 := B9.ext ex
              replace B11 := B11.ext ex
              replace J7 := J7.ext ex
              rw [decide_eq_true rfl]
              refine wl_y (y_pickt rfl rfl) rfl ?_
              refine wl_y (y_assign rfl) rfl ?_
              refine wl_nil ?_
              refine wq_then_norm (hK26 ?_)
              refine wc_ret ?_
              refine wq_then_ret ?_
              refine hret rfl ?_
              exact ⟨rfl, F.toExt (by simp; omega)⟩
            · skip
              refine wc_skip ?_
              refine wq_then_norm (hK15 ?_)
              refine wc_seq ?_; intro K27 hK27
              have oka : okAt l z := by unfold okAt; omega
              have h32 : seed.length = 32 := by omega
              have e1 := signX_ok (seed := seed) (gs := gs) (z := z) okw oka h32
              rw [hX] at e1
              injection e1 with e1 e2
              subst e1; subst e2
              have hl64 := Sg.sig_length seed (Sg.text lab.data.toList (leafT l gs z))
              have fp := fit_put (s := Sg.sig seed (Sg.text lab.data.toList (leafT l gs z))) hf hl64
              refine wc_region ?_
              refine wl_y (y_move rfl) rfl ?_
              refine wl_y (y_loadx (o := 0) (s := 6) rfl Tryz.underlying24 rfl (by kernel_rfl) B4 rfl) rfl ?_
              refine wl_y (y_move rfl) rfl ?_
              refine wl_y (y_move rfl) rfl ?_
              have E12 := F.toExt (by simp; omega)
              refine wl_call Tryz.func11 rfl rfl rfl (rtext16_any _ (HL.ext E12) hf (HB.ext E12) (by omega)) rfl ?_
              rintro e w7 ⟨A12, k12, c12, rfl, H12, ex⟩
              refine ⟨_, rfl, ?_⟩
              replace F := F.ext ex
              replace B4 := B4.ext ex
              replace JG := JG.ext ex
              replace B9 := B9.ext ex
              replace B11 := B11.ext ex
              replace J7 := J7.ext ex
              have hk12 := H12.1; have hT := leafT_le (z := z) (gs := gs) (show (leafU l).length ≤ 80000 by omega) (show gs.length ≤ 100 by omega)
              refine wl_call Tryz.func14 rfl rfl rfl (Label_t (s := lab) (HA.ext (F.toExt (by simp; omega))) H12 h32 lab_size (by omega)) rfl ?_
              rintro e w8 ⟨A13, c13, rfl, H13, h13, ex⟩
              refine ⟨_, rfl, ?_⟩
              replace F := F.ext ex
              replace B4 := B4.ext ex
              replace JG := JG.ext ex
              replace B9 := B9.ext ex
              replace B11 := B11.ext ex
              replace J7 := J7.ext ex
              have J13 : Kp w8.heap.size [gB11] (fun w => Bs w A13 64 (Sg.sig seed (Sg.text lab.data.toList (leafT l gs z)))) w8 := Kp.bs H13 (fun _ g hg o e => by obtain rfl := List.mem_singleton.1 hg; exact H13.notin B11 (show (6 : Nat) < 64 by omega) o e)
              refine wl_y (y_move rfl) rfl ?_
              refine wl_y (y_extract rfl rfl) rfl ?_
              refine wl_y (y_extract rfl rfl) rfl ?_
              refine wl_y (y_assign rfl) rfl ?_
              refine wl_y (y_assign rfl) rfl ?_
              refine wl_nil ?_
              refine wq_then_norm (hK27 ?_)
              refine wc_seq ?_; intro K28 hK28
              refine wc_region ?_
              refine wl_y (y_move rfl) rfl ?_
              refine wl_y (y_fieldAddr (o := 5) (s := 1) (off := 0) (o' := 5) rfl Tryz.underlying24 rfl (by kernel_rfl) rfl rfl) rfl ?_
              refine wl_ef (ef_storeB (i := 5) rfl rfl rfl (by kernel_rfl) B11 (Nat.le_of_ble_eq_true rfl)) rfl ?_
              rintro _ wS13_2 ⟨rfl, D, cg⟩
              have ex := Chs.one cg
              clear cg
              replace F := F.chs ex
              replace B4 := B4.chs ex
              replace JG := JG.chs ex
              replace B9 := B9.chs ex
              replace J7 := J7.chs ex
              replace J13 := J13.chs ex
              replace B11 := D; clear D
              replace B11 := B11.congr (cs' := leafV g0 g1 g2 l.src g4 ⟨A13, 64, c13⟩) rfl
              refine wl_nil ?_
              refine wq_then_norm (hK28 ?_)
              refine wc_seq ?_; intro K29 hK29
              refine wc_seq ?_; intro K30 hK30
              refine wc_region ?_
              refine wl_y (y_move rfl) rfl ?_
              refine wl_y (y_conv rfl Tryz.underlying36 Tryz.underlying3 (i64_ok (by omega) (by omega))) rfl ?_
              refine wl_y (y_neq rfl rfl) rfl ?_
              refine wl_y (Y.as (y_move rfl) (congrArg Value.bool (decide_eq_false (by omega)))) rfl ?_
              refine wl_gy 92 rfl rfl (y_move rfl) rfl ?_
              refine wl_gy 92 rfl rfl (y_conv rfl Tryz.underlying36 Tryz.underlying3 (i64_ok (by omega) (by omega))) rfl ?_
              refine wl_gy 92 rfl rfl (y_neq rfl rfl) rfl ?_
              refine wl_y (y_pickf rfl rfl) rfl ?_
              refine wl_y (Y.as (y_move rfl) (congrArg Value.bool (decide_eq_false (by omega)))) rfl ?_
              refine wl_gy 97 rfl rfl (y_loadx (o := 0) (s := 6) rfl Tryz.underlying24 rfl (by kernel_rfl) B9 rfl) rfl ?_
              refine wl_gy 97 rfl rfl (y_loadx (o := 0) (s := 6) rfl Tryz.underlying24 rfl (by kernel_rfl) B11 rfl) rfl ?_
              refine wl_gcall 97 rfl rfl Tryz.func13 rfl rfl rfl (rsameLeaf_any _ JG.out.at (LeafAc.sub (h := ⟨A13, 64, c13⟩) (HC.ext (F.toExt (by simp; omega))) J13.out h13).at fp fp) rfl ?_
              rintro e w9 ⟨rfl, ex⟩
              refine ⟨_, rfl, ?_⟩
              replace F := F.ext ex
              replace B4 := B4.ext ex
              replace JG := JG.ext ex
              replace B9 := B9.ext ex
              replace B11 := B11.ext ex
              replace J7 := J7.ext ex
              replace J13 := J13.ext ex
              rw [decide_eq_true rfl]
              refine wl_gy 97 rfl rfl (y_not rfl) rfl ?_
              refine wl_y (y_pickf rfl rfl) rfl ?_
              refine wl_nil ?_
              refine wq_then_norm (hK30 ?_)
              refine wc_false rfl rfl ?_
              refine wc_skip ?_
              refine wq_then_norm (hK29 ?_)
              refine wc_seq ?_; intro K31 hK31
              refine wc_region ?_
              refine wl_y (y_move rfl) rfl ?_
              refine wl_call Tryz.func15 rfl rfl rfl (Public_t (HA.ext (F.toExt (by simp; omega))) h32) rfl ?_
              rintro e w10 ⟨A14, c14, rfl, H14, h14, ex⟩
              refine ⟨_, rfl, ?_⟩
              replace F := F.ext ex
              replace B4 := B4.ext ex
              replace JG := JG.ext ex
              replace B9 := B9.ext ex
              replace B11 := B11.ext ex
              replace J7 := J7.ext ex
              replace J13 := J13.ext ex
              skip
              refine wl_y (y_move rfl) rfl ?_
              refine wl_y (y_extract rfl rfl) rfl ?_
              refine wl_y (y_extract rfl rfl) rfl ?_
              refine wl_y (y_assign rfl) rfl ?_
              refine wl_y (y_assign rfl) rfl ?_
              refine wl_nil ?_
              refine wq_then_norm (hK31 ?_)
              refine wc_seq ?_; intro K32 hK32
              refine wc_region ?_
              refine wl_y (y_move rfl) rfl ?_
              refine wl_y (y_fieldAddr (o := 1) (s := 1) (off := 0) (o' := 1) rfl Tryz.underlying24 rfl (by kernel_rfl) rfl rfl) rfl ?_
              refine wl_y (y_load1 rfl Tryz.underlying22 rfl (B4.get (i := 1) rfl)) rfl ?_
              refine wl_call Tryz.func16 rfl rfl rfl (sm_any H14 (Bs.ext b1 (F.toExt (by simp; omega))) (by omega) (by omega)) rfl ?_
              rintro e w11 ⟨rfl, ex⟩
              refine ⟨_, rfl, ?_⟩
              replace F := F.ext ex
              replace B4 := B4.ext ex
              replace JG := JG.ext ex
              replace B9 := B9.ext ex
              replace B11 := B11.ext ex
              replace J7 := J7.ext ex
              replace J13 := J13.ext ex
              replace H14 := H14.ext ex
              skip
              refine wl_y (y_not rfl) rfl ?_
              refine wl_yaskb (y_move rfl) rfl (fun v5 => ?_) (fun v5 => ?_)
              · skip
                refine wl_gno 113 rfl rfl rfl rfl ?_
                refine wl_gno 113 rfl rfl rfl rfl ?_
                refine wl_gno 113 rfl rfl rfl rfl ?_
                refine wl_gno 113 rfl rfl rfl rfl ?_
                refine wl_y (y_pickt rfl rfl) rfl ?_
                refine wl_y (y_assign rfl) rfl ?_
                refine wl_nil ?_
                refine wq_then_norm (hK32 ?_)
                refine wc_ret ?_
                refine hret rfl ?_
                exact ⟨rfl, F.toExt (by simp; omega)⟩
              · skip
                refine wl_gy 113 rfl rfl (y_loadx (o := 0) (s := 6) rfl Tryz.underlying24 rfl (by kernel_rfl) B9 rfl) rfl ?_
                refine wl_gy 113 rfl rfl (y_move rfl) rfl ?_
                refine wl_gy 113 rfl rfl (y_move rfl) rfl ?_
                have hp : Sg.pub seed = l.sign := by simpa using v5
                refine wl_gcall 113 rfl rfl Tryz.func8 rfl rfl rfl (checkLeaf_any _ JG.out fp (show (leafU l).length ≤ 80000 by omega) (show l.sign.length ≤ 1000 by omega) (show (Sg.sig seed (Sg.text lab.data.toList (leafT l gs z))).length ≤ 1000 by omega) (HB.ext (F.toExt (by simp; omega))) (by omega)) rfl ?_
                rintro e w12 ⟨rfl, ex⟩
                refine ⟨_, rfl, ?_⟩
                replace F := F.ext ex
                replace B4 := B4.ext ex
                replace JG := JG.ext ex
                replace B9 := B9.ext ex
                replace B11 := B11.ext ex
                replace J7 := J7.ext ex
                replace J13 := J13.ext ex
                replace H14 := H14.ext ex
                skip
                refine wl_y (y_pickf rfl rfl) rfl ?_
                refine wl_y (y_assign rfl) rfl ?_
                refine wl_nil ?_
                refine wq_then_norm (hK32 ?_)
                refine wc_ret ?_
                refine hret rfl ?_
                exact ⟨by rw [chk_put okw oka hp], F.toExt (by simp; omega)⟩
end Go.Proofs.YtopimmomkapdoaaGreat
