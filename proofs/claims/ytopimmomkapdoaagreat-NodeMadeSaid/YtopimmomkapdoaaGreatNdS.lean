/- The law NodeMade: a leaf whose key is a seed's is checked when that seed has signed it. -/
import Derived.Test.YtopimmomkapdoaaGreatNdR
namespace Go.Proofs.YtopimmomkapdoaaGreat
open Go.RowKit
attribute [local irreducible] Y Ef WL WC WK WQ WM OpM WN WF OpN WJ OpJ
open Wire Nd
def madeL (bs ps is : List UInt8) (s : Nat) : Leaf := ⟨bs, ps, is, s, [], []⟩
theorem chk_one {l : Leaf} {seed gs gs' : List UInt8} {z z' : Int} (okw : okLeaf (wantL l)) (h1 : l.src = 1) (hp : Sg.pub seed = l.sign) : chk (l.put (Sg.sig seed (Sg.text lab.data.toList (leafT l gs z)))) gs' z' = true := by
  have e : leafT l gs z = leafT l gs' z' := by unfold leafT; rw [if_pos h1, if_pos h1]
  rw [e]
  exact chk_put okw (.inl h1) hp
theorem leafU_made {bs ps is : List UInt8} {s : Nat} (h1 : bs.length ≤ 100) (h2 : ps.length ≤ 100) (h3 : is.length ≤ 100) : (leafU (madeL bs ps is s)).length ≤ 900 := by
  have a1 := vec_le bs; have a2 := vec_le ps; have a3 := vec_le is; have a4 := vec_le []
  have e : leafU (madeL bs ps is s) = vec bs ++ vec ps ++ vec is ++ [UInt8.ofNat s] ++ (if s = 3 then vec [] else []) := rfl
  rw [e]
  simp only [List.length_append, List.length_singleton]
  have h0 : ([] : List UInt8).length = 0 := rfl
  split
  · omega
  · omega
set_option maxHeartbeats 1000000 in
theorem nodeMade_law (A : Option Addr) (n c : Nat) (bs : List UInt8) (B : Option Addr) (m d : Nat) (is : List UInt8) (C : Option Addr) (k f : Nat) (seed : List UInt8) (D : Option Addr) (q r : Nat) (gs : List UInt8) (x y : Int) (w : World)
    (HA : Bs w A n bs) (_hn : n ≤ maxLen) (HB : Bs w B m is) (_hm : m ≤ maxLen) (HC : Bs w C k seed) (_hk : k ≤ maxLen) (HD : Bs w D q gs) (_hq : q ≤ maxLen) (hx : (Lit.int .u8 x).wf = true) (hy : (Lit.int .u16 y).wf = true) :
    Calls Tryz.prog 5 #[.slice A n c, .slice B m d, .slice C k f, .slice D q r, .int .u8 x, .int .u16 y] w fun e w' => e = .returned (.bool true) ∧ Below w.heap.size w w' := by
  have hlA := HA.1; have hlB := HB.1; have hlC := HC.1; have hlD := HD.1
  have hx' : 0 ≤ x ∧ x ≤ 255 := bounds_u8 hx
  have hy' : 0 ≤ y ∧ y ≤ 65535 := by simpa [Lit.wf, IntKind.min, IntKind.max, IntKind.bits, IntKind.signed] using hy
  obtain ⟨xn, rfl⟩ : ∃ xn : Nat, x = xn := Int.eq_ofNat_of_zero_le hx'.1
  have F := Chs.refl [] w
  obtain ⟨l, hl⟩ : ∃ l, l = madeL bs (Sg.pub seed) is (1 + xn % 3) := ⟨_, rfl⟩
  have hsrc : l.src = 1 + xn % 3 := by rw [hl]; rfl
  have hsl : l.src < 256 := by omega
  have hp : Sg.pub seed = l.sign := by rw [hl]; rfl
  have hpl := Sg.pub_length seed
  obtain ⟨sg, hsg⟩ : ∃ sg, sg = Sg.sig seed (Sg.text lab.data.toList (leafT l gs y)) := ⟨_, rfl⟩
  have hl64 : sg.length = 64 := by rw [hsg]; exact Sg.sig_length _ _
  have hsp : (l.put sg).src = l.src := rfl
  refine vc_enter1 103 Tryz.func5 rfl rfl rfl rfl ?_
  intro Q hret
  refine wc_seq ?_; intro K1 hK1
  refine wc_region ?_
  refine wl_y (y_assign rfl) rfl ?_
  refine wl_nil ?_
  refine wq_then_norm (hK1 ?_)
  refine wc_seq ?_; intro K2 hK2
  refine wc_seq ?_; intro K3 hK3
  refine wc_region ?_
  refine wl_call Tryz.func6 rfl rfl rfl (alive16_any _) rfl ?_
  rintro e w1 ⟨rfl, ex⟩
  refine ⟨_, rfl, ?_⟩
  replace F := F.ext ex
  refine wl_y (y_not rfl) rfl ?_
  refine wl_nil ?_
  refine wq_then_norm (hK3 ?_)
  refine wc_false rfl rfl ?_
  refine wc_skip ?_
  refine wq_then_norm (hK2 ?_)
  refine wc_seq ?_; intro K4 hK4
  refine wc_seq ?_; intro K5 hK5
  refine wc_region ?_
  refine wl_y (y_move rfl) rfl ?_
  refine wl_y (y_len_slice rfl Tryz.underlying22) rfl ?_
  refine wl_y (y_neq rfl rfl) rfl ?_
  refine wl_yask (y_move rfl) rfl (fun v1 => ?_) (fun v1 => ?_)
  · skip
    refine wl_gno 24 rfl rfl rfl rfl ?_
    refine wl_gno 24 rfl rfl rfl rfl ?_
    refine wl_gno 24 rfl rfl rfl rfl ?_
    refine wl_y (y_pickt rfl rfl) rfl ?_
    refine wl_y (y_move rfl) rfl ?_
    refine wl_gno 29 rfl rfl rfl rfl ?_
    refine wl_gno 29 rfl rfl rfl rfl ?_
    refine wl_gno 29 rfl rfl rfl rfl ?_
    refine wl_y (y_pickt rfl rfl) rfl ?_
    refine wl_y (y_move rfl) rfl ?_
    refine wl_gno 34 rfl rfl rfl rfl ?_
    refine wl_gno 34 rfl rfl rfl rfl ?_
    refine wl_gno 34 rfl rfl rfl rfl ?_
    refine wl_y (y_pickt rfl rfl) rfl ?_
    refine wl_y (y_move rfl) rfl ?_
    refine wl_gno 39 rfl rfl rfl rfl ?_
    refine wl_gno 39 rfl rfl rfl rfl ?_
    refine wl_gno 39 rfl rfl rfl rfl ?_
    refine wl_y (y_pickt rfl rfl) rfl ?_
    refine wl_nil ?_
    refine wq_then_norm (hK5 ?_)
    refine wc_true rfl rfl ?_
    refine wc_seq ?_; intro K6 hK6
    refine wc_region ?_
    refine wl_y (y_assign rfl) rfl ?_
    refine wl_nil ?_
    refine wq_then_norm (hK6 ?_)
    refine wc_ret ?_
    refine wq_then_ret ?_
    refine hret rfl ?_
    exact ⟨rfl, F.toExt (by simp)⟩
  · skip
    refine wl_gy 24 rfl rfl (y_move rfl) rfl ?_
    refine wl_gy 24 rfl rfl (y_len_slice rfl Tryz.underlying22) rfl ?_
    refine wl_gy 24 rfl rfl (y_lss rfl rfl) rfl ?_
    refine wl_y (y_pickf rfl rfl) rfl ?_
    refine wl_yask (y_move rfl) rfl (fun v2 => ?_) (fun v2 => ?_)
    · skip
      refine wl_gno 29 rfl rfl rfl rfl ?_
      refine wl_gno 29 rfl rfl rfl rfl ?_
      refine wl_gno 29 rfl rfl rfl rfl ?_
      refine wl_y (y_pickt rfl rfl) rfl ?_
      refine wl_y (y_move rfl) rfl ?_
      refine wl_gno 34 rfl rfl rfl rfl ?_
      refine wl_gno 34 rfl rfl rfl rfl ?_
      refine wl_gno 34 rfl rfl rfl rfl ?_
      refine wl_y (y_pickt rfl rfl) rfl ?_
      refine wl_y (y_move rfl) rfl ?_
      refine wl_gno 39 rfl rfl rfl rfl ?_
      refine wl_gno 39 rfl rfl rfl rfl ?_
      refine wl_gno 39 rfl rfl rfl rfl ?_
      refine wl_y (y_pickt rfl rfl) rfl ?_
      refine wl_nil ?_
      refine wq_then_norm (hK5 ?_)
      refine wc_true rfl rfl ?_
      refine wc_seq ?_; intro K7 hK7
      refine wc_region ?_
      refine wl_y (y_assign rfl) rfl ?_
      refine wl_nil ?_
      refine wq_then_norm (hK7 ?_)
      refine wc_ret ?_
      refine wq_then_ret ?_
      refine hret rfl ?_
      exact ⟨rfl, F.toExt (by simp)⟩
    · skip
      refine wl_gy 29 rfl rfl (y_move rfl) rfl ?_
      refine wl_gy 29 rfl rfl (y_len_slice rfl Tryz.underlying22) rfl ?_
      refine wl_gy 29 rfl rfl (y_gtr rfl rfl) rfl ?_
      refine wl_y (y_pickf rfl rfl) rfl ?_
      refine wl_yask (y_move rfl) rfl (fun v3 => ?_) (fun v3 => ?_)
      · skip
        refine wl_gno 34 rfl rfl rfl rfl ?_
        refine wl_gno 34 rfl rfl rfl rfl ?_
        refine wl_gno 34 rfl rfl rfl rfl ?_
        refine wl_y (y_pickt rfl rfl) rfl ?_
        refine wl_y (y_move rfl) rfl ?_
        refine wl_gno 39 rfl rfl rfl rfl ?_
        refine wl_gno 39 rfl rfl rfl rfl ?_
        refine wl_gno 39 rfl rfl rfl rfl ?_
        refine wl_y (y_pickt rfl rfl) rfl ?_
        refine wl_nil ?_
        refine wq_then_norm (hK5 ?_)
        refine wc_true rfl rfl ?_
        refine wc_seq ?_; intro K8 hK8
        refine wc_region ?_
        refine wl_y (y_assign rfl) rfl ?_
        refine wl_nil ?_
        refine wq_then_norm (hK8 ?_)
        refine wc_ret ?_
        refine wq_then_ret ?_
        refine hret rfl ?_
        exact ⟨rfl, F.toExt (by simp)⟩
      · skip
        refine wl_gy 34 rfl rfl (y_move rfl) rfl ?_
        refine wl_gy 34 rfl rfl (y_len_slice rfl Tryz.underlying22) rfl ?_
        refine wl_gy 34 rfl rfl (y_neq rfl rfl) rfl ?_
        refine wl_y (y_pickf rfl rfl) rfl ?_
        refine wl_yask (y_move rfl) rfl (fun v4 => ?_) (fun v4 => ?_)
        · skip
          refine wl_gno 39 rfl rfl rfl rfl ?_
          refine wl_gno 39 rfl rfl rfl rfl ?_
          refine wl_gno 39 rfl rfl rfl rfl ?_
          refine wl_y (y_pickt rfl rfl) rfl ?_
          refine wl_nil ?_
          refine wq_then_norm (hK5 ?_)
          refine wc_true rfl rfl ?_
          refine wc_seq ?_; intro K9 hK9
          refine wc_region ?_
          refine wl_y (y_assign rfl) rfl ?_
          refine wl_nil ?_
          refine wq_then_norm (hK9 ?_)
          refine wc_ret ?_
          refine wq_then_ret ?_
          refine hret rfl ?_
          exact ⟨rfl, F.toExt (by simp)⟩
        · skip
          refine wl_gy 39 rfl rfl (y_move rfl) rfl ?_
          refine wl_gy 39 rfl rfl (y_len_slice rfl Tryz.underlying22) rfl ?_
          refine wl_gy 39 rfl rfl (y_gtr rfl rfl) rfl ?_
          refine wl_y (y_pickf rfl rfl) rfl ?_
          refine wl_nil ?_
          refine wq_then_norm (hK5 ?_)
          refine wc_dec rfl (fun hc2 => ?_) (fun hc2 => ?_)
          · skip
            refine wc_seq ?_; intro K10 hK10
            refine wc_region ?_
            refine wl_y (y_assign rfl) rfl ?_
            refine wl_nil ?_
            refine wq_then_norm (hK10 ?_)
            refine wc_ret ?_
            refine wq_then_ret ?_
            refine hret rfl ?_
            exact ⟨rfl, F.toExt (by simp)⟩
          · skip
            refine wc_skip ?_
            refine wq_then_norm (hK4 ?_)
            refine wc_seq ?_; intro K11 hK11
            refine wc_region ?_
            refine wl_y (y_move rfl) rfl ?_
            have h32 : seed.length = 32 := by omega
            have okw : okLeaf (wantL l) := by
              rw [hl]
              exact ⟨(show bs.length = 32 by omega), hpl, List.length_replicate, (show 1 ≤ is.length by omega), (show is.length ≤ 64 by omega), (show 1 ≤ 1 + xn % 3 by omega), (show 1 + xn % 3 ≤ 3 by omega), .inl rfl⟩
            have oka : okAt l y := .inr ⟨hy'.1, by omega⟩
            have hX1 : signX l seed gs y = (l.put sg, 0) := by rw [hsg]; exact signX_ok okw oka h32
            have hX2 : signX (l.put sg) seed gs y = (l.put sg, 0) := by
              have h := signX_ok (l := l.put sg) (gs := gs) (z := y) (show okLeaf (wantL (l.put sg)) from okw) (show okAt (l.put sg) y from oka) h32
              rw [h]
              show ((l.put sg).put (Sg.sig seed (Sg.text lab.data.toList (leafT l gs y))), 0) = _
              rw [← hsg]; rfl
            have hU : (leafU l).length ≤ 900 := by rw [hl]; exact leafU_made (by omega) (by omega) (by omega)
            have hfl : l.Fit := by rw [hl]; exact ⟨(show bs.length ≤ 1000000 by omega), (show (Sg.pub seed).length ≤ 1000000 by omega), (show is.length ≤ 1000000 by omega), Nat.zero_le _, Nat.zero_le _⟩
            have fp := fit_put (s := sg) hfl hl64
            refine wl_call Tryz.func15 rfl rfl rfl (Public_t (HC.ext (F.toExt (by simp))) h32) rfl ?_
            rintro e w2 ⟨A13, c13, rfl, H13, h13, ex⟩
            refine ⟨_, rfl, ?_⟩
            replace F := F.ext ex
            skip
            refine wl_y (y_move rfl) rfl ?_
            refine wl_y (y_extract rfl rfl) rfl ?_
            refine wl_y (y_extract rfl rfl) rfl ?_
            refine wl_y (y_assign rfl) rfl ?_
            refine wl_y (y_assign rfl) rfl ?_
            refine wl_nil ?_
            refine wq_then_norm (hK11 ?_)
            refine wc_seq ?_; intro K12 hK12
            refine wc_region ?_
            refine wl_y (y_move rfl) rfl ?_
            refine wl_y (y_move rfl) rfl ?_
            refine wl_y (y_move rfl) rfl ?_
            refine wl_y (y_move rfl) rfl ?_
            refine wl_y (y_rem rfl rfl (by omega) (show _ = ((xn % 3 : Nat) : Int) by rw [IntWalk.rem_in _ _ (by omega)]; omega)) rfl ?_
            refine wl_y (y_add rfl rfl (show IntKind.u8.wrap _ = ((l.src : Nat) : Int) by rw [IntKind.wrap_u8']; omega)) rfl ?_
            refine wl_y (y_build rfl (cells := leafV ⟨A, n, c⟩ ⟨A13, 32, c13⟩ ⟨B, m, d⟩ l.src nilH nilH) (by kernel_rfl)) rfl ?_
            refine wl_y (y_move rfl) rfl ?_
            refine wl_y (y_move rfl) rfl ?_
            refine wl_y (y_move rfl) rfl ?_
            refine wl_y (y_conv rfl Tryz.underlying45 Tryz.underlying3 (i64_ok (by omega) (by omega))) rfl ?_
            have E6 := F.toExt (by simp)
            have HL0 : LeafAt w2 (leafV ⟨A, n, c⟩ ⟨A13, 32, c13⟩ ⟨B, m, d⟩ l.src nilH nilH) l := ⟨⟨A, n, c⟩, ⟨A13, 32, c13⟩, ⟨B, m, d⟩, nilH, nilH, rfl, hsl, by rw [hl]; exact HA.ext E6, by rw [hl]; exact H13, by rw [hl]; exact HB.ext E6, by rw [hl]; exact Bs.nil _ _, by rw [hl]; exact Bs.nil _ _⟩
            refine wl_call Tryz.func12 rfl rfl rfl (signLeaf_at _ HL0 hfl (by omega) (HC.ext E6) (by omega) (HD.ext E6) (by omega) hX1) rfl ?_
            rintro e w3 ⟨cs15, rfl, HG, ex⟩
            refine ⟨_, rfl, ?_⟩
            replace F := F.ext ex
            replace H13 := H13.ext ex
            have HG2 := HG; obtain ⟨j0, j1, j2, j4, j5, rfl, _⟩ := HG2; have JG := HG.kp0
            refine wl_y (y_move rfl) rfl ?_
            refine wl_y (y_extract rfl rfl) rfl ?_
            refine wl_y (y_extract rfl rfl) rfl ?_
            refine wl_ef (ef_alloc (Z := #[.slice none 0 0, .slice none 0 0, .slice none 0 0, .int .u8 0, .slice none 0 0, .slice none 0 0]) (by kernel_rfl)) rfl ?_
            rintro _ wA15 ⟨gB15, rfl, D15, hgB15, exA⟩
            refine wl_ef (ef_storeP (o := 0) rfl rfl (by kernel_rfl) D15 (Nat.le_of_ble_eq_true rfl) (all_ones rfl)) rfl ?_
            rintro _ wB15 ⟨rfl, B15, cg⟩
            have ex := exA.chg cg hgB15; clear cg exA D15
            have lB15 := B15.lt; have zB15 := ex.size
            replace F := F.ext ex
            replace JG := JG.ext ex
            refine wl_y (y_assign rfl) rfl ?_
            refine wl_nil ?_
            refine wq_then_norm (hK12 ?_)
            refine wc_seq ?_; intro K13 hK13
            refine wc_region ?_
            refine wl_y (y_loadx (o := 0) (s := 6) rfl Tryz.underlying24 rfl (by kernel_rfl) B15 rfl) rfl ?_
            refine wl_y (y_move rfl) rfl ?_
            refine wl_y (y_move rfl) rfl ?_
            refine wl_y (y_move rfl) rfl ?_
            refine wl_y (y_conv rfl Tryz.underlying45 Tryz.underlying3 (i64_ok (by omega) (by omega))) rfl ?_
            have E7 := F.toExt (by simp)
            refine wl_call Tryz.func12 rfl rfl rfl (signLeaf_at _ JG.out.at fp (show (leafU l).length ≤ 80000 by omega) (HC.ext E7) (by omega) (HD.ext E7) (by omega) hX2) rfl ?_
            rintro e w4 ⟨cs17, rfl, HK, ex⟩
            refine ⟨_, rfl, ?_⟩
            replace F := F.ext ex
            replace JG := JG.ext ex
            replace B15 := B15.ext ex
            have HK2 := HK; obtain ⟨t0, t1, t2, t4, t5, rfl, _⟩ := HK2; have JK := HK.kp0
            refine wl_y (y_move rfl) rfl ?_
            refine wl_y (y_extract rfl rfl) rfl ?_
            refine wl_y (y_extract rfl rfl) rfl ?_
            refine wl_ef (ef_alloc (Z := #[.slice none 0 0, .slice none 0 0, .slice none 0 0, .int .u8 0, .slice none 0 0, .slice none 0 0]) (by kernel_rfl)) rfl ?_
            rintro _ wA17 ⟨gB17, rfl, D17, hgB17, exA⟩
            refine wl_ef (ef_storeP (o := 0) rfl rfl (by kernel_rfl) D17 (Nat.le_of_ble_eq_true rfl) (all_ones rfl)) rfl ?_
            rintro _ wB17 ⟨rfl, B17, cg⟩
            have ex := exA.chg cg hgB17; clear cg exA D17
            have lB17 := B17.lt; have zB17 := ex.size
            replace F := F.ext ex
            replace JG := JG.ext ex
            replace B15 := B15.ext ex
            replace JK := JK.ext ex
            refine wl_y (y_assign rfl) rfl ?_
            refine wl_nil ?_
            refine wq_then_norm (hK13 ?_)
            refine wc_seq ?_; intro K14 hK14
            refine wc_seq ?_; intro K15 hK15
            refine wc_region ?_
            refine wl_y (y_move rfl) rfl ?_
            refine wl_y (y_conv rfl Tryz.underlying36 Tryz.underlying3 (show IntKind.i64.wrap 0 = 0 from rfl)) rfl ?_
            refine wl_y (y_move rfl) rfl ?_
            refine wl_y (y_conv rfl Tryz.underlying36 Tryz.underlying3 (i64_ok (by omega) (by omega))) rfl ?_
            refine wl_y (y_add rfl rfl (i64_ok (by omega) (by omega))) rfl ?_
            refine wl_y (y_move rfl) rfl ?_
            refine wl_y (y_conv rfl Tryz.underlying36 Tryz.underlying3 (i64_ok (by omega) (by omega))) rfl ?_
            refine wl_y (y_add rfl rfl (i64_ok (by omega) (by omega))) rfl ?_
            refine wl_y (y_neq rfl rfl) rfl ?_
            refine wl_y (Y.as (y_move rfl) (congrArg Value.bool (decide_eq_false (by omega)))) rfl ?_
            refine wl_gy 82 rfl rfl (y_loadx (o := 0) (s := 6) rfl Tryz.underlying24 rfl (by kernel_rfl) B17 rfl) rfl ?_
            refine wl_gy 82 rfl rfl (y_loadx (o := 0) (s := 6) rfl Tryz.underlying24 rfl (by kernel_rfl) B15 rfl) rfl ?_
            refine wl_gcall 82 rfl rfl Tryz.func13 rfl rfl rfl (rsameLeaf_any _ JK.out.at JG.out.at fp fp) rfl ?_
            rintro e w5 ⟨rfl, ex⟩
            refine ⟨_, rfl, ?_⟩
            replace F := F.ext ex
            replace JG := JG.ext ex
            replace B15 := B15.ext ex
            replace JK := JK.ext ex
            replace B17 := B17.ext ex
            rw [decide_eq_true rfl]
            refine wl_gy 82 rfl rfl (y_not rfl) rfl ?_
            refine wl_y (y_pickf rfl rfl) rfl ?_
            refine wl_y (y_move rfl) rfl ?_
            refine wl_gy 88 rfl rfl (y_loadx (o := 0) (s := 6) rfl Tryz.underlying24 rfl (by kernel_rfl) B15 rfl) rfl ?_
            refine wl_gy 88 rfl rfl (y_move rfl) rfl ?_
            refine wl_gy 88 rfl rfl (y_move rfl) rfl ?_
            refine wl_gy 88 rfl rfl (y_conv rfl Tryz.underlying45 Tryz.underlying3 (i64_ok (by omega) (by omega))) rfl ?_
            refine wl_gcall 88 rfl rfl Tryz.func8 rfl rfl rfl (checkLeaf_any _ JG.out fp (show (leafU l).length ≤ 80000 by omega) (show l.sign.length ≤ 1000 by rw [← hp]; omega) (show sg.length ≤ 1000 by omega) (HD.ext (F.toExt (by simp))) (by omega)) rfl ?_
            rintro e w6 ⟨rfl, ex⟩
            refine ⟨_, rfl, ?_⟩
            replace F := F.ext ex
            replace JG := JG.ext ex
            replace B15 := B15.ext ex
            replace JK := JK.ext ex
            replace B17 := B17.ext ex
            rw [show chk (l.put sg) gs y = true by rw [hsg]; exact chk_put okw oka hp]
            refine wl_gy 88 rfl rfl (y_not rfl) rfl ?_
            refine wl_y (y_pickf rfl rfl) rfl ?_
            refine wl_nil ?_
            refine wq_then_norm (hK15 ?_)
            refine wc_false rfl rfl ?_
            refine wc_skip ?_
            refine wq_then_norm (hK14 ?_)
            refine wc_seq ?_; intro K16 hK16
            refine wc_region ?_
            refine wl_y (y_fieldAddr (o := 3) (s := 1) (off := 0) (o' := 3) rfl Tryz.underlying24 rfl (by kernel_rfl) rfl rfl) rfl ?_
            refine wl_y (y_load1 rfl Tryz.underlying5 rfl (B15.get (i := 3) rfl)) rfl ?_
            refine wl_y (y_neq rfl rfl) rfl ?_
            refine wl_yask (y_move rfl) rfl (fun v5 => ?_) (fun v5 => ?_)
            · skip
              refine wl_gno 99 rfl rfl rfl rfl ?_
              refine wl_gno 99 rfl rfl rfl rfl ?_
              refine wl_y (y_pickt rfl rfl) rfl ?_
              refine wl_y (y_assign rfl) rfl ?_
              refine wl_nil ?_
              refine wq_then_norm (hK16 ?_)
              refine wc_ret ?_
              refine hret rfl ?_
              exact ⟨rfl, F.toExt (by simp)⟩
            · skip
              refine wl_gy 99 rfl rfl (y_loadx (o := 0) (s := 6) rfl Tryz.underlying24 rfl (by kernel_rfl) B15 rfl) rfl ?_
              refine wl_gcall 99 rfl rfl Tryz.func8 rfl rfl rfl (checkLeaf_any (gs := []) (z := -1) _ JG.out fp (show (leafU l).length ≤ 80000 by omega) (show l.sign.length ≤ 1000 by rw [← hp]; omega) (show sg.length ≤ 1000 by omega) (Bs.nil _ none) (by omega)) rfl ?_
              rintro e w7 ⟨rfl, ex⟩
              refine ⟨_, rfl, ?_⟩
              replace F := F.ext ex
              replace JG := JG.ext ex
              replace B15 := B15.ext ex
              replace JK := JK.ext ex
              replace B17 := B17.ext ex
              skip
              refine wl_y (y_pickf rfl rfl) rfl ?_
              refine wl_y (y_assign rfl) rfl ?_
              refine wl_nil ?_
              refine wq_then_norm (hK16 ?_)
              refine wc_ret ?_
              refine hret rfl ?_
              exact ⟨by rw [show chk (l.put sg) [] (-1) = true by rw [hsg]; exact chk_one okw (by omega) hp], F.toExt (by simp)⟩
end Go.Proofs.YtopimmomkapdoaaGreat
