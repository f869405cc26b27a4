/- The reference's commits at a place of bytes. No conditions: contracts of the reference's functions. -/
import Derived.Test.YtpgalbgonmclaaaGreatMvA
namespace Go.Proofs.YtpgalbgonmclaaaGreat
open Go.RowKit
attribute [local irreducible] Y Ef WL WC WK WQ WM OpM WN WF OpN WJ OpJ
open Wire Nd M20
def ItemS (A0 : Option Addr) (n0 : Nat) (b0 : List UInt8) (cs : Array Value) (x : Item20) : Prop :=
  ∃ r i h0 h1 h2 s h4 h5 g l0 l1 l2 t l4 l5, cs = itmV r x.prop.kind i h0 h1 h2 s h4 h5 g l0 l1 l2 t l4 l5 x.prop.at_ ∧ Sub A0 n0 b0 r.A r.n x.ref ∧ PropS A0 n0 b0 (propV x.prop.kind i h0 h1 h2 s h4 h5 g l0 l1 l2 t l4 l5 x.prop.at_) x.prop
def BxdS (A0 : Option Addr) (n0 : Nat) (b0 : List UInt8) (cs : Array Value) (x : Bxd) : Prop := ∃ h0 h1, cs = twoV h0 h1 ∧ Sub A0 n0 b0 h0.A h0.n x.enc ∧ Sub A0 n0 b0 h1.A h1.n x.box
def StpR (base : Nat) (A0 : Option Addr) (n0 : Nat) (b0 : List UInt8) (w : World) (cs : Array Value) (x : Stp) : Prop := ∃ h0 h1, cs = twoV h0 h1 ∧ Sub A0 n0 b0 h0.A h0.n x.box ∧ ElsF base (fun _ cs x => BxdS A0 n0 b0 cs x) 2 w h1.A h1.n x.to
def ComR (base : Nat) (A0 : Option Addr) (n0 : Nat) (b0 : List UInt8) (w : World) (cs : Array Value) (x : Com20) : Prop :=
  ∃ it h0 h1 h2 s h4 h5 t, cs = comV it x.has h0 h1 h2 s h4 h5 t ∧ ElsF base (fun _ cs x => ItemS A0 n0 b0 cs x) 17 w it.A it.n x.items ∧ LeafS A0 n0 b0 (leafV h0 h1 h2 s h4 h5) x.way.leaf ∧ ElsF base (StpR base A0 n0 b0) 2 w t.A t.n x.way.steps
section
variable {A0 : Option Addr} {n0 : Nat} {b0 : List UInt8} {cs : Array Value} {s : St} {base : Nat} {w : World}
theorem ItemS.at {x : Item20} (h : ItemS A0 n0 b0 cs x) (HA : Bs w A0 n0 b0) : ItemAt w cs x := by
  obtain ⟨r, i, h0, h1, h2, s, h4, h5, g, l0, l1, l2, t, l4, l5, e, k0, k1⟩ := h
  exact ⟨r, i, h0, h1, h2, s, h4, h5, g, l0, l1, l2, t, l4, l5, e, k0 w HA, k1.at HA⟩
theorem BxdS.at {x : Bxd} (h : BxdS A0 n0 b0 cs x) (HA : Bs w A0 n0 b0) : BxdAt w cs x := by
  obtain ⟨h0, h1, e, k0, k1⟩ := h; exact ⟨h0, h1, e, k0 w HA, k1 w HA⟩
theorem StpR.at {x : Stp} (h : StpR base A0 n0 b0 w cs x) (HA : Bs w A0 n0 b0) : StpAt w cs x := by
  obtain ⟨h0, h1, e, k0, k1⟩ := h; exact ⟨h0, h1, e, k0 w HA, k1.ats fun _ _ h => h.at HA⟩
theorem ComR.at {x : Com20} (h : ComR base A0 n0 b0 w cs x) (HA : Bs w A0 n0 b0) : ComAt w cs x := by
  obtain ⟨it, h0, h1, h2, s, h4, h5, t, e, k0, k1, k2⟩ := h
  exact ⟨it, h0, h1, h2, s, h4, h5, t, e, k0.ats fun _ _ h => h.at HA, ⟨h0, h1, h2, s, h4, h5, t, rfl, LeafC.imp k1 fun _ _ s => s w HA, k2.ats fun _ _ h => h.at HA⟩⟩
theorem StpR.mono {b : Nat} {x : Stp} (h : StpR base A0 n0 b0 w cs x) (hb : b ≤ base) : StpR b A0 n0 b0 w cs x := by
  obtain ⟨h0, h1, e, k0, k1⟩ := h; exact ⟨h0, h1, e, k0, k1.mono hb fun _ _ h => h⟩
theorem StpR.kk {S : List Nat} {x : Stp} (h : StpR base A0 n0 b0 w cs x) (hS : ∀ g ∈ S, g < base) : Kp w.heap.size S (fun w => StpR base A0 n0 b0 w cs x) w := by
  obtain ⟨h0, h1, e, k0, k1⟩ := h
  exact (k1.kk (by omega) hS fun _ _ h => ⟨Nat.le_refl _, fun _ _ => h⟩).map fun _ h => ⟨h0, h1, e, k0, h⟩
theorem ComR.mono {b : Nat} {x : Com20} (h : ComR base A0 n0 b0 w cs x) (hb : b ≤ base) : ComR b A0 n0 b0 w cs x := by
  obtain ⟨it, h0, h1, h2, s, h4, h5, t, e, k0, k1, k2⟩ := h
  exact ⟨it, h0, h1, h2, s, h4, h5, t, e, k0.mono hb fun _ _ h => h, k1, k2.mono hb fun _ _ h => h.mono hb⟩
theorem ComR.kk {S : List Nat} {x : Com20} (h : ComR base A0 n0 b0 w cs x) (hS : ∀ g ∈ S, g < base) : Kp w.heap.size S (fun w => ComR base A0 n0 b0 w cs x) w := by
  obtain ⟨it, h0, h1, h2, s, h4, h5, t, e, k0, k1, k2⟩ := h
  have a := k0.kk (by omega) hS fun _ _ h => ⟨Nat.le_refl _, fun _ _ => h⟩
  have b := k2.kk (by omega) hS fun _ _ h => h.kk hS
  exact (a.and b).map fun _ h => ⟨it, h0, h1, h2, s, h4, h5, t, e, h.1, k1, h.2⟩
theorem ComR.zero (base : Nat) (A0 : Option Addr) (n0 : Nat) (b0 : List UInt8) (w : World) : ComR base A0 n0 b0 w zComV Com20.zero := ⟨_, _, _, _, _, _, _, _, rfl, ElsF.nil _ _ _ _ _, LeafS.zero _ _ _, ElsF.nil _ _ _ _ _⟩
theorem itemX_num (y : UInt8) (ys : List UInt8) : itemX (.ok (y :: ys)) = if y.toNat = 1 then (⟨[], (propX (.ok ys)).1⟩, (propX (.ok ys)).2) else if y.toNat = 2 then (⟨(vecX (.ok ys)).1, Prop20.zero⟩, (vecX (.ok ys)).2) else (⟨[], Prop20.zero⟩, .error 3) := by
  unfold itemX; rw [num1_cons]; rfl
set_option maxHeartbeats 4000000 in
theorem plcommit_any (w : World) (HA : Bs w A0 n0 b0) (H : PlS A0 n0 b0 cs s) :
    Calls Tryz.prog 47 #[.agg cs] w fun r w' => ∃ cl cs', r = .returned (.tuple #[.agg cl, .agg cs']) ∧ ComR w.heap.size A0 n0 b0 w' cl (comX s).1 ∧ PlS A0 n0 b0 cs' (comX s).2 ∧ Ext w w' := by
  have F := Chs.refl [] w
  have KA : Kp w.heap.size [] (fun w => Bs w A0 n0 b0) w := Kp.bs HA (by simp)
  obtain ⟨A, n, c, at_, e, rfl, P⟩ := H.get
  obtain ⟨v, hv⟩ : ∃ v, v = vecX s := ⟨_, rfl⟩
  obtain ⟨l, hl⟩ : ∃ l, l = eachX itemX s := ⟨_, rfl⟩
  obtain ⟨f, hf⟩ : ∃ f, f = flagX l.2 := ⟨_, rfl⟩
  obtain ⟨lf, hlf⟩ : ∃ i, i = leafI f.2 := ⟨_, rfl⟩
  obtain ⟨u, hu⟩ : ∃ u, u = vecX lf.2 := ⟨_, rfl⟩
  obtain ⟨m, hm⟩ : ∃ m, m = eachX stpX lf.2 := ⟨_, rfl⟩
  have hX : comX s = if f.1 then (⟨l.1, true, ⟨lf.1, m.1⟩⟩, m.2) else (⟨l.1, false, Way20.zero⟩, f.2) := by rw [hm, hlf, hf, hl]; rfl
  have hvl : v.1.length < 1073741824 := by rw [hv]; exact vecX_lt _
  have hul : u.1.length < 1073741824 := by rw [hu]; exact vecX_lt _
  refine vc_entercc (s := 9) (s' := 3) 153 Tryz.func47 rfl rfl rfl Tryz.underlying40 rfl (by kernel_rfl) Tryz.underlying85 rfl (by kernel_rfl) rfl ?_
  intro Q hret
  refine wc_seq ?_; intro K1 hK1
  refine wc_region ?_
  refine wl_ef (ef_box rfl rfl) rfl ?_
  rintro _ wB1 ⟨gB1, rfl, B1, hgB1, ex⟩
  have lB1 := B1.lt; have zB1 := ex.size
  replace F := F.grow ex hgB1
  replace KA := KA.grow ex hgB1
  refine wl_ef (ef_alloc (Z := #[.slice none 0 0, .bool false, .slice none 0 0, .slice none 0 0, .slice none 0 0, .int .u8 0, .slice none 0 0, .slice none 0 0, .slice none 0 0]) (by kernel_rfl)) rfl ?_
  rintro _ wB2 ⟨gB2, rfl, B2, hgB2, ex⟩
  have lB2 := B2.lt; have zB2 := ex.size
  have nB1_2 : gB1 < gB2 := Nat.lt_of_lt_of_le B1.lt hgB2
  replace F := F.grow ex hgB2
  replace KA := KA.grow ex hgB2
  replace B1 := B1.grow ex hgB2
  refine wl_ef (ef_alloc (Z := #[.slice none 0 0, .int .i64 0, .int .i64 0]) (by kernel_rfl)) rfl ?_
  rintro _ wB3 ⟨gB3, rfl, B3, hgB3, ex⟩
  have lB3 := B3.lt; have zB3 := ex.size
  have nB1_3 : gB1 < gB3 := Nat.lt_of_lt_of_le B1.lt hgB3
  have nB2_3 : gB2 < gB3 := Nat.lt_of_lt_of_le B2.lt hgB3
  replace F := F.grow ex hgB3
  replace KA := KA.grow ex hgB3
  replace B1 := B1.grow ex hgB3
  replace B2 := B2.grow ex hgB3
  refine wl_nil ?_
  refine wq_then_norm (hK1 ?_)
  refine wc_seq ?_; intro K2 hK2
  refine wc_region ?_
  refine wl_ef (ef_alloc (Z := #[.slice none 0 0, .bool false, .slice none 0 0, .slice none 0 0, .slice none 0 0, .int .u8 0, .slice none 0 0, .slice none 0 0, .slice none 0 0]) (by kernel_rfl)) rfl ?_
  rintro _ wB4 ⟨gB4, rfl, B4, hgB4, ex⟩
  have lB4 := B4.lt; have zB4 := ex.size
  have nB1_4 : gB1 < gB4 := Nat.lt_of_lt_of_le B1.lt hgB4
  have nB2_4 : gB2 < gB4 := Nat.lt_of_lt_of_le B2.lt hgB4
  have nB3_4 : gB3 < gB4 := Nat.lt_of_lt_of_le B3.lt hgB4
  replace F := F.grow ex hgB4
  replace KA := KA.grow ex hgB4
  replace B1 := B1.grow ex hgB4
  replace B2 := B2.grow ex hgB4
  replace B3 := B3.grow ex hgB4
  refine wl_nil ?_
  refine wq_then_norm (hK2 ?_)
  refine wc_seq ?_; intro K3 hK3
  refine wc_region ?_
  refine wl_y (y_loadw rfl Tryz.underlying85 rfl (by kernel_rfl) B1) rfl ?_
  refine wl_call Tryz.func55 rfl rfl rfl (plvec_any _ KA.out P) rfl ?_
  rintro e w2 ⟨h2, cs2, rfl, Sh2, lh2, mh2, uh2, P, ex⟩
  refine ⟨_, rfl, ?_⟩
  replace F := F.ext ex
  replace KA := KA.ext ex
  replace B1 := B1.ext ex
  replace B2 := B2.ext ex
  replace B3 := B3.ext ex
  replace B4 := B4.ext ex
  rw [← hv] at P Sh2 lh2; obtain ⟨A2, n2, c2, t2, e2, rfl, P⟩ := P.get
  refine wl_y (y_move rfl) rfl ?_
  refine wl_y (y_extract rfl rfl) rfl ?_
  refine wl_y (y_extract rfl rfl) rfl ?_
  refine wl_y (y_assign rfl) rfl ?_
  refine wl_ef (ef_storeP (o := 0) rfl rfl (by kernel_rfl) B1 (Nat.le_of_ble_eq_true rfl) (all_ones rfl)) rfl ?_
  rintro _ wS2_6 ⟨rfl, D, cg⟩
  have ex := Chs.one cg
  clear cg
  replace F := F.chs ex
  replace KA := KA.chs ex
  replace B2 := B2.chs ex
  replace B3 := B3.chs ex
  replace B4 := B4.chs ex
  replace B1 := D; clear D
  replace B1 := B1.congr (cs' := placeV A2 n2 c2 t2 e2) rfl
  refine wl_nil ?_
  refine wq_then_norm (hK3 ?_)
  refine wc_seq ?_; intro K4 hK4
  refine wc_region ?_
  refine wl_y (y_move rfl) rfl ?_
  refine wl_y (y_build rfl (cells := placeV h2.A h2.n h2.c 0 0) (by kernel_rfl)) rfl ?_
  refine wl_ef (ef_alloc (Z := #[.slice none 0 0, .int .i64 0, .int .i64 0]) (by kernel_rfl)) rfl ?_
  rintro _ wB6 ⟨gB6, rfl, B6, hgB6, ex⟩
  have lB6 := B6.lt; have zB6 := ex.size
  have nB1_6 : gB1 < gB6 := Nat.lt_of_lt_of_le B1.lt hgB6
  have nB2_6 : gB2 < gB6 := Nat.lt_of_lt_of_le B2.lt hgB6
  have nB3_6 : gB3 < gB6 := Nat.lt_of_lt_of_le B3.lt hgB6
  have nB4_6 : gB4 < gB6 := Nat.lt_of_lt_of_le B4.lt hgB6
  replace F := F.grow ex hgB6
  replace KA := KA.grow ex hgB6
  replace B1 := B1.grow ex hgB6
  replace B2 := B2.grow ex hgB6
  replace B3 := B3.grow ex hgB6
  replace B4 := B4.grow ex hgB6
  refine wl_ef (ef_storeP (o := 0) rfl rfl (by kernel_rfl) B6 (Nat.le_of_ble_eq_true rfl) (all_ones rfl)) rfl ?_
  rintro _ wS3_3 ⟨rfl, D, cg⟩
  have ex := Chs.one cg
  clear cg
  replace F := F.chs ex
  replace KA := KA.chs ex
  replace B1 := B1.chs ex
  replace B2 := B2.chs ex
  replace B3 := B3.chs ex
  replace B4 := B4.chs ex
  replace B6 := D; clear D
  replace B6 := B6.congr (cs' := placeV h2.A h2.n h2.c 0 0) rfl
  refine wl_nil ?_
  refine wq_then_norm (hK4 ?_)
  refine wc_seq ?_; intro K5 hK5
  refine wc_block ?_
  have P6 : PlS A0 n0 b0 (placeV h2.A h2.n h2.c 0 0) (.ok v.1) := PlS.inner Sh2 mh2 uh2 lh2
  have q1 := B1.lt; have q2 := B2.lt; have q3 := B3.lt; have q4 := B4.lt; have q6 := B6.lt; have qF := F.size
  obtain ⟨N3, hN3⟩ : ∃ n, n = wS3_3.heap.size := ⟨_, rfl⟩
  replace B2 := B2.congr (cs' := zComV) rfl
  replace B3 := B3.congr (cs' := placeV none 0 0 0 0) rfl
  replace B4 := B4.congr (cs' := comV nilH false nilH nilH nilH 0 nilH nilH nilH) rfl
  have E0 : ElsK (fun _ cs x => ItemS A0 n0 b0 cs x) 17 95 N3 wS3_3.heap.size [gB6, gB4, gB3, gB2, gB1] wS3_3 none 0 0 [] := ElsK.empty _ _ _ _ _ _ _
  refine wc_loop (fun n' L wr => ∃ (zs : List Item20) (st : St) (hd : Hd) (pa : Option Addr) (pn pc pt pe : Nat), L = [(1, .pointer (some ⟨gB1, 0, none⟩)), (2, .pointer (some ⟨gB2, 0, none⟩)), (3, .pointer (some ⟨gB3, 0, none⟩)), (4, .pointer (some ⟨gB4, 0, none⟩)), (6, .pointer (some ⟨gB6, 0, none⟩))] ∧ n' = slen st ∧ (Chs [gB6, gB4, gB3, gB2, gB1] w wr ∧ Kp w.heap.size [gB6, gB4, gB3, gB2, gB1] (fun w => Bs w A0 n0 b0) wr ∧ Blk wr gB1 85 (placeV A2 n2 c2 t2 e2) ∧ Blk wr gB2 40 zComV ∧ Blk wr gB3 85 (placeV none 0 0 0 0) ∧ Blk wr gB4 40 (comV hd false nilH nilH nilH 0 nilH nilH nilH) ∧ Blk wr gB6 85 (placeV pa pn pc pt pe) ∧ PlS A0 n0 b0 (placeV pa pn pc pt pe) st ∧ ElsK (fun _ cs x => ItemS A0 n0 b0 cs x) 17 95 N3 wr.heap.size [gB6, gB4, gB3, gB2, gB1] wr hd.A hd.n hd.c zs ∧ N3 ≤ wr.heap.size ∧ zs.length + slen st ≤ v.1.length ∧ EachP itemX ((eachN itemX v.1.length v.1).1, thenX [] (eachN itemX v.1.length v.1).2) zs st)) _ _ ⟨[], .ok v.1, nilH, h2.A, h2.n, h2.c, 0, 0, rfl, rfl, F, KA, B1, B2, B3, B4, B6, P6, E0, (by omega), (by show 0 + v.1.length ≤ _; omega), EachP.start _ _⟩ ⟨rfl, rfl, rfl, rfl, rfl, trivial⟩ ?_
  rintro KL1 n' L wr ⟨zs, st, hd, pa, pn, pc, pt, pe, rfl, rfl, F, KA, B1, B2, B3, B4, B6, Q, EK, hNr, hct, hP⟩ hL1
  have G := Chs.refl [gB6] wr
  have hown := EK.own
  have hlen := EK.len
  have qr := F.size
  refine wc_seq ?_; intro K6 hK6
  refine wc_seq ?_; intro K7 hK7
  refine wc_region ?_
  refine wl_y (y_loadw rfl Tryz.underlying85 rfl (by kernel_rfl) B6) rfl ?_
  refine wl_call Tryz.func100 rfl rfl rfl (plmore_any _ Q) rfl ?_
  rintro e w4 ⟨rfl, ex⟩
  refine ⟨_, rfl, ?_⟩
  replace F := F.ext ex
  replace KA := KA.ext ex
  replace B1 := B1.ext ex
  replace B2 := B2.ext ex
  replace B3 := B3.ext ex
  replace B4 := B4.ext ex
  replace B6 := B6.ext ex
  replace G := G.ext ex
  skip
  refine wl_nil ?_
  refine wq_then_norm (hK7 ?_)
  refine wc_cond rfl (fun hc1 => ?_) (fun hc1 => ?_)
  · skip
    refine wc_skip ?_
    refine wq_then_norm (hK6 ?_)
    refine wc_block ?_
    refine wc_seq ?_; intro K8 hK8
    obtain ⟨y, ys, rfl⟩ := more_yes hc1
    obtain ⟨hP2, hmm⟩ := hP.step item_dec
    rw [itemX_num] at hP2 hmm
    have hct' : zs.length + (y :: ys).length ≤ v.1.length := hct
    obtain ⟨k, hk⟩ : ∃ k, k = y.toNat := ⟨_, rfl⟩
    have hk8 : k < 256 := by rw [hk]; exact UInt8.toNat_lt y
    have ek1 : (numX 1 (.ok (y :: ys))).1 = k := by rw [num1_cons, hk]
    have ek2 : (numX 1 (.ok (y :: ys))).2 = .ok ys := by rw [num1_cons]
    rw [← hk] at hP2 hmm
    obtain ⟨X, hXX⟩ : ∃ X, X = (if k = 1 then ((⟨[], (propX (.ok ys)).1⟩, (propX (.ok ys)).2) : Item20 × St) else if k = 2 then (⟨(vecX (.ok ys)).1, Prop20.zero⟩, (vecX (.ok ys)).2) else (⟨[], Prop20.zero⟩, .error 3)) := ⟨_, rfl⟩
    rw [← hXX] at hP2 hmm
    refine wc_region ?_
    refine wl_y (y_loadw rfl Tryz.underlying85 rfl (by kernel_rfl) B6) rfl ?_
    refine wl_call Tryz.func56 rfl rfl rfl (plnum_any 1 1 rfl _ KA.out Q (by omega)) rfl ?_
    rintro e w5 ⟨cs5, rfl, P, ex⟩
    refine ⟨_, rfl, ?_⟩
    replace F := F.ext ex
    replace KA := KA.ext ex
    replace B1 := B1.ext ex
    replace B2 := B2.ext ex
    replace B3 := B3.ext ex
    replace B4 := B4.ext ex
    replace B6 := B6.ext ex
    replace G := G.ext ex
    rw [ek1]; rw [ek2] at P; obtain ⟨A5, n5, c5, t5, e5, rfl, P⟩ := P.get; obtain rfl : e5 = 0 := (P.err.elim (fun h => h.1) (fun h => by have := h.2.2; cases this)); have z5 := G.size
    refine wl_y (y_move rfl) rfl ?_
    refine wl_y (y_extract rfl rfl) rfl ?_
    refine wl_y (y_extract rfl rfl) rfl ?_
    refine wl_ef (ef_alloc (Z := #[.slice none 0 0, .int .i64 0, .int .i64 0]) (by kernel_rfl)) rfl ?_
    rintro _ wB8 ⟨gB8, rfl, B8, hgB8, ex⟩
    have lB8 := B8.lt; have zB8 := ex.size
    have nB1_8 : gB1 < gB8 := Nat.lt_of_lt_of_le B1.lt hgB8
    have nB2_8 : gB2 < gB8 := Nat.lt_of_lt_of_le B2.lt hgB8
    have nB3_8 : gB3 < gB8 := Nat.lt_of_lt_of_le B3.lt hgB8
    have nB4_8 : gB4 < gB8 := Nat.lt_of_lt_of_le B4.lt hgB8
    have nB6_8 : gB6 < gB8 := Nat.lt_of_lt_of_le B6.lt hgB8
    replace F := F.grow ex hgB8
    replace KA := KA.grow ex hgB8
    replace B1 := B1.grow ex hgB8
    replace B2 := B2.grow ex hgB8
    replace B3 := B3.grow ex hgB8
    replace B4 := B4.grow ex hgB8
    replace B6 := B6.grow ex hgB8
    replace G := G.grow ex hgB8
    refine wl_y (y_assign rfl) rfl ?_
    refine wl_ef (ef_storeP (o := 0) rfl rfl (by kernel_rfl) B8 (Nat.le_of_ble_eq_true rfl) (all_ones rfl)) rfl ?_
    rintro _ wS5_7 ⟨rfl, D, cg⟩
    have ex := Chs.one cg
    clear cg
    replace F := F.chs ex
    replace KA := KA.chs ex
    replace B1 := B1.chs ex
    replace B2 := B2.chs ex
    replace B3 := B3.chs ex
    replace B4 := B4.chs ex
    replace B6 := B6.chs ex
    replace G := G.chs ex
    replace B8 := D; clear D
    replace B8 := B8.congr (cs' := placeV A5 n5 c5 t5 0) rfl
    refine wl_nil ?_
    refine wq_then_norm (hK8 ?_)
    refine wc_seq ?_; intro K9 hK9
    refine wc_region ?_
    refine wl_ef (ef_alloc (Z := #[.slice none 0 0, .int .u8 0, .slice none 0 0, .slice none 0 0, .slice none 0 0, .slice none 0 0, .int .u8 0, .slice none 0 0, .slice none 0 0, .slice none 0 0, .slice none 0 0, .slice none 0 0, .slice none 0 0, .int .u8 0, .slice none 0 0, .slice none 0 0, .int .i64 0]) (by kernel_rfl)) rfl ?_
    rintro _ wB9 ⟨gB9, rfl, B9, hgB9, ex⟩
    have lB9 := B9.lt; have zB9 := ex.size
    have nB1_9 : gB1 < gB9 := Nat.lt_of_lt_of_le B1.lt hgB9
    have nB2_9 : gB2 < gB9 := Nat.lt_of_lt_of_le B2.lt hgB9
    have nB3_9 : gB3 < gB9 := Nat.lt_of_lt_of_le B3.lt hgB9
    have nB4_9 : gB4 < gB9 := Nat.lt_of_lt_of_le B4.lt hgB9
    have nB6_9 : gB6 < gB9 := Nat.lt_of_lt_of_le B6.lt hgB9
    have nB8_9 : gB8 < gB9 := Nat.lt_of_lt_of_le B8.lt hgB9
    replace F := F.grow ex hgB9
    replace KA := KA.grow ex hgB9
    replace B1 := B1.grow ex hgB9
    replace B2 := B2.grow ex hgB9
    replace B3 := B3.grow ex hgB9
    replace B4 := B4.grow ex hgB9
    replace B6 := B6.grow ex hgB9
    replace G := G.grow ex hgB9
    replace B8 := B8.grow ex hgB9
    refine wl_nil ?_
    refine wq_then_norm (hK9 ?_)
    refine wc_seq ?_; intro K10 hK10
    refine wc_seq ?_; intro K11 hK11
    replace B9 := B9.congr (cs' := itmV nilH 0 nilH nilH nilH nilH 0 nilH nilH nilH nilH nilH nilH 0 nilH nilH 0) rfl
    refine wc_region ?_
    refine wl_y (y_fieldAddr (o := 2) (s := 1) (off := 0) (o' := 2) rfl Tryz.underlying85 rfl (by kernel_rfl) rfl rfl) rfl ?_
    refine wl_y (y_load1 rfl Tryz.underlying3 rfl (B8.get (i := 2) rfl)) rfl ?_
    refine wl_y (Y.as (y_eql rfl rfl) (congrArg Value.bool (decide_eq_true (by omega)))) rfl ?_
    refine wl_y (y_move rfl) rfl ?_
    refine wl_gy 31 rfl rfl (y_move rfl) rfl ?_
    refine wl_gy 31 rfl rfl (y_eql rfl rfl) rfl ?_
    refine wl_y (y_pickt rfl rfl) rfl ?_
    refine wl_nil ?_
    refine wq_then_norm (hK11 ?_)
    refine wc_join (fun L wj2 => ∃ (ci : Array Value) (pa1 : Option Addr) (pn1 pc1 pt1 pe1 : Nat), L = [(1, .pointer (some ⟨gB1, 0, none⟩)), (2, .pointer (some ⟨gB2, 0, none⟩)), (3, .pointer (some ⟨gB3, 0, none⟩)), (4, .pointer (some ⟨gB4, 0, none⟩)), (6, .pointer (some ⟨gB6, 0, none⟩)), (8, .pointer (some ⟨gB8, 0, none⟩)), (9, .pointer (some ⟨gB9, 0, none⟩))] ∧ (Chs [gB9, gB8, gB6, gB4, gB3, gB2, gB1] w wj2 ∧ Kp w.heap.size [gB9, gB8, gB6, gB4, gB3, gB2, gB1] (fun w => Bs w A0 n0 b0) wj2 ∧ Blk wj2 gB1 85 (placeV A2 n2 c2 t2 e2) ∧ Blk wj2 gB2 40 zComV ∧ Blk wj2 gB3 85 (placeV none 0 0 0 0) ∧ Blk wj2 gB4 40 (comV hd false nilH nilH nilH 0 nilH nilH nilH) ∧ Blk wj2 gB6 85 (placeV pa pn pc pt pe) ∧ Blk wj2 gB8 85 (placeV pa1 pn1 pc1 pt1 pe1) ∧ Blk wj2 gB9 95 ci ∧ Chs [gB9, gB8, gB6] wr wj2 ∧ PlS A0 n0 b0 (placeV pa1 pn1 pc1 pt1 pe1) X.2 ∧ ItemS A0 n0 b0 ci X.1)) ?_ ?_
    · skip
      refine wc_dec rfl (fun hc2 => ?_) (fun hc2 => ?_)
      · skip
        refine wc_region ?_
        refine wl_y (y_loadw rfl Tryz.underlying85 rfl (by kernel_rfl) B8) rfl ?_
        refine wl_call Tryz.func45 rfl rfl rfl (plprop_any _ KA.out P) rfl ?_
        rintro e w8 ⟨cl, cs8, rfl, HL, P, ex⟩
        refine ⟨_, rfl, ?_⟩
        replace F := F.ext ex
        replace KA := KA.ext ex
        replace B1 := B1.ext ex
        replace B2 := B2.ext ex
        replace B3 := B3.ext ex
        replace B4 := B4.ext ex
        replace B6 := B6.ext ex
        replace G := G.ext ex
        replace B8 := B8.ext ex
        replace B9 := B9.ext ex
        have HP := HL; obtain ⟨i, i0, i1, i2, i4, i5, ig, l0, l1, l2, l4, l5, rfl, _⟩ := HL; obtain ⟨A8, n8, c8, t8, e8, rfl, P⟩ := P.get
        refine wl_y (y_move rfl) rfl ?_
        refine wl_y (y_extract rfl rfl) rfl ?_
        refine wl_y (y_extract rfl rfl) rfl ?_
        refine wl_y (y_fieldAddr (o := 1) (s := 16) (off := 0) (o' := 1) rfl Tryz.underlying95 rfl (by kernel_rfl) rfl rfl) rfl ?_
        refine wl_ef (ef_storeP (o := 1) rfl rfl (by kernel_rfl) B9 (Nat.le_of_ble_eq_true rfl) (all_ones rfl)) rfl ?_
        rintro _ wS8_6 ⟨rfl, D, cg⟩
        have ex := Chs.one cg
        clear cg
        replace F := F.chs ex
        replace KA := KA.chs ex
        replace B1 := B1.chs ex
        replace B2 := B2.chs ex
        replace B3 := B3.chs ex
        replace B4 := B4.chs ex
        replace B6 := B6.chs ex
        replace G := G.chs ex
        replace B8 := B8.chs ex
        replace B9 := D; clear D
        replace B9 := B9.congr (cs' := itmV nilH (propX (.ok ys)).1.kind i i0 i1 i2 (propX (.ok ys)).1.pack.leaf.src i4 i5 ig l0 l1 l2 (propX (.ok ys)).1.leaf.src l4 l5 (propX (.ok ys)).1.at_) rfl
        refine wl_ef (ef_storeP (o := 0) rfl rfl (by kernel_rfl) B8 (Nat.le_of_ble_eq_true rfl) (all_ones rfl)) rfl ?_
        rintro _ wS8_7 ⟨rfl, D, cg⟩
        have ex := Chs.one cg
        clear cg
        replace F := F.chs ex
        replace KA := KA.chs ex
        replace B1 := B1.chs ex
        replace B2 := B2.chs ex
        replace B3 := B3.chs ex
        replace B4 := B4.chs ex
        replace B6 := B6.chs ex
        replace G := G.chs ex
        replace B9 := B9.chs ex
        replace B8 := D; clear D
        replace B8 := B8.congr (cs' := placeV A8 n8 c8 t8 e8) rfl
        refine wl_nil ?_
        have eX : X = (⟨[], (propX (.ok ys)).1⟩, (propX (.ok ys)).2) := by rw [hXX, if_pos (by omega)]
        have PX : PlS A0 n0 b0 (placeV A8 n8 c8 t8 e8) X.2 := by rw [eX]; exact P
        have IX : ItemS A0 n0 b0 (itmV nilH (propX (.ok ys)).1.kind i i0 i1 i2 (propX (.ok ys)).1.pack.leaf.src i4 i5 ig l0 l1 l2 (propX (.ok ys)).1.leaf.src l4 l5 (propX (.ok ys)).1.at_) X.1 := by rw [eX]; exact ⟨_, _, _, _, _, _, _, _, _, _, _, _, _, _, _, rfl, Sub.nil _ _ _, HP⟩
        exact wq_join _ ⟨_, A8, n8, c8, t8, e8, rfl, F, KA, B1, B2, B3, B4, B6, B8, B9, G, PX, IX⟩ ⟨rfl, rfl, rfl, rfl, rfl, rfl, rfl, trivial⟩
      · skip
        refine wc_seq ?_; intro K12 hK12
        refine wc_region ?_
        refine wl_y (y_fieldAddr (o := 2) (s := 1) (off := 0) (o' := 2) rfl Tryz.underlying85 rfl (by kernel_rfl) rfl rfl) rfl ?_
        refine wl_y (y_load1 rfl Tryz.underlying3 rfl (B8.get (i := 2) rfl)) rfl ?_
        refine wl_y (Y.as (y_eql rfl rfl) (congrArg Value.bool (decide_eq_true (by omega)))) rfl ?_
        refine wl_y (y_move rfl) rfl ?_
        refine wl_gy 44 rfl rfl (y_move rfl) rfl ?_
        refine wl_gy 44 rfl rfl (y_eql rfl rfl) rfl ?_
        refine wl_y (y_pickt rfl rfl) rfl ?_
        refine wl_nil ?_
        refine wq_then_norm (hK12 ?_)
        refine wc_dec rfl (fun hc3 => ?_) (fun hc3 => ?_)
        · skip
          refine wc_region ?_
          refine wl_y (y_loadw rfl Tryz.underlying85 rfl (by kernel_rfl) B8) rfl ?_
          refine wl_call Tryz.func55 rfl rfl rfl (plvec_any _ KA.out P) rfl ?_
          rintro e w10 ⟨h10, cs10, rfl, Sh10, lh10, mh10, uh10, P, ex⟩
          refine ⟨_, rfl, ?_⟩
          replace F := F.ext ex
          replace KA := KA.ext ex
          replace B1 := B1.ext ex
          replace B2 := B2.ext ex
          replace B3 := B3.ext ex
          replace B4 := B4.ext ex
          replace B6 := B6.ext ex
          replace G := G.ext ex
          replace B8 := B8.ext ex
          replace B9 := B9.ext ex
          obtain ⟨A8, n8, c8, t8, e8, rfl, P⟩ := P.get
          refine wl_y (y_move rfl) rfl ?_
          refine wl_y (y_extract rfl rfl) rfl ?_
          refine wl_y (y_extract rfl rfl) rfl ?_
          refine wl_y (y_fieldAddr (o := 0) (s := 1) (off := 0) (o' := 0) rfl Tryz.underlying95 rfl (by kernel_rfl) rfl rfl) rfl ?_
          refine wl_ef (ef_storeB (i := 0) rfl rfl rfl (by kernel_rfl) B9 (Nat.le_of_ble_eq_true rfl)) rfl ?_
          rintro _ wS10_6 ⟨rfl, D, cg⟩
          have ex := Chs.one cg
          clear cg
          replace F := F.chs ex
          replace KA := KA.chs ex
          replace B1 := B1.chs ex
          replace B2 := B2.chs ex
          replace B3 := B3.chs ex
          replace B4 := B4.chs ex
          replace B6 := B6.chs ex
          replace G := G.chs ex
          replace B8 := B8.chs ex
          replace B9 := D; clear D
          replace B9 := B9.congr (cs' := itmV h10 0 nilH nilH nilH nilH 0 nilH nilH nilH nilH nilH nilH 0 nilH nilH 0) rfl
          refine wl_ef (ef_storeP (o := 0) rfl rfl (by kernel_rfl) B8 (Nat.le_of_ble_eq_true rfl) (all_ones rfl)) rfl ?_
          rintro _ wS10_7 ⟨rfl, D, cg⟩
          have ex := Chs.one cg
          clear cg
          replace F := F.chs ex
          replace KA := KA.chs ex
          replace B1 := B1.chs ex
          replace B2 := B2.chs ex
          replace B3 := B3.chs ex
          replace B4 := B4.chs ex
          replace B6 := B6.chs ex
          replace G := G.chs ex
          replace B9 := B9.chs ex
          replace B8 := D; clear D
          replace B8 := B8.congr (cs' := placeV A8 n8 c8 t8 e8) rfl
          refine wl_nil ?_
          have eX : X = (⟨(vecX (.ok ys)).1, Prop20.zero⟩, (vecX (.ok ys)).2) := by rw [hXX, if_neg (by omega), if_pos (by omega)]
          have PX : PlS A0 n0 b0 (placeV A8 n8 c8 t8 e8) X.2 := by rw [eX]; exact P
          have IX : ItemS A0 n0 b0 (itmV h10 0 nilH nilH nilH nilH 0 nilH nilH nilH nilH nilH nilH 0 nilH nilH 0) X.1 := by rw [eX]; exact ⟨_, _, _, _, _, _, _, _, _, _, _, _, _, _, _, rfl, Sh10, PropS.zero⟩
          exact wq_join _ ⟨_, A8, n8, c8, t8, e8, rfl, F, KA, B1, B2, B3, B4, B6, B8, B9, G, PX, IX⟩ ⟨rfl, rfl, rfl, rfl, rfl, rfl, rfl, trivial⟩
        · skip
          refine wc_seq ?_; intro K13 hK13
          refine wc_region ?_
          refine wl_y (y_fieldAddr (o := 2) (s := 1) (off := 0) (o' := 2) rfl Tryz.underlying85 rfl (by kernel_rfl) rfl rfl) rfl ?_
          refine wl_y (y_load1 rfl Tryz.underlying3 rfl (B8.get (i := 2) rfl)) rfl ?_
          refine wl_y (Y.as (y_eql rfl rfl) (congrArg Value.bool (decide_eq_true (by omega)))) rfl ?_
          refine wl_nil ?_
          refine wq_then_norm (hK13 ?_)
          refine wc_true rfl rfl ?_
          refine wc_region ?_
          refine wl_y (y_fieldAddr (o := 2) (s := 1) (off := 0) (o' := 2) rfl Tryz.underlying85 rfl (by kernel_rfl) rfl rfl) rfl ?_
          refine wl_ef (ef_storeB (i := 2) rfl rfl rfl (by kernel_rfl) B8 (Nat.le_of_ble_eq_true rfl)) rfl ?_
          rintro _ wS12_1 ⟨rfl, D, cg⟩
          have ex := Chs.one cg
          clear cg
          replace F := F.chs ex
          replace KA := KA.chs ex
          replace B1 := B1.chs ex
          replace B2 := B2.chs ex
          replace B3 := B3.chs ex
          replace B4 := B4.chs ex
          replace B6 := B6.chs ex
          replace G := G.chs ex
          replace B9 := B9.chs ex
          replace B8 := D; clear D
          replace B8 := B8.congr (placeV_set (e' := 3) rfl)
          refine wl_nil ?_
          have eX : X = (⟨[], Prop20.zero⟩, .error 3) := by rw [hXX, if_neg (by omega), if_neg (by omega)]
          have PX : PlS A0 n0 b0 (placeV A5 n5 c5 t5 3) X.2 := by rw [eX]; exact P.seterr (by omega) (by omega)
          have IX : ItemS A0 n0 b0 (itmV nilH 0 nilH nilH nilH nilH 0 nilH nilH nilH nilH nilH nilH 0 nilH nilH 0) X.1 := by rw [eX]; exact ⟨_, _, _, _, _, _, _, _, _, _, _, _, _, _, _, rfl, Sub.nil _ _ _, PropS.zero⟩
          exact wq_join _ ⟨_, A5, n5, c5, t5, 3, rfl, F, KA, B1, B2, B3, B4, B6, B8, B9, G, PX, IX⟩ ⟨rfl, rfl, rfl, rfl, rfl, rfl, rfl, trivial⟩
    rintro L wj2 ⟨ci, pa1, pn1, pc1, pt1, pe1, rfl, F, KA, B1, B2, B3, B4, B6, B8, B9, G, P, IX⟩
    obtain ⟨ir, ii, i0, i1, i2, is, i4, i5, ig, l0, l1, l2, lt, l4, l5, rfl, IX1, IX2⟩ := IX
    have hg8 : wr.heap.size ≤ gB8 := by omega
    have hg9 : wr.heap.size ≤ gB9 := by omega
    refine wq_then_norm (hK10 ?_)
    refine wc_seq ?_; intro K14 hK14
    refine wc_region ?_
    refine wl_y (y_fieldAddr (o := 0) (s := 1) (off := 0) (o' := 0) rfl Tryz.underlying40 rfl (by kernel_rfl) rfl rfl) rfl ?_
    refine wl_y (y_load1 rfl Tryz.underlying35 rfl (B4.get (i := 0) rfl)) rfl ?_
    refine wl_y (y_loadw rfl Tryz.underlying95 rfl (by kernel_rfl) B9) rfl ?_
    refine wl_ef (ef_litS (cells := itmV ir X.1.prop.kind ii i0 i1 i2 is i4 i5 ig l0 l1 l2 lt l4 l5 X.1.prop.at_) Tryz.underlying35 rfl (by kernel_rfl)) rfl ?_
    rintro _ w14 ⟨g53, rfl, B53, hg53, ex⟩
    replace F := F.ext ex
    replace KA := KA.ext ex
    replace B1 := B1.ext ex
    replace B2 := B2.ext ex
    replace B3 := B3.ext ex
    replace B4 := B4.ext ex
    replace B6 := B6.ext ex
    replace B8 := B8.ext ex
    replace B9 := B9.ext ex
    replace G := G.ext ex
    skip
    have z3 := G.size
    have EK2 := (EK.chs ((G.drop (by omega)).drop (by omega)) (by simp) (by simp; omega)).bump z3 (Nat.le_refl _)
    obtain ⟨hl', vals, hr, hkk⟩ := EK2
    refine wl_ef (ef_appW (A := hd.A) (n := hd.n) (c := hd.c) rfl rfl eltItm hr B53 rfl (all_ones rfl) (by rw [List.length_cons] at hct'; omega) (by rw [List.length_cons] at hct'; omega) (by omega)) rfl ?_
    rintro _ w15 ⟨A15, c15, rfl, R4, gr4, hgl⟩
    have L4 : Lat N3 [] w14 w15 := lat_own gr4 (by omega) fun k hk => (hown k hk).1
    have HE : ElsK (fun _ cs x => ItemS A0 n0 b0 cs x) 17 95 N3 w14.heap.size [gB6, gB4, gB3, gB2, gB1] w15 A15 (hd.n + 1) c15 (zs ++ [X.1]) := ElsK.app hl' hr hkk ⟨Nat.le_refl _, fun _ _ => ⟨_, _, _, _, _, _, _, _, _, _, _, _, _, _, _, rfl, IX1, IX2⟩⟩ rfl R4 gr4 hgl
    have B1 : Blk w15 gB1 85 (placeV A2 n2 c2 t2 e2) := (L4.block gB1 (by omega) (by simp)).trans B1
    have B2 : Blk w15 gB2 40 zComV := (L4.block gB2 (by omega) (by simp)).trans B2
    have B3 : Blk w15 gB3 85 (placeV none 0 0 0 0) := (L4.block gB3 (by omega) (by simp)).trans B3
    have B4 : Blk w15 gB4 40 (comV hd false nilH nilH nilH 0 nilH nilH nilH) := (L4.block gB4 (by omega) (by simp)).trans B4
    have B6 : Blk w15 gB6 85 (placeV pa pn pc pt pe) := (L4.block gB6 (by omega) (by simp)).trans B6
    have B8 : Blk w15 gB8 85 (placeV pa1 pn1 pc1 pt1 pe1) := ((Chs.own' gr4).block gB8 (by have := B8.lt; omega) (fun h => by have := hown gB8 h; omega)).trans B8
    replace KA := KA.lat L4 (by omega) (by simp)
    replace F := F.lats L4 (by omega) (by simp)
    have z15 := L4.size 
    refine wl_y (y_fieldAddr (o := 0) (s := 1) (off := 0) (o' := 0) rfl Tryz.underlying40 rfl (by kernel_rfl) rfl rfl) rfl ?_
    refine wl_ef (ef_storeB (i := 0) rfl rfl rfl (by kernel_rfl) B4 (Nat.le_of_ble_eq_true rfl)) rfl ?_
    rintro _ wS13_6 ⟨rfl, D, cg⟩
    have ex := Chs.one cg
    clear cg
    replace F := F.chs ex
    replace KA := KA.chs ex
    replace B1 := B1.chs ex
    replace B2 := B2.chs ex
    replace B3 := B3.chs ex
    replace B6 := B6.chs ex
    replace B8 := B8.chs ex
    replace HE := HE.chs ex
    replace B4 := D; clear D
    replace B4 := B4.congr (cs' := comV ⟨A15, hd.n + 1, c15⟩ false nilH nilH nilH 0 nilH nilH nilH) rfl; have z16 := ex.size
    refine wl_nil ?_
    refine wq_then_norm (hK14 ?_)
    refine wc_region ?_
    refine wl_y (y_loadw rfl Tryz.underlying85 rfl (by kernel_rfl) B8) rfl ?_
    refine wl_ef (ef_storeP (o := 0) rfl rfl (by kernel_rfl) B6 (Nat.le_of_ble_eq_true rfl) (all_ones rfl)) rfl ?_
    rintro _ wS14_1 ⟨rfl, D, cg⟩
    have ex := Chs.one cg
    clear cg
    replace F := F.chs ex
    replace KA := KA.chs ex
    replace B1 := B1.chs ex
    replace B2 := B2.chs ex
    replace B3 := B3.chs ex
    replace B4 := B4.chs ex
    replace B8 := B8.chs ex
    replace HE := HE.chs ex
    replace B6 := D; clear D
    replace B6 := B6.congr (cs' := placeV pa1 pn1 pc1 pt1 pe1) rfl
    refine wl_nil ?_
    refine wq_blk_norm ?_
    refine wq_then_norm ?_
    refine hL1 _ _ ⟨zs ++ [X.1], X.2, ⟨A15, hd.n + 1, c15⟩, pa1, pn1, pc1, pt1, pe1, rfl, rfl, (F.drop (by omega)).drop (by omega), KA.mono (fun k hk => List.mem_cons_of_mem _ (List.mem_cons_of_mem _ hk)), B1, B2, B3, B4, B6, P, HE.bump (by have := ex.size; omega) (Nat.le_refl _), (by have := ex.size; omega), (by rw [List.length_append, List.length_singleton]; omega), hP2⟩ (by omega) ⟨rfl, rfl, rfl, rfl, rfl, trivial⟩
  · skip
    refine wc_exit ?_
    refine wq_then_exit ?_
    refine wq_then_exit ?_
    refine wq_blk_hit ?_
    refine wq_then_norm (hK5 ?_)
    refine wc_seq ?_; intro K15 hK15
    refine wc_seq ?_; intro K16 hK16
    obtain ⟨hz1, hz2⟩ := hP.out (by simpa using hc1)
    rw [hv] at hz1 hz2
    have hex := each_exit hz1 hz2
    rw [← hv, ← hl] at hex
    have hErr := P.err
    have EKF := (EK.chs G (by simp) (by simp; omega)).els
    obtain ⟨N5, KE, hN5⟩ : ∃ N5, Kp N5 [gB6, gB4, gB3, gB2, gB1] (fun w => ElsF N3 (fun _ cs x => ItemS A0 n0 b0 cs x) 17 w hd.A hd.n zs) _ ∧ w.heap.size ≤ N5 := ⟨_, EKF.kk (by omega) (by simp; omega) (fun _ _ h => ⟨Nat.le_refl _, fun _ _ => h⟩), by have := G.size; omega⟩
    refine wc_region ?_
    refine wl_y (y_fieldAddr (o := 2) (s := 1) (off := 0) (o' := 2) rfl Tryz.underlying85 rfl (by kernel_rfl) rfl rfl) rfl ?_
    refine wl_y (y_load1 rfl Tryz.underlying3 rfl (B1.get (i := 2) rfl)) rfl ?_
    refine wl_y (y_eql rfl rfl) rfl ?_
    refine wl_nil ?_
    refine wq_then_norm (hK16 ?_)
    refine wc_join (fun L wj5 => ∃ (ze : Nat), L = [(1, .pointer (some ⟨gB1, 0, none⟩)), (2, .pointer (some ⟨gB2, 0, none⟩)), (3, .pointer (some ⟨gB3, 0, none⟩)), (4, .pointer (some ⟨gB4, 0, none⟩)), (6, .pointer (some ⟨gB6, 0, none⟩))] ∧ (Chs [gB6, gB4, gB3, gB2, gB1] w wj5 ∧ Kp w.heap.size [gB6, gB4, gB3, gB2, gB1] (fun w => Bs w A0 n0 b0) wj5 ∧ Kp N5 [gB6, gB4, gB3, gB2, gB1] (fun w => ElsF N3 (fun _ cs x => ItemS A0 n0 b0 cs x) 17 w hd.A hd.n zs) wj5 ∧ Blk wj5 gB1 85 (placeV A2 n2 c2 t2 ze) ∧ Blk wj5 gB2 40 zComV ∧ Blk wj5 gB3 85 (placeV none 0 0 0 0) ∧ Blk wj5 gB4 40 (comV hd false nilH nilH nilH 0 nilH nilH nilH) ∧ Blk wj5 gB6 85 (placeV pa pn pc pt pe) ∧ PlS A0 n0 b0 (placeV A2 n2 c2 t2 ze) l.2)) ?_ ?_
    · skip
      refine wc_dec rfl (fun hc5 => ?_) (fun hc5 => ?_)
      · skip
        refine wc_region ?_
        refine wl_y (y_fieldAddr (o := 2) (s := 1) (off := 0) (o' := 2) rfl Tryz.underlying85 rfl (by kernel_rfl) rfl rfl) rfl ?_
        refine wl_y (y_load1 rfl Tryz.underlying3 rfl (B6.get (i := 2) rfl)) rfl ?_
        refine wl_y (y_fieldAddr (o := 2) (s := 1) (off := 0) (o' := 2) rfl Tryz.underlying85 rfl (by kernel_rfl) rfl rfl) rfl ?_
        refine wl_ef (ef_storeB (i := 2) rfl rfl rfl (by kernel_rfl) B1 (Nat.le_of_ble_eq_true rfl)) rfl ?_
        rintro _ wS16_3 ⟨rfl, D, cg⟩
        have ex := Chs.one cg
        clear cg
        replace F := F.chs ex
        replace KA := KA.chs ex
        replace B2 := B2.chs ex
        replace B3 := B3.chs ex
        replace B4 := B4.chs ex
        replace B6 := B6.chs ex
        replace KE := KE.chs ex
        replace B1 := D; clear D
        replace B1 := B1.congr (placeV_set (e' := pe) rfl)
        refine wl_nil ?_
        obtain ⟨he0, r, hr⟩ : e2 = 0 ∧ ∃ r, v.2 = .ok r := hErr.elim id (fun h => by omega)
        obtain ⟨r', h1, h2⟩ : ∃ r, v.2 = .ok r ∧ l = (zs, thenX r st) := hex.elim id (fun ⟨c, h, _⟩ => by rw [hr] at h; cases h)
        rw [h1, he0] at P
        have PX : PlS A0 n0 b0 (placeV A2 n2 c2 t2 pe) l.2 := by rw [h2]; exact P.note Q
        exact wq_join _ ⟨pe, rfl, F, KA, KE, B1, B2, B3, B4, B6, PX⟩ ⟨rfl, rfl, rfl, rfl, rfl, trivial⟩
      · skip
        refine wc_skip ?_
        obtain ⟨he0, _, hr⟩ : e2 ≠ 0 ∧ e2 < 256 ∧ v.2 = .error e2 := hErr.elim (fun h => by omega) id
        obtain ⟨c', h1, _, h2⟩ : ∃ c, v.2 = .error c ∧ zs = [] ∧ l = (zs, .error c) := hex.elim (fun ⟨r, h, _⟩ => by rw [hr] at h; cases h) id
        have PX : PlS A0 n0 b0 (placeV A2 n2 c2 t2 e2) l.2 := by rw [h2, ← h1]; exact P
        exact wq_join _ ⟨e2, rfl, F, KA, KE, B1, B2, B3, B4, B6, PX⟩ ⟨rfl, rfl, rfl, rfl, rfl, trivial⟩
    rintro L wj5 ⟨ze, rfl, F, KA, KE, B1, B2, B3, B4, B6, P⟩
    have hl1 : l.1 = zs := hex.elim (fun ⟨_, _, h⟩ => by rw [h]) (fun ⟨_, _, _, h⟩ => by rw [h])
    refine wq_then_norm (hK15 ?_)
    refine wc_seq ?_; intro K17 hK17
    refine wc_region ?_
    refine wl_y (y_loadw rfl Tryz.underlying85 rfl (by kernel_rfl) B1) rfl ?_
    refine wl_call Tryz.func101 rfl rfl rfl (plflag_any _ KA.out P) rfl ?_
    rintro e w17 ⟨cs17, rfl, P, ex⟩
    refine ⟨_, rfl, ?_⟩
    replace F := F.ext ex
    replace KA := KA.ext ex
    replace KE := KE.ext ex
    replace B1 := B1.ext ex
    replace B2 := B2.ext ex
    replace B3 := B3.ext ex
    replace B4 := B4.ext ex
    replace B6 := B6.ext ex
    rw [← hf] at P ⊢; obtain ⟨A7, n7, c7, t7, e7, rfl, P⟩ := P.get
    refine wl_y (y_move rfl) rfl ?_
    refine wl_y (y_extract rfl rfl) rfl ?_
    refine wl_y (y_extract rfl rfl) rfl ?_
    refine wl_y (y_fieldAddr (o := 1) (s := 1) (off := 0) (o' := 1) rfl Tryz.underlying40 rfl (by kernel_rfl) rfl rfl) rfl ?_
    refine wl_ef (ef_storeB (i := 1) rfl rfl rfl (by kernel_rfl) B4 (Nat.le_of_ble_eq_true rfl)) rfl ?_
    rintro _ wS17_6 ⟨rfl, D, cg⟩
    have ex := Chs.one cg
    clear cg
    replace F := F.chs ex
    replace KA := KA.chs ex
    replace KE := KE.chs ex
    replace B1 := B1.chs ex
    replace B2 := B2.chs ex
    replace B3 := B3.chs ex
    replace B6 := B6.chs ex
    replace B4 := D; clear D
    replace B4 := B4.congr (cs' := comV hd f.1 nilH nilH nilH 0 nilH nilH nilH) rfl
    refine wl_ef (ef_storeP (o := 0) rfl rfl (by kernel_rfl) B1 (Nat.le_of_ble_eq_true rfl) (all_ones rfl)) rfl ?_
    rintro _ wS17_7 ⟨rfl, D, cg⟩
    have ex := Chs.one cg
    clear cg
    replace F := F.chs ex
    replace KA := KA.chs ex
    replace KE := KE.chs ex
    replace B2 := B2.chs ex
    replace B3 := B3.chs ex
    replace B4 := B4.chs ex
    replace B6 := B6.chs ex
    replace B1 := D; clear D
    replace B1 := B1.congr (cs' := placeV A7 n7 c7 t7 e7) rfl
    refine wl_nil ?_
    refine wq_then_norm (hK17 ?_)
    refine wc_seq ?_; intro K18 hK18
    refine wc_seq ?_; intro K19 hK19
    refine wc_region ?_
    refine wl_y (y_fieldAddr (o := 1) (s := 1) (off := 0) (o' := 1) rfl Tryz.underlying40 rfl (by kernel_rfl) rfl rfl) rfl ?_
    refine wl_y (y_load1 rfl Tryz.underlying4 rfl (B4.get (i := 1) rfl)) rfl ?_
    refine wl_y (y_not rfl) rfl ?_
    refine wl_nil ?_
    refine wq_then_norm (hK19 ?_)
    refine wc_cond rfl (fun hc6 => ?_) (fun hc6 => ?_)
    · skip
      refine wc_seq ?_; intro K20 hK20
      refine wc_drawJ [(2, [gB2]), (3, [gB3])] (by kernel_rfl) 4 rfl ?_; intro wd19 ex hd19
      replace F := F.ext ex
      replace KA := KA.ext ex
      replace KE := KE.ext ex
      replace B1 := B1.ext ex
      replace B2 := B2.ext ex
      replace B3 := B3.ext ex
      replace B4 := B4.ext ex
      replace B6 := B6.ext ex
      refine wj_y 0 [] rfl (by kernel_rfl) (fun wr (cr : Chs ([]) _ wr) => y_loadw rfl Tryz.underlying40 rfl (by kernel_rfl) (B4.chs cr)) rfl ?_
      refine wj_y 1 [2] rfl (by kernel_rfl) (fun wr (cr : Chs ([gB2]) _ wr) => y_loadw rfl Tryz.underlying85 rfl (by kernel_rfl) (B1.chs cr)) rfl ?_
      refine wj_one 2 (by kernel_rfl) ?_; refine oj_ef rfl (ef_storeP (o := 0) rfl rfl (by kernel_rfl) B2 (Nat.le_of_ble_eq_true rfl) (all_ones rfl)) rfl ?_
      rintro _ wS19_2 ⟨rfl, D, cg⟩
      have ex := Chs.one cg
      clear cg
      refine ⟨ex, ?_⟩
      replace F := F.chs ex
      replace KA := KA.chs ex
      replace KE := KE.chs ex
      replace B1 := B1.chs ex
      replace B3 := B3.chs ex
      replace B4 := B4.chs ex
      replace B6 := B6.chs ex
      replace B2 := D; clear D
      replace B2 := B2.congr (cs' := comV hd f.1 nilH nilH nilH 0 nilH nilH nilH) rfl
      refine wj_one 3 (by kernel_rfl) ?_; refine oj_ef rfl (ef_storeP (o := 0) rfl rfl (by kernel_rfl) B3 (Nat.le_of_ble_eq_true rfl) (all_ones rfl)) rfl ?_
      rintro _ wS19_3 ⟨rfl, D, cg⟩
      have ex := Chs.one cg
      clear cg
      refine ⟨ex, ?_⟩
      replace F := F.chs ex
      replace KA := KA.chs ex
      replace KE := KE.chs ex
      replace B1 := B1.chs ex
      replace B2 := B2.chs ex
      replace B4 := B4.chs ex
      replace B6 := B6.chs ex
      replace B3 := D; clear D
      replace B3 := B3.congr (cs' := placeV A7 n7 c7 t7 e7) rfl
      refine wj_done (by kernel_rfl) ?_
      refine wq_nop ?_
      refine wq_then_norm (hK20 ?_)
      refine wc_ret ?_
      refine wq_then_ret ?_
      refine hret rfl rfl B2 rfl B3 rfl ?_
      have hf1 : f.1 = false := by simpa using hc6
      rw [hX, hf1, if_neg (by decide)]
      exact ⟨_, _, rfl, ⟨_, _, _, _, _, _, _, _, rfl, by rw [hl1]; exact KE.out.mono (by omega) (fun _ _ h => h), LeafS.zero _ _ _, ElsF.nil _ _ _ _ _⟩, P, ((((F.drop (by omega)).drop (by omega)).drop (by omega)).drop (by omega)).drop (by omega) |>.toExt (by simp)⟩
    · skip
      refine wc_skip ?_
      refine wq_then_norm (hK18 ?_)
      refine wc_seq ?_; intro K21 hK21
      have hf1 : f.1 = true := by simpa using hc6
      replace B4 := B4.congr (cs' := comV hd true nilH nilH nilH 0 nilH nilH nilH) (by rw [hf1])
      refine wc_region ?_
      refine wl_y (y_loadw rfl Tryz.underlying85 rfl (by kernel_rfl) B1) rfl ?_
      refine wl_call Tryz.func96 rfl rfl rfl (plleaf_any _ KA.out P) rfl ?_
      rintro e w20 ⟨cl, cs20, rfl, HL, P, ex⟩
      refine ⟨_, rfl, ?_⟩
      replace F := F.ext ex
      replace KA := KA.ext ex
      replace KE := KE.ext ex
      replace B1 := B1.ext ex
      replace B2 := B2.ext ex
      replace B3 := B3.ext ex
      replace B4 := B4.ext ex
      replace B6 := B6.ext ex
      rw [← hlf] at HL P; have HF := HL; obtain ⟨f0, f1, f2, f4, f5, rfl, _⟩ := HL; obtain ⟨A8, n8, c8, t8, e8, rfl, P⟩ := P.get
      refine wl_y (y_move rfl) rfl ?_
      refine wl_y (y_extract rfl rfl) rfl ?_
      refine wl_y (y_extract rfl rfl) rfl ?_
      refine wl_y (y_fieldAddr (o := 2) (s := 7) (off := 0) (o' := 2) rfl Tryz.underlying40 rfl (by kernel_rfl) rfl rfl) rfl ?_
      refine wl_y (y_fieldAddr (o := 0) (s := 6) (off := 2) (o' := 2) rfl Tryz.underlying38 rfl (by kernel_rfl) rfl rfl) rfl ?_
      refine wl_ef (ef_storeP (o := 2) rfl rfl (by kernel_rfl) B4 (Nat.le_of_ble_eq_true rfl) (all_ones rfl)) rfl ?_
      rintro _ wS20_7 ⟨rfl, D, cg⟩
      have ex := Chs.one cg
      clear cg
      replace F := F.chs ex
      replace KA := KA.chs ex
      replace KE := KE.chs ex
      replace B1 := B1.chs ex
      replace B2 := B2.chs ex
      replace B3 := B3.chs ex
      replace B6 := B6.chs ex
      replace B4 := D; clear D
      replace B4 := B4.congr (cs' := comV hd true f0 f1 f2 lf.1.src f4 f5 nilH) rfl
      refine wl_ef (ef_storeP (o := 0) rfl rfl (by kernel_rfl) B1 (Nat.le_of_ble_eq_true rfl) (all_ones rfl)) rfl ?_
      rintro _ wS20_8 ⟨rfl, D, cg⟩
      have ex := Chs.one cg
      clear cg
      replace F := F.chs ex
      replace KA := KA.chs ex
      replace KE := KE.chs ex
      replace B2 := B2.chs ex
      replace B3 := B3.chs ex
      replace B4 := B4.chs ex
      replace B6 := B6.chs ex
      replace B1 := D; clear D
      replace B1 := B1.congr (cs' := placeV A8 n8 c8 t8 e8) rfl
      refine wl_nil ?_
      refine wq_then_norm (hK21 ?_)
      refine wc_seq ?_; intro K22 hK22
      refine wc_region ?_
      refine wl_y (y_loadw rfl Tryz.underlying85 rfl (by kernel_rfl) B1) rfl ?_
      refine wl_call Tryz.func55 rfl rfl rfl (plvec_any _ KA.out P) rfl ?_
      rintro e w21 ⟨h21, cs21, rfl, Sh21, lh21, mh21, uh21, P, ex⟩
      refine ⟨_, rfl, ?_⟩
      replace F := F.ext ex
      replace KA := KA.ext ex
      replace KE := KE.ext ex
      replace B1 := B1.ext ex
      replace B2 := B2.ext ex
      replace B3 := B3.ext ex
      replace B4 := B4.ext ex
      replace B6 := B6.ext ex
      rw [← hu] at P Sh21 lh21; obtain ⟨A21, n21, c21, t21, e21, rfl, P⟩ := P.get
      refine wl_y (y_move rfl) rfl ?_
      refine wl_y (y_extract rfl rfl) rfl ?_
      refine wl_y (y_extract rfl rfl) rfl ?_
      refine wl_y (y_assign rfl) rfl ?_
      refine wl_ef (ef_storeP (o := 0) rfl rfl (by kernel_rfl) B1 (Nat.le_of_ble_eq_true rfl) (all_ones rfl)) rfl ?_
      rintro _ wS21_6 ⟨rfl, D, cg⟩
      have ex := Chs.one cg
      clear cg
      replace F := F.chs ex
      replace KA := KA.chs ex
      replace KE := KE.chs ex
      replace B2 := B2.chs ex
      replace B3 := B3.chs ex
      replace B4 := B4.chs ex
      replace B6 := B6.chs ex
      replace B1 := D; clear D
      replace B1 := B1.congr (cs' := placeV A21 n21 c21 t21 e21) rfl
      refine wl_nil ?_
      refine wq_then_norm (hK22 ?_)
      refine wc_seq ?_; intro K23 hK23
      refine wc_region ?_
      refine wl_y (y_move rfl) rfl ?_
      refine wl_y (y_build rfl (cells := placeV h21.A h21.n h21.c 0 0) (by kernel_rfl)) rfl ?_
      refine wl_ef (ef_storeP (o := 0) rfl rfl (by kernel_rfl) B6 (Nat.le_of_ble_eq_true rfl) (all_ones rfl)) rfl ?_
      rintro _ wS22_2 ⟨rfl, D, cg⟩
      have ex := Chs.one cg
      clear cg
      replace F := F.chs ex
      replace KA := KA.chs ex
      replace KE := KE.chs ex
      replace B1 := B1.chs ex
      replace B2 := B2.chs ex
      replace B3 := B3.chs ex
      replace B4 := B4.chs ex
      replace B6 := D; clear D
      replace B6 := B6.congr (cs' := placeV h21.A h21.n h21.c 0 0) rfl
      refine wl_nil ?_
      refine wq_then_norm (hK23 ?_)
      refine wc_seq ?_; intro K24 hK24
      refine wc_block ?_
      have P6 : PlS A0 n0 b0 (placeV h21.A h21.n h21.c 0 0) (.ok u.1) := PlS.inner Sh21 mh21 uh21 lh21
      have q1 := B1.lt; have q2 := B2.lt; have q3 := B3.lt; have q4 := B4.lt; have q6 := B6.lt; have qF := F.size
      obtain ⟨N4, hN4⟩ : ∃ n, n = wS22_2.heap.size := ⟨_, rfl⟩
      replace KE := KE.bump (M := N4) (by have := KE.1; omega) (by omega)
      have E0 : ElsK (StpR N4 A0 n0 b0) 2 98 N4 wS22_2.heap.size [gB6, gB4, gB3, gB2, gB1] wS22_2 none 0 0 [] := ElsK.empty _ _ _ _ _ _ _
      refine wc_loop (fun n' L wq => ∃ (zt : List Stp) (su : St) (hs : Hd) (qa : Option Addr) (qn qc qt qe : Nat), L = [(1, .pointer (some ⟨gB1, 0, none⟩)), (2, .pointer (some ⟨gB2, 0, none⟩)), (3, .pointer (some ⟨gB3, 0, none⟩)), (4, .pointer (some ⟨gB4, 0, none⟩)), (6, .pointer (some ⟨gB6, 0, none⟩))] ∧ n' = slen su ∧ (Chs [gB6, gB4, gB3, gB2, gB1] w wq ∧ Kp w.heap.size [gB6, gB4, gB3, gB2, gB1] (fun w => Bs w A0 n0 b0) wq ∧ Kp N4 [gB6, gB4, gB3, gB2, gB1] (fun w => ElsF N3 (fun _ cs x => ItemS A0 n0 b0 cs x) 17 w hd.A hd.n zs) wq ∧ Blk wq gB1 85 (placeV A21 n21 c21 t21 e21) ∧ Blk wq gB2 40 zComV ∧ Blk wq gB3 85 (placeV none 0 0 0 0) ∧ Blk wq gB4 40 (comV hd true f0 f1 f2 lf.1.src f4 f5 hs) ∧ Blk wq gB6 85 (placeV qa qn qc qt qe) ∧ PlS A0 n0 b0 (placeV qa qn qc qt qe) su ∧ ElsK (StpR N4 A0 n0 b0) 2 98 N4 wq.heap.size [gB6, gB4, gB3, gB2, gB1] wq hs.A hs.n hs.c zt ∧ N4 ≤ wq.heap.size ∧ zt.length + slen su ≤ u.1.length ∧ EachP stpX ((eachN stpX u.1.length u.1).1, thenX [] (eachN stpX u.1.length u.1).2) zt su)) _ _ ⟨[], .ok u.1, nilH, h21.A, h21.n, h21.c, 0, 0, rfl, rfl, F, KA, KE, B1, B2, B3, B4, B6, P6, E0, (by omega), (by show 0 + u.1.length ≤ _; omega), EachP.start _ _⟩ ⟨rfl, rfl, rfl, rfl, rfl, trivial⟩ ?_
      rintro KL2 n' L wq ⟨zt, su, hs, qa, qn, qc, qt, qe, rfl, rfl, F, KA, KE, B1, B2, B3, B4, B6, Q, EK, hNr, hct, hP⟩ hL2
      have G := Chs.refl [gB6] wq
      have hown := EK.own
      have hlen := EK.len
      have qr := F.size
      refine wc_seq ?_; intro K25 hK25
      refine wc_seq ?_; intro K26 hK26
      refine wc_region ?_
      refine wl_y (y_loadw rfl Tryz.underlying85 rfl (by kernel_rfl) B6) rfl ?_
      refine wl_call Tryz.func100 rfl rfl rfl (plmore_any _ Q) rfl ?_
      rintro e w23 ⟨rfl, ex⟩
      refine ⟨_, rfl, ?_⟩
      replace F := F.ext ex
      replace KA := KA.ext ex
      replace KE := KE.ext ex
      replace B1 := B1.ext ex
      replace B2 := B2.ext ex
      replace B3 := B3.ext ex
      replace B4 := B4.ext ex
      replace B6 := B6.ext ex
      replace G := G.ext ex
      skip
      refine wl_nil ?_
      refine wq_then_norm (hK26 ?_)
      refine wc_cond rfl (fun hc7 => ?_) (fun hc7 => ?_)
      · skip
        refine wc_skip ?_
        refine wq_then_norm (hK25 ?_)
        refine wc_block ?_
        refine wc_seq ?_; intro K27 hK27
        obtain ⟨y, ys, rfl⟩ := more_yes hc7
        obtain ⟨hP2, hmm⟩ := hP.step stp_dec
        have hct' : zt.length + (y :: ys).length ≤ u.1.length := hct
        have z5 := G.size
        obtain ⟨a, ha⟩ : ∃ a, a = vecX (.ok (y :: ys)) := ⟨_, rfl⟩
        obtain ⟨d, hd'⟩ : ∃ d, d = vecX a.2 := ⟨_, rfl⟩
        obtain ⟨M, hM⟩ : ∃ M, M = eachX bxdX a.2 := ⟨_, rfl⟩
        have eX : stpX (.ok (y :: ys)) = (⟨a.1, M.1⟩, M.2) := by rw [hM, ha]; rfl
        rw [eX] at hP2 hmm
        dsimp only at hP2 hmm
        have hdl : d.1.length < 1073741824 := by rw [hd']; exact vecX_lt _
        have P := Q
        refine wc_region ?_
        refine wl_ef (ef_alloc (Z := #[.slice none 0 0, .slice none 0 0]) (by kernel_rfl)) rfl ?_
        rintro _ wB10 ⟨gB10, rfl, B10, hgB10, ex⟩
        have lB10 := B10.lt; have zB10 := ex.size
        have nB1_10 : gB1 < gB10 := Nat.lt_of_lt_of_le B1.lt hgB10
        have nB2_10 : gB2 < gB10 := Nat.lt_of_lt_of_le B2.lt hgB10
        have nB3_10 : gB3 < gB10 := Nat.lt_of_lt_of_le B3.lt hgB10
        have nB4_10 : gB4 < gB10 := Nat.lt_of_lt_of_le B4.lt hgB10
        have nB6_10 : gB6 < gB10 := Nat.lt_of_lt_of_le B6.lt hgB10
        try (have nB8_10 : gB8 < gB10 := Nat.lt_of_lt_of_le B8.lt hgB10)
        try (have nB9_10 : gB9 < gB10 := Nat.lt_of_lt_of_le B9.lt hgB10)
        replace F := F.grow ex hgB10
        replace KA := KA.grow ex hgB10
        replace KE := KE.grow ex hgB10
        replace B1 := B1.grow ex hgB10
        replace B2 := B2.grow ex hgB10
        replace B3 := B3.grow ex hgB10
        replace B4 := B4.grow ex hgB10
        replace B6 := B6.grow ex hgB10
        replace G := G.grow ex hgB10
        refine wl_nil ?_
        refine wq_then_norm (hK27 ?_)
        refine wc_seq ?_; intro K28 hK28
        refine wc_region ?_
        refine wl_y (y_assign rfl) rfl ?_
        refine wl_nil ?_
        refine wq_then_norm (hK28 ?_)
        refine wc_seq ?_; intro K29 hK29
        refine wc_region ?_
        refine wl_y (y_loadw rfl Tryz.underlying85 rfl (by kernel_rfl) B6) rfl ?_
        refine wl_call Tryz.func55 rfl rfl rfl (plvec_any _ KA.out P) rfl ?_
        rintro e w26 ⟨h26, cs26, rfl, Sh26, lh26, mh26, uh26, P, ex⟩
        refine ⟨_, rfl, ?_⟩
        replace F := F.ext ex
        replace KA := KA.ext ex
        replace KE := KE.ext ex
        replace B1 := B1.ext ex
        replace B2 := B2.ext ex
        replace B3 := B3.ext ex
        replace B4 := B4.ext ex
        replace B6 := B6.ext ex
        replace G := G.ext ex
        replace B10 := B10.ext ex
        rw [← ha] at P Sh26 lh26; obtain ⟨A26, n26, c26, t26, e26, rfl, P⟩ := P.get
        refine wl_y (y_move rfl) rfl ?_
        refine wl_y (y_extract rfl rfl) rfl ?_
        refine wl_y (y_extract rfl rfl) rfl ?_
        refine wl_y (y_fieldAddr (o := 0) (s := 1) (off := 0) (o' := 0) rfl Tryz.underlying98 rfl (by kernel_rfl) rfl rfl) rfl ?_
        refine wl_ef (ef_storeB (i := 0) rfl rfl rfl (by kernel_rfl) B10 (Nat.le_of_ble_eq_true rfl)) rfl ?_
        rintro _ wS26_6 ⟨rfl, D, cg⟩
        have ex := Chs.one cg
        clear cg
        replace F := F.chs ex
        replace KA := KA.chs ex
        replace KE := KE.chs ex
        replace B1 := B1.chs ex
        replace B2 := B2.chs ex
        replace B3 := B3.chs ex
        replace B4 := B4.chs ex
        replace B6 := B6.chs ex
        replace G := G.chs ex
        replace B10 := D; clear D
        replace B10 := B10.congr (cs' := twoV h26 nilH) rfl
        refine wl_ef (ef_storeP (o := 0) rfl rfl (by kernel_rfl) B6 (Nat.le_of_ble_eq_true rfl) (all_ones rfl)) rfl ?_
        rintro _ wS26_7 ⟨rfl, D, cg⟩
        have ex := Chs.one cg
        clear cg
        replace F := F.chs ex
        replace KA := KA.chs ex
        replace KE := KE.chs ex
        replace B1 := B1.chs ex
        replace B2 := B2.chs ex
        replace B3 := B3.chs ex
        replace B4 := B4.chs ex
        replace G := G.chs ex
        replace B10 := B10.chs ex
        replace B6 := D; clear D
        replace B6 := B6.congr (cs' := placeV A26 n26 c26 t26 e26) rfl
        refine wl_nil ?_
        refine wq_then_norm (hK29 ?_)
        refine wc_seq ?_; intro K30 hK30
        refine wc_region ?_
        refine wl_y (y_loadw rfl Tryz.underlying85 rfl (by kernel_rfl) B6) rfl ?_
        refine wl_call Tryz.func55 rfl rfl rfl (plvec_any _ KA.out P) rfl ?_
        rintro e w27 ⟨h27, cs27, rfl, Sh27, lh27, mh27, uh27, P, ex⟩
        refine ⟨_, rfl, ?_⟩
        replace F := F.ext ex
        replace KA := KA.ext ex
        replace KE := KE.ext ex
        replace B1 := B1.ext ex
        replace B2 := B2.ext ex
        replace B3 := B3.ext ex
        replace B4 := B4.ext ex
        replace B6 := B6.ext ex
        replace G := G.ext ex
        replace B10 := B10.ext ex
        rw [← hd'] at P Sh27 lh27; obtain ⟨A27, n27, c27, t27, e27, rfl, P⟩ := P.get
        refine wl_y (y_move rfl) rfl ?_
        refine wl_y (y_extract rfl rfl) rfl ?_
        refine wl_y (y_extract rfl rfl) rfl ?_
        refine wl_y (y_assign rfl) rfl ?_
        refine wl_ef (ef_storeP (o := 0) rfl rfl (by kernel_rfl) B6 (Nat.le_of_ble_eq_true rfl) (all_ones rfl)) rfl ?_
        rintro _ wS27_6 ⟨rfl, D, cg⟩
        have ex := Chs.one cg
        clear cg
        replace F := F.chs ex
        replace KA := KA.chs ex
        replace KE := KE.chs ex
        replace B1 := B1.chs ex
        replace B2 := B2.chs ex
        replace B3 := B3.chs ex
        replace B4 := B4.chs ex
        replace G := G.chs ex
        replace B10 := B10.chs ex
        replace B6 := D; clear D
        replace B6 := B6.congr (cs' := placeV A27 n27 c27 t27 e27) rfl
        refine wl_nil ?_
        refine wq_then_norm (hK30 ?_)
        refine wc_seq ?_; intro K31 hK31
        refine wc_region ?_
        refine wl_y (y_move rfl) rfl ?_
        refine wl_y (y_build rfl (cells := placeV h27.A h27.n h27.c 0 0) (by kernel_rfl)) rfl ?_
        refine wl_ef (ef_alloc (Z := #[.slice none 0 0, .int .i64 0, .int .i64 0]) (by kernel_rfl)) rfl ?_
        rintro _ wB12 ⟨gB12, rfl, B12, hgB12, ex⟩
        have lB12 := B12.lt; have zB12 := ex.size
        have nB1_12 : gB1 < gB12 := Nat.lt_of_lt_of_le B1.lt hgB12
        have nB2_12 : gB2 < gB12 := Nat.lt_of_lt_of_le B2.lt hgB12
        have nB3_12 : gB3 < gB12 := Nat.lt_of_lt_of_le B3.lt hgB12
        have nB4_12 : gB4 < gB12 := Nat.lt_of_lt_of_le B4.lt hgB12
        have nB6_12 : gB6 < gB12 := Nat.lt_of_lt_of_le B6.lt hgB12
        try (have nB8_12 : gB8 < gB12 := Nat.lt_of_lt_of_le B8.lt hgB12)
        try (have nB9_12 : gB9 < gB12 := Nat.lt_of_lt_of_le B9.lt hgB12)
        have nB10_12 : gB10 < gB12 := Nat.lt_of_lt_of_le B10.lt hgB12
        replace F := F.grow ex hgB12
        replace KA := KA.grow ex hgB12
        replace KE := KE.grow ex hgB12
        replace B1 := B1.grow ex hgB12
        replace B2 := B2.grow ex hgB12
        replace B3 := B3.grow ex hgB12
        replace B4 := B4.grow ex hgB12
        replace B6 := B6.grow ex hgB12
        replace G := G.grow ex hgB12
        replace B10 := B10.grow ex hgB12
        refine wl_ef (ef_storeP (o := 0) rfl rfl (by kernel_rfl) B12 (Nat.le_of_ble_eq_true rfl) (all_ones rfl)) rfl ?_
        rintro _ wS28_3 ⟨rfl, D, cg⟩
        have ex := Chs.one cg
        clear cg
        replace F := F.chs ex
        replace KA := KA.chs ex
        replace KE := KE.chs ex
        replace B1 := B1.chs ex
        replace B2 := B2.chs ex
        replace B3 := B3.chs ex
        replace B4 := B4.chs ex
        replace B6 := B6.chs ex
        replace G := G.chs ex
        replace B10 := B10.chs ex
        replace B12 := D; clear D
        replace B12 := B12.congr (cs' := placeV h27.A h27.n h27.c 0 0) rfl
        refine wl_nil ?_
        refine wq_then_norm (hK31 ?_)
        refine wc_seq ?_; intro K32 hK32
        refine wc_block ?_
        have P12 : PlS A0 n0 b0 (placeV h27.A h27.n h27.c 0 0) (.ok d.1) := PlS.inner Sh27 mh27 uh27 lh27
        have q10 := B10.lt; have q12 := B12.lt; have r1 := B1.lt; have r2 := B2.lt; have r3 := B3.lt; have r4 := B4.lt; have r6 := B6.lt; have qG := G.size
        obtain ⟨N6, hN6⟩ : ∃ n, n = wS28_3.heap.size := ⟨_, rfl⟩
        have hg10 : wq.heap.size ≤ gB10 := by omega
        have hg12 : wq.heap.size ≤ gB12 := by omega
        have hne : gB10 ≠ gB12 := by omega
        have E0 : ElsK (fun _ cs x => BxdS A0 n0 b0 cs x) 2 100 N6 wS28_3.heap.size [gB12, gB10, gB6, gB4, gB3, gB2, gB1] wS28_3 none 0 0 [] := ElsK.empty _ _ _ _ _ _ _
        refine wc_loop (fun n' L wt => ∃ (zb : List Bxd) (sv : St) (hb : Hd) (ra : Option Addr) (rn rc rt re : Nat), L = [(1, .pointer (some ⟨gB1, 0, none⟩)), (2, .pointer (some ⟨gB2, 0, none⟩)), (3, .pointer (some ⟨gB3, 0, none⟩)), (4, .pointer (some ⟨gB4, 0, none⟩)), (6, .pointer (some ⟨gB6, 0, none⟩)), (10, .pointer (some ⟨gB10, 0, none⟩)), (12, .pointer (some ⟨gB12, 0, none⟩))] ∧ n' = slen sv ∧ (Chs [gB12, gB10, gB6, gB4, gB3, gB2, gB1] w wt ∧ Kp w.heap.size [gB12, gB10, gB6, gB4, gB3, gB2, gB1] (fun w => Bs w A0 n0 b0) wt ∧ Kp N4 [gB12, gB10, gB6, gB4, gB3, gB2, gB1] (fun w => ElsF N3 (fun _ cs x => ItemS A0 n0 b0 cs x) 17 w hd.A hd.n zs) wt ∧ Blk wt gB1 85 (placeV A21 n21 c21 t21 e21) ∧ Blk wt gB2 40 zComV ∧ Blk wt gB3 85 (placeV none 0 0 0 0) ∧ Blk wt gB4 40 (comV hd true f0 f1 f2 lf.1.src f4 f5 hs) ∧ Blk wt gB6 85 (placeV A27 n27 c27 t27 e27) ∧ Blk wt gB10 98 (twoV h26 hb) ∧ Blk wt gB12 85 (placeV ra rn rc rt re) ∧ Chs [gB12, gB10, gB6] wq wt ∧ PlS A0 n0 b0 (placeV ra rn rc rt re) sv ∧ ElsK (fun _ cs x => BxdS A0 n0 b0 cs x) 2 100 N6 wt.heap.size [gB12, gB10, gB6, gB4, gB3, gB2, gB1] wt hb.A hb.n hb.c zb ∧ N6 ≤ wt.heap.size ∧ zb.length + slen sv ≤ d.1.length ∧ EachP bxdX ((eachN bxdX d.1.length d.1).1, thenX [] (eachN bxdX d.1.length d.1).2) zb sv)) _ _ ⟨[], .ok d.1, nilH, h27.A, h27.n, h27.c, 0, 0, rfl, rfl, F, KA, KE, B1, B2, B3, B4, B6, B10, B12, G, P12, E0, (by omega), (by show 0 + d.1.length ≤ _; omega), EachP.start _ _⟩ ⟨rfl, rfl, rfl, rfl, rfl, rfl, rfl, trivial⟩ ?_
        rintro KL3 n' L wt ⟨zb, sv, hb, ra, rn, rc, rt, re, rfl, rfl, F, KA, KE, B1, B2, B3, B4, B6, B10, B12, G, Qb, EKb, hNb, hctb, hPb⟩ hL3
        have H := Chs.refl [gB12] wt
        have hownb := EKb.own
        have hlenb := EKb.len
        have qrb := F.size
        have zG := G.size
        refine wc_seq ?_; intro K33 hK33
        refine wc_seq ?_; intro K34 hK34
        refine wc_region ?_
        refine wl_y (y_loadw rfl Tryz.underlying85 rfl (by kernel_rfl) B12) rfl ?_
        refine wl_call Tryz.func100 rfl rfl rfl (plmore_any _ Qb) rfl ?_
        rintro e w29 ⟨rfl, ex⟩
        refine ⟨_, rfl, ?_⟩
        replace F := F.ext ex
        replace KA := KA.ext ex
        replace KE := KE.ext ex
        replace B1 := B1.ext ex
        replace B2 := B2.ext ex
        replace B3 := B3.ext ex
        replace B4 := B4.ext ex
        replace B6 := B6.ext ex
        replace B10 := B10.ext ex
        replace B12 := B12.ext ex
        replace G := G.ext ex
        replace H := H.ext ex
        skip
        refine wl_nil ?_
        refine wq_then_norm (hK34 ?_)
        refine wc_cond rfl (fun hc8 => ?_) (fun hc8 => ?_)
        · skip
          refine wc_skip ?_
          refine wq_then_norm (hK33 ?_)
          refine wc_block ?_
          refine wc_seq ?_; intro K35 hK35
          obtain ⟨yb, yt, rfl⟩ := more_yes hc8
          obtain ⟨hPb2, hmb⟩ := hPb.step bxd_dec
          have hctc : zb.length + (yb :: yt).length ≤ d.1.length := hctb
          have zH := H.size
          have Pb := Qb
          obtain ⟨a1, ha1⟩ : ∃ a, a = vecX (.ok (yb :: yt)) := ⟨_, rfl⟩
          obtain ⟨a2, ha2⟩ : ∃ a, a = vecX a1.2 := ⟨_, rfl⟩
          have eB : bxdX (.ok (yb :: yt)) = (⟨a1.1, a2.1⟩, a2.2) := by rw [ha2, ha1]; rfl
          rw [eB] at hPb2 hmb
          dsimp only at hPb2 hmb
          refine wc_region ?_
          refine wl_ef (ef_alloc (Z := #[.slice none 0 0, .slice none 0 0]) (by kernel_rfl)) rfl ?_
          rintro _ wB13 ⟨gB13, rfl, B13, hgB13, ex⟩
          have lB13 := B13.lt; have zB13 := ex.size
          have nB1_13 : gB1 < gB13 := Nat.lt_of_lt_of_le B1.lt hgB13
          have nB2_13 : gB2 < gB13 := Nat.lt_of_lt_of_le B2.lt hgB13
          have nB3_13 : gB3 < gB13 := Nat.lt_of_lt_of_le B3.lt hgB13
          have nB4_13 : gB4 < gB13 := Nat.lt_of_lt_of_le B4.lt hgB13
          have nB6_13 : gB6 < gB13 := Nat.lt_of_lt_of_le B6.lt hgB13
          try (have nB8_13 : gB8 < gB13 := Nat.lt_of_lt_of_le B8.lt hgB13)
          try (have nB9_13 : gB9 < gB13 := Nat.lt_of_lt_of_le B9.lt hgB13)
          have nB10_13 : gB10 < gB13 := Nat.lt_of_lt_of_le B10.lt hgB13
          have nB12_13 : gB12 < gB13 := Nat.lt_of_lt_of_le B12.lt hgB13
          replace F := F.grow ex hgB13
          replace KA := KA.grow ex hgB13
          replace KE := KE.grow ex hgB13
          replace B1 := B1.grow ex hgB13
          replace B2 := B2.grow ex hgB13
          replace B3 := B3.grow ex hgB13
          replace B4 := B4.grow ex hgB13
          replace B6 := B6.grow ex hgB13
          replace B10 := B10.grow ex hgB13
          replace B12 := B12.grow ex hgB13
          replace G := G.grow ex hgB13
          replace H := H.grow ex hgB13
          refine wl_nil ?_
          refine wq_then_norm (hK35 ?_)
          refine wc_seq ?_; intro K36 hK36
          refine wc_region ?_
          refine wl_y (y_loadw rfl Tryz.underlying85 rfl (by kernel_rfl) B12) rfl ?_
          refine wl_call Tryz.func55 rfl rfl rfl (plvec_any _ KA.out Pb) rfl ?_
          rintro e w31 ⟨h31, cs31, rfl, Sh31, lh31, mh31, uh31, Pb, ex⟩
          refine ⟨_, rfl, ?_⟩
          replace F := F.ext ex
          replace KA := KA.ext ex
          replace KE := KE.ext ex
          replace B1 := B1.ext ex
          replace B2 := B2.ext ex
          replace B3 := B3.ext ex
          replace B4 := B4.ext ex
          replace B6 := B6.ext ex
          replace B10 := B10.ext ex
          replace B12 := B12.ext ex
          replace G := G.ext ex
          replace H := H.ext ex
          replace B13 := B13.ext ex
          rw [← ha1] at Pb Sh31; obtain ⟨A31, n31, c31, t31, e31, rfl, Pb⟩ := Pb.get
          refine wl_y (y_move rfl) rfl ?_
          refine wl_y (y_extract rfl rfl) rfl ?_
          refine wl_y (y_extract rfl rfl) rfl ?_
          refine wl_y (y_fieldAddr (o := 0) (s := 1) (off := 0) (o' := 0) rfl Tryz.underlying100 rfl (by kernel_rfl) rfl rfl) rfl ?_
          refine wl_ef (ef_storeB (i := 0) rfl rfl rfl (by kernel_rfl) B13 (Nat.le_of_ble_eq_true rfl)) rfl ?_
          rintro _ wS31_6 ⟨rfl, D, cg⟩
          have ex := Chs.one cg
          clear cg
          replace F := F.chs ex
          replace KA := KA.chs ex
          replace KE := KE.chs ex
          replace B1 := B1.chs ex
          replace B2 := B2.chs ex
          replace B3 := B3.chs ex
          replace B4 := B4.chs ex
          replace B6 := B6.chs ex
          replace B10 := B10.chs ex
          replace B12 := B12.chs ex
          replace G := G.chs ex
          replace H := H.chs ex
          replace B13 := D; clear D
          refine wl_ef (ef_storeP (o := 0) rfl rfl (by kernel_rfl) B12 (Nat.le_of_ble_eq_true rfl) (all_ones rfl)) rfl ?_
          rintro _ wS31_7 ⟨rfl, D, cg⟩
          have ex := Chs.one cg
          clear cg
          replace F := F.chs ex
          replace KA := KA.chs ex
          replace KE := KE.chs ex
          replace B1 := B1.chs ex
          replace B2 := B2.chs ex
          replace B3 := B3.chs ex
          replace B4 := B4.chs ex
          replace B6 := B6.chs ex
          replace B10 := B10.chs ex
          replace G := G.chs ex
          replace H := H.chs ex
          replace B13 := B13.chs ex
          replace B12 := D; clear D
          replace B12 := B12.congr (cs' := placeV A31 n31 c31 t31 e31) rfl
          refine wl_nil ?_
          refine wq_then_norm (hK36 ?_)
          refine wc_seq ?_; intro K37 hK37
          refine wc_region ?_
          refine wl_y (y_loadw rfl Tryz.underlying85 rfl (by kernel_rfl) B12) rfl ?_
          refine wl_call Tryz.func55 rfl rfl rfl (plvec_any _ KA.out Pb) rfl ?_
          rintro e w32 ⟨h32, cs32, rfl, Sh32, lh32, mh32, uh32, Pb, ex⟩
          refine ⟨_, rfl, ?_⟩
          replace F := F.ext ex
          replace KA := KA.ext ex
          replace KE := KE.ext ex
          replace B1 := B1.ext ex
          replace B2 := B2.ext ex
          replace B3 := B3.ext ex
          replace B4 := B4.ext ex
          replace B6 := B6.ext ex
          replace B10 := B10.ext ex
          replace B12 := B12.ext ex
          replace G := G.ext ex
          replace H := H.ext ex
          replace B13 := B13.ext ex
          rw [← ha2] at Pb Sh32; obtain ⟨A32, n32, c32, t32, e32, rfl, Pb⟩ := Pb.get
          refine wl_y (y_move rfl) rfl ?_
          refine wl_y (y_extract rfl rfl) rfl ?_
          refine wl_y (y_extract rfl rfl) rfl ?_
          refine wl_y (y_fieldAddr (o := 1) (s := 1) (off := 0) (o' := 1) rfl Tryz.underlying100 rfl (by kernel_rfl) rfl rfl) rfl ?_
          refine wl_ef (ef_storeB (i := 1) rfl rfl rfl (by kernel_rfl) B13 (Nat.le_of_ble_eq_true rfl)) rfl ?_
          rintro _ wS32_6 ⟨rfl, D, cg⟩
          have ex := Chs.one cg
          clear cg
          replace F := F.chs ex
          replace KA := KA.chs ex
          replace KE := KE.chs ex
          replace B1 := B1.chs ex
          replace B2 := B2.chs ex
          replace B3 := B3.chs ex
          replace B4 := B4.chs ex
          replace B6 := B6.chs ex
          replace B10 := B10.chs ex
          replace B12 := B12.chs ex
          replace G := G.chs ex
          replace H := H.chs ex
          replace B13 := D; clear D
          replace B13 := B13.congr (cs' := twoV h31 h32) rfl
          refine wl_ef (ef_storeP (o := 0) rfl rfl (by kernel_rfl) B12 (Nat.le_of_ble_eq_true rfl) (all_ones rfl)) rfl ?_
          rintro _ wS32_7 ⟨rfl, D, cg⟩
          have ex := Chs.one cg
          clear cg
          replace F := F.chs ex
          replace KA := KA.chs ex
          replace KE := KE.chs ex
          replace B1 := B1.chs ex
          replace B2 := B2.chs ex
          replace B3 := B3.chs ex
          replace B4 := B4.chs ex
          replace B6 := B6.chs ex
          replace B10 := B10.chs ex
          replace G := G.chs ex
          replace H := H.chs ex
          replace B13 := B13.chs ex
          replace B12 := D; clear D
          replace B12 := B12.congr (cs' := placeV A32 n32 c32 t32 e32) rfl
          refine wl_nil ?_
          refine wq_then_norm (hK37 ?_)
          refine wc_region ?_
          refine wl_y (y_fieldAddr (o := 1) (s := 1) (off := 0) (o' := 1) rfl Tryz.underlying98 rfl (by kernel_rfl) rfl rfl) rfl ?_
          refine wl_y (y_load1 rfl Tryz.underlying96 rfl (B10.get (i := 1) rfl)) rfl ?_
          refine wl_y (y_loadw rfl Tryz.underlying100 rfl (by kernel_rfl) B13) rfl ?_
          refine wl_ef (ef_litS (cells := twoV h31 h32) Tryz.underlying96 rfl (by kernel_rfl)) rfl ?_
          rintro _ w34 ⟨g54, rfl, B54, hg54, ex⟩
          replace F := F.ext ex
          replace KA := KA.ext ex
          replace KE := KE.ext ex
          replace B1 := B1.ext ex
          replace B2 := B2.ext ex
          replace B3 := B3.ext ex
          replace B4 := B4.ext ex
          replace B6 := B6.ext ex
          replace B10 := B10.ext ex
          replace B12 := B12.ext ex
          replace G := G.ext ex
          replace H := H.ext ex
          replace B13 := B13.ext ex
          skip
          have z3 := H.size
          have EK2 := (EKb.chs (H.drop (by omega)) (by simp) (by simp; omega)).bump z3 (Nat.le_refl _)
          obtain ⟨hl', vals, hr, hkk⟩ := EK2
          refine wl_ef (ef_appW (A := hb.A) (n := hb.n) (c := hb.c) rfl rfl eltBxd hr B54 rfl (all_ones rfl) (by rw [List.length_cons] at hctc; omega) (by rw [List.length_cons] at hctc; omega) (by omega)) rfl ?_
          rintro _ w35 ⟨A35, c35, rfl, R4, gr4, hgl⟩
          have L4 : Lat N6 [] w34 w35 := lat_own gr4 (by omega) fun k hk => (hownb k hk).1
          have HE : ElsK (fun _ cs x => BxdS A0 n0 b0 cs x) 2 100 N6 w34.heap.size [gB12, gB10, gB6, gB4, gB3, gB2, gB1] w35 A35 (hb.n + 1) c35 (zb ++ [⟨a1.1, a2.1⟩]) := ElsK.app (cs := twoV h31 h32) hl' hr hkk ⟨Nat.le_refl _, fun _ _ => ⟨_, _, rfl, Sh31, Sh32⟩⟩ rfl R4 gr4 hgl
          have B1 : Blk w35 gB1 85 (placeV A21 n21 c21 t21 e21) := (L4.block gB1 (by omega) (by simp)).trans B1
          have B2 : Blk w35 gB2 40 zComV := (L4.block gB2 (by omega) (by simp)).trans B2
          have B3 : Blk w35 gB3 85 (placeV none 0 0 0 0) := (L4.block gB3 (by omega) (by simp)).trans B3
          have B4 : Blk w35 gB4 40 (comV hd true f0 f1 f2 lf.1.src f4 f5 hs) := (L4.block gB4 (by omega) (by simp)).trans B4
          have B6 : Blk w35 gB6 85 (placeV A27 n27 c27 t27 e27) := (L4.block gB6 (by omega) (by simp)).trans B6
          have B10 : Blk w35 gB10 98 (twoV h26 hb) := (L4.block gB10 (by omega) (by simp)).trans B10
          have B12 : Blk w35 gB12 85 (placeV A32 n32 c32 t32 e32) := (L4.block gB12 (by omega) (by simp)).trans B12
          replace KA := KA.lat L4 (by omega) (by simp)
          replace KE := KE.lat L4 (by omega) (by simp)
          replace F := F.lats L4 (by omega) (by simp)
          replace G := G.lats L4 (by omega) (by simp)
          have z15 := L4.size 
          refine wl_y (y_fieldAddr (o := 1) (s := 1) (off := 0) (o' := 1) rfl Tryz.underlying98 rfl (by kernel_rfl) rfl rfl) rfl ?_
          refine wl_ef (ef_storeB (i := 1) rfl rfl rfl (by kernel_rfl) B10 (Nat.le_of_ble_eq_true rfl)) rfl ?_
          rintro _ wS33_6 ⟨rfl, D, cg⟩
          have ex := Chs.one cg
          clear cg
          replace F := F.chs ex
          replace KA := KA.chs ex
          replace KE := KE.chs ex
          replace B1 := B1.chs ex
          replace B2 := B2.chs ex
          replace B3 := B3.chs ex
          replace B4 := B4.chs ex
          replace B6 := B6.chs ex
          replace B12 := B12.chs ex
          replace G := G.chs ex
          replace HE := HE.chs ex
          replace B10 := D; clear D
          replace B10 := B10.congr (cs' := twoV h26 ⟨A35, hb.n + 1, c35⟩) rfl
          refine wl_nil ?_
          refine wq_blk_norm ?_
          refine wq_then_norm ?_
          refine hL3 _ _ ⟨zb ++ [⟨a1.1, a2.1⟩], a2.2, ⟨A35, hb.n + 1, c35⟩, A32, n32, c32, t32, e32, rfl, rfl, F.drop (by omega), KA.mono (fun k hk => List.mem_cons_of_mem _ hk), KE.mono (fun k hk => List.mem_cons_of_mem _ hk), B1, B2, B3, B4, B6, B10, B12, G.drop (by omega), Pb, HE.bump (by have := ex.size; omega) (Nat.le_refl _), (by have := ex.size; omega), (by rw [List.length_append, List.length_singleton]; omega), hPb2⟩ (by omega) ⟨rfl, rfl, rfl, rfl, rfl, rfl, rfl, trivial⟩
        · skip
          refine wc_exit ?_
          refine wq_then_exit ?_
          refine wq_then_exit ?_
          refine wq_blk_hit ?_
          refine wq_then_norm (hK32 ?_)
          refine wc_seq ?_; intro K38 hK38
          refine wc_seq ?_; intro K39 hK39
          obtain ⟨hz1, hz2⟩ := hPb.out (by simpa using hc8)
          rw [hd'] at hz1 hz2
          have hexb := each_exit hz1 hz2
          rw [← hd', ← hM] at hexb
          have hErrb := P.err
          have EKF := (EKb.chs H (by simp) (by simp; omega)).els
          obtain ⟨N7, KX, hN7⟩ : ∃ N7, Kp N7 ((Value.slice hs.A hs.n hs.c).ownBlock.toList ++ [gB12, gB10, gB6, gB4, gB3, gB2, gB1]) (fun w => ElsF N6 (fun _ cs x => BxdS A0 n0 b0 cs x) 2 w hb.A hb.n zb) _ ∧ N6 ≤ N7 := ⟨_, EKF.kk (by omega) (fun g hg => by rcases List.mem_append.1 hg with h | h; have := hown g h; omega; simp at h; omega) (fun _ _ h => ⟨Nat.le_refl _, fun _ _ => h⟩), by have := H.size; omega⟩
          refine wc_region ?_
          refine wl_y (y_fieldAddr (o := 2) (s := 1) (off := 0) (o' := 2) rfl Tryz.underlying85 rfl (by kernel_rfl) rfl rfl) rfl ?_
          refine wl_y (y_load1 rfl Tryz.underlying3 rfl (B6.get (i := 2) rfl)) rfl ?_
          refine wl_y (y_eql rfl rfl) rfl ?_
          refine wl_nil ?_
          refine wq_then_norm (hK39 ?_)
          refine wc_join (fun L wj9 => ∃ (ze : Nat), L = [(1, .pointer (some ⟨gB1, 0, none⟩)), (2, .pointer (some ⟨gB2, 0, none⟩)), (3, .pointer (some ⟨gB3, 0, none⟩)), (4, .pointer (some ⟨gB4, 0, none⟩)), (6, .pointer (some ⟨gB6, 0, none⟩)), (10, .pointer (some ⟨gB10, 0, none⟩))] ∧ (Chs [gB12, gB10, gB6, gB4, gB3, gB2, gB1] w wj9 ∧ Kp w.heap.size [gB12, gB10, gB6, gB4, gB3, gB2, gB1] (fun w => Bs w A0 n0 b0) wj9 ∧ Kp N4 [gB12, gB10, gB6, gB4, gB3, gB2, gB1] (fun w => ElsF N3 (fun _ cs x => ItemS A0 n0 b0 cs x) 17 w hd.A hd.n zs) wj9 ∧ Blk wj9 gB1 85 (placeV A21 n21 c21 t21 e21) ∧ Blk wj9 gB2 40 zComV ∧ Blk wj9 gB3 85 (placeV none 0 0 0 0) ∧ Blk wj9 gB4 40 (comV hd true f0 f1 f2 lf.1.src f4 f5 hs) ∧ Blk wj9 gB6 85 (placeV A27 n27 c27 t27 ze) ∧ Blk wj9 gB10 98 (twoV h26 hb) ∧ Chs [gB12, gB10, gB6] wq wj9 ∧ Kp N7 ((Value.slice hs.A hs.n hs.c).ownBlock.toList ++ [gB12, gB10, gB6, gB4, gB3, gB2, gB1]) (fun w => ElsF N6 (fun _ cs x => BxdS A0 n0 b0 cs x) 2 w hb.A hb.n zb) wj9 ∧ PlS A0 n0 b0 (placeV A27 n27 c27 t27 ze) M.2)) ?_ ?_
          · skip
            refine wc_dec rfl (fun hc9 => ?_) (fun hc9 => ?_)
            · skip
              refine wc_region ?_
              refine wl_y (y_fieldAddr (o := 2) (s := 1) (off := 0) (o' := 2) rfl Tryz.underlying85 rfl (by kernel_rfl) rfl rfl) rfl ?_
              refine wl_y (y_load1 rfl Tryz.underlying3 rfl (B12.get (i := 2) rfl)) rfl ?_
              refine wl_y (y_fieldAddr (o := 2) (s := 1) (off := 0) (o' := 2) rfl Tryz.underlying85 rfl (by kernel_rfl) rfl rfl) rfl ?_
              refine wl_ef (ef_storeB (i := 2) rfl rfl rfl (by kernel_rfl) B6 (Nat.le_of_ble_eq_true rfl)) rfl ?_
              rintro _ wS35_3 ⟨rfl, D, cg⟩
              have ex := Chs.one cg
              clear cg
              replace F := F.chs ex
              replace KA := KA.chs ex
              replace KE := KE.chs ex
              replace B1 := B1.chs ex
              replace B2 := B2.chs ex
              replace B3 := B3.chs ex
              replace B4 := B4.chs ex
              replace B10 := B10.chs ex
              replace B12 := B12.chs ex
              replace G := G.chs ex
              replace KX := KX.chs ex
              replace B6 := D; clear D
              replace B6 := B6.congr (placeV_set (e' := re) rfl)
              refine wl_nil ?_
              obtain ⟨he0, r, hr⟩ : e27 = 0 ∧ ∃ r, d.2 = .ok r := hErrb.elim id (fun h => by omega)
              obtain ⟨r', h1, h2⟩ : ∃ r, d.2 = .ok r ∧ M = (zb, thenX r sv) := hexb.elim id (fun ⟨c, h, _⟩ => by rw [hr] at h; cases h)
              rw [h1, he0] at P
              have PX : PlS A0 n0 b0 (placeV A27 n27 c27 t27 re) M.2 := by rw [h2]; exact P.note Qb
              exact wq_join _ ⟨re, rfl, F, KA, KE, B1, B2, B3, B4, B6, B10, G, KX, PX⟩ ⟨rfl, rfl, rfl, rfl, rfl, rfl, trivial⟩
            · skip
              refine wc_skip ?_
              obtain ⟨he0, _, hr⟩ : e27 ≠ 0 ∧ e27 < 256 ∧ d.2 = .error e27 := hErrb.elim (fun h => by omega) id
              obtain ⟨c', h1, _, h2⟩ : ∃ c, d.2 = .error c ∧ zb = [] ∧ M = (zb, .error c) := hexb.elim (fun ⟨r, h, _⟩ => by rw [hr] at h; cases h) id
              have PX : PlS A0 n0 b0 (placeV A27 n27 c27 t27 e27) M.2 := by rw [h2, ← h1]; exact P
              exact wq_join _ ⟨e27, rfl, F, KA, KE, B1, B2, B3, B4, B6, B10, G, KX, PX⟩ ⟨rfl, rfl, rfl, rfl, rfl, rfl, trivial⟩
          rintro L wj9 ⟨ze, rfl, F, KA, KE, B1, B2, B3, B4, B6, B10, G, KX, P⟩
          have hM1 : M.1 = zb := hexb.elim (fun ⟨_, _, h⟩ => by rw [h]) (fun ⟨_, _, _, h⟩ => by rw [h])
          refine wq_then_norm (hK38 ?_)
          refine wc_region ?_
          refine wl_y (y_fieldAddr (o := 2) (s := 7) (off := 0) (o' := 2) rfl Tryz.underlying40 rfl (by kernel_rfl) rfl rfl) rfl ?_
          refine wl_y (y_fieldAddr (o := 6) (s := 1) (off := 2) (o' := 8) rfl Tryz.underlying38 rfl (by kernel_rfl) rfl rfl) rfl ?_
          refine wl_y (y_load1 rfl Tryz.underlying36 rfl (B4.get (i := 8) rfl)) rfl ?_
          refine wl_y (y_loadw rfl Tryz.underlying98 rfl (by kernel_rfl) B10) rfl ?_
          refine wl_ef (ef_litS (cells := twoV h26 hb) Tryz.underlying36 rfl (by kernel_rfl)) rfl ?_
          rintro _ w38 ⟨g55, rfl, B55, hg55, ex⟩
          replace F := F.ext ex
          replace KA := KA.ext ex
          replace KE := KE.ext ex
          replace B1 := B1.ext ex
          replace B2 := B2.ext ex
          replace B3 := B3.ext ex
          replace B4 := B4.ext ex
          replace B6 := B6.ext ex
          replace B10 := B10.ext ex
          replace G := G.ext ex
          replace KX := KX.ext ex
          skip
          have z3 := G.size
          have EK2 := (EK.chs ((G.drop (by omega)).drop (by omega)) (by simp) (by simp; omega)).bump z3 (Nat.le_refl _)
          obtain ⟨hl', vals, hr, hkk⟩ := EK2
          have HX := (KX.bump (M := w38.heap.size) KX.1 (Nat.le_refl _)).map (Ψ := fun w => StpR N4 A0 n0 b0 w (twoV h26 hb) ⟨a.1, M.1⟩) fun _ h => ⟨_, _, rfl, Sh26, by rw [hM1]; exact h.mono (by omega) fun _ _ h => h⟩
          refine wl_ef (ef_appW (A := hs.A) (n := hs.n) (c := hs.c) rfl rfl eltStp hr B55 rfl (all_ones rfl) (by rw [List.length_cons] at hct'; omega) (by rw [List.length_cons] at hct'; omega) (by omega)) rfl ?_
          rintro _ w39 ⟨A39, c39, rfl, R4, gr4, hgl⟩
          have L4 : Lat N4 [] w38 w39 := lat_own gr4 (by omega) fun k hk => (hown k hk).1
          have HE : ElsK (StpR N4 A0 n0 b0) 2 98 N4 w38.heap.size [gB6, gB4, gB3, gB2, gB1] w39 A39 (hs.n + 1) c39 (zt ++ [⟨a.1, M.1⟩]) := ElsK.app (cs := twoV h26 hb) hl' hr hkk (HX.mono (fun k hk => by rcases List.mem_append.1 hk with h | h; exact List.mem_append_left _ h; exact List.mem_append_right _ (List.mem_cons_of_mem _ (List.mem_cons_of_mem _ h)))) rfl R4 gr4 hgl
          have B1 : Blk w39 gB1 85 (placeV A21 n21 c21 t21 e21) := (L4.block gB1 (by omega) (by simp)).trans B1
          have B2 : Blk w39 gB2 40 zComV := (L4.block gB2 (by omega) (by simp)).trans B2
          have B3 : Blk w39 gB3 85 (placeV none 0 0 0 0) := (L4.block gB3 (by omega) (by simp)).trans B3
          have B4 : Blk w39 gB4 40 (comV hd true f0 f1 f2 lf.1.src f4 f5 hs) := (L4.block gB4 (by omega) (by simp)).trans B4
          have B6 : Blk w39 gB6 85 (placeV A27 n27 c27 t27 ze) := (L4.block gB6 (by omega) (by simp)).trans B6
          replace KA := KA.lat L4 (by omega) (by simp)
          replace KE := KE.lat L4 (by omega) (by simp)
          replace F := F.lats L4 (by omega) (by simp)
          have z15 := L4.size 
          refine wl_y (y_fieldAddr (o := 2) (s := 7) (off := 0) (o' := 2) rfl Tryz.underlying40 rfl (by kernel_rfl) rfl rfl) rfl ?_
          refine wl_y (y_fieldAddr (o := 6) (s := 1) (off := 2) (o' := 8) rfl Tryz.underlying38 rfl (by kernel_rfl) rfl rfl) rfl ?_
          refine wl_ef (ef_storeB (i := 8) rfl rfl rfl (by kernel_rfl) B4 (Nat.le_of_ble_eq_true rfl)) rfl ?_
          rintro _ wS36_8 ⟨rfl, D, cg⟩
          have ex := Chs.one cg
          clear cg
          replace F := F.chs ex
          replace KA := KA.chs ex
          replace KE := KE.chs ex
          replace B1 := B1.chs ex
          replace B2 := B2.chs ex
          replace B3 := B3.chs ex
          replace B6 := B6.chs ex
          replace HE := HE.chs ex
          replace B4 := D; clear D
          replace B4 := B4.congr (cs' := comV hd true f0 f1 f2 lf.1.src f4 f5 ⟨A39, hs.n + 1, c39⟩) rfl
          refine wl_nil ?_
          refine wq_blk_norm ?_
          refine wq_then_norm ?_
          refine hL2 _ _ ⟨zt ++ [⟨a.1, M.1⟩], M.2, ⟨A39, hs.n + 1, c39⟩, A27, n27, c27, t27, ze, rfl, rfl, (F.drop (by omega)).drop (by omega), KA.mono (fun k hk => List.mem_cons_of_mem _ (List.mem_cons_of_mem _ hk)), KE.mono (fun k hk => List.mem_cons_of_mem _ (List.mem_cons_of_mem _ hk)), B1, B2, B3, B4, B6, P, HE.bump (by have := ex.size; omega) (Nat.le_refl _), (by have := ex.size; omega), (by rw [List.length_append, List.length_singleton]; omega), hP2⟩ (by omega) ⟨rfl, rfl, rfl, rfl, rfl, trivial⟩
      · skip
        refine wc_exit ?_
        refine wq_then_exit ?_
        refine wq_then_exit ?_
        refine wq_blk_hit ?_
        refine wq_then_norm (hK24 ?_)
        refine wc_seq ?_; intro K40 hK40
        refine wc_seq ?_; intro K41 hK41
        obtain ⟨hz1, hz2⟩ := hP.out (by simpa using hc7)
        rw [hu] at hz1 hz2
        have hex2 := each_exit hz1 hz2
        rw [← hu, ← hm] at hex2
        have hErr2 := P.err
        have EKF := (EK.chs G (by simp) (by simp; omega)).els
        have KS : Kp _ [gB6, gB4, gB3, gB2, gB1] (fun w => ElsF N4 (StpR N4 A0 n0 b0) 2 w hs.A hs.n zt) _ := EKF.kk (by omega) (by simp; omega) (fun _ _ h => h.kk (by simp; omega))
        have hm1 : m.1 = zt := hex2.elim (fun ⟨_, _, h⟩ => by rw [h]) (fun ⟨_, _, _, h⟩ => by rw [h])
        refine wc_region ?_
        refine wl_y (y_fieldAddr (o := 2) (s := 1) (off := 0) (o' := 2) rfl Tryz.underlying85 rfl (by kernel_rfl) rfl rfl) rfl ?_
        refine wl_y (y_load1 rfl Tryz.underlying3 rfl (B1.get (i := 2) rfl)) rfl ?_
        refine wl_y (y_eql rfl rfl) rfl ?_
        refine wl_nil ?_
        refine wq_then_norm (hK41 ?_)
        refine wc_dec rfl (fun hc10 => ?_) (fun hc10 => ?_)
        · skip
          refine wc_region ?_
          refine wl_y (y_fieldAddr (o := 2) (s := 1) (off := 0) (o' := 2) rfl Tryz.underlying85 rfl (by kernel_rfl) rfl rfl) rfl ?_
          refine wl_y (y_load1 rfl Tryz.underlying3 rfl (B6.get (i := 2) rfl)) rfl ?_
          refine wl_y (y_fieldAddr (o := 2) (s := 1) (off := 0) (o' := 2) rfl Tryz.underlying85 rfl (by kernel_rfl) rfl rfl) rfl ?_
          refine wl_ef (ef_storeB (i := 2) rfl rfl rfl (by kernel_rfl) B1 (Nat.le_of_ble_eq_true rfl)) rfl ?_
          rintro _ wS38_3 ⟨rfl, D, cg⟩
          have ex := Chs.one cg
          clear cg
          replace F := F.chs ex
          replace KA := KA.chs ex
          replace KE := KE.chs ex
          replace B2 := B2.chs ex
          replace B3 := B3.chs ex
          replace B4 := B4.chs ex
          replace B6 := B6.chs ex
          replace KS := KS.chs ex
          replace B1 := D; clear D
          replace B1 := B1.congr (placeV_set (e' := qe) rfl)
          refine wl_nil ?_
          refine wq_then_norm (hK40 ?_)
          refine wc_seq ?_; intro K42 hK42
          refine wc_drawJ [(2, [gB2]), (3, [gB3])] (by kernel_rfl) 4 rfl ?_; intro wd39 ex hd39
          replace F := F.ext ex
          replace KA := KA.ext ex
          replace KE := KE.ext ex
          replace B1 := B1.ext ex
          replace B2 := B2.ext ex
          replace B3 := B3.ext ex
          replace B4 := B4.ext ex
          replace B6 := B6.ext ex
          replace KS := KS.ext ex
          refine wj_y 0 [] rfl (by kernel_rfl) (fun wr (cr : Chs ([]) _ wr) => y_loadw rfl Tryz.underlying40 rfl (by kernel_rfl) (B4.chs cr)) rfl ?_
          refine wj_y 1 [2] rfl (by kernel_rfl) (fun wr (cr : Chs ([gB2]) _ wr) => y_loadw rfl Tryz.underlying85 rfl (by kernel_rfl) (B1.chs cr)) rfl ?_
          refine wj_one 2 (by kernel_rfl) ?_; refine oj_ef rfl (ef_storeP (o := 0) rfl rfl (by kernel_rfl) B2 (Nat.le_of_ble_eq_true rfl) (all_ones rfl)) rfl ?_
          rintro _ wS39_2 ⟨rfl, D, cg⟩
          have ex := Chs.one cg
          clear cg
          refine ⟨ex, ?_⟩
          replace F := F.chs ex
          replace KA := KA.chs ex
          replace KE := KE.chs ex
          replace B1 := B1.chs ex
          replace B3 := B3.chs ex
          replace B4 := B4.chs ex
          replace B6 := B6.chs ex
          replace KS := KS.chs ex
          replace B2 := D; clear D
          replace B2 := B2.congr (cs' := comV hd true f0 f1 f2 lf.1.src f4 f5 hs) rfl
          refine wj_one 3 (by kernel_rfl) ?_; refine oj_ef rfl (ef_storeP (o := 0) rfl rfl (by kernel_rfl) B3 (Nat.le_of_ble_eq_true rfl) (all_ones rfl)) rfl ?_
          rintro _ wS39_3 ⟨rfl, D, cg⟩
          have ex := Chs.one cg
          clear cg
          refine ⟨ex, ?_⟩
          replace F := F.chs ex
          replace KA := KA.chs ex
          replace KE := KE.chs ex
          replace B1 := B1.chs ex
          replace B2 := B2.chs ex
          replace B4 := B4.chs ex
          replace B6 := B6.chs ex
          replace KS := KS.chs ex
          replace B3 := D; clear D
          replace B3 := B3.congr (cs' := placeV A21 n21 c21 t21 qe) rfl
          refine wj_done (by kernel_rfl) ?_
          refine wq_nop ?_
          refine wq_then_norm (hK42 ?_)
          refine wc_ret ?_
          refine hret rfl rfl B2 rfl B3 rfl ?_
          obtain ⟨he0, r, hr⟩ : e21 = 0 ∧ ∃ r, u.2 = .ok r := hErr2.elim id (fun h => by omega)
          obtain ⟨r', h1, h2⟩ : ∃ r, u.2 = .ok r ∧ m = (zt, thenX r su) := hex2.elim id (fun ⟨c, h, _⟩ => by rw [hr] at h; cases h)
          rw [h1, he0] at P
          rw [hX, hf1, if_pos rfl]
          exact ⟨_, _, rfl, ⟨_, _, _, _, _, _, _, _, rfl, by rw [hl1]; exact KE.out.mono (by omega) (fun _ _ h => h), HF, by show ElsF _ _ _ _ _ _ m.1; rw [hm1]; exact KS.out.mono (by omega) (fun _ _ h => h.mono (by omega))⟩, (by rw [h2]; exact P.note Q), ((((F.drop (by omega)).drop (by omega)).drop (by omega)).drop (by omega)).drop (by omega) |>.toExt (by simp)⟩
        · skip
          refine wc_skip ?_
          refine wq_then_norm (hK40 ?_)
          refine wc_seq ?_; intro K43 hK43
          refine wc_drawJ [(2, [gB2]), (3, [gB3])] (by kernel_rfl) 4 rfl ?_; intro wd39 ex hd39
          replace F := F.ext ex
          replace KA := KA.ext ex
          replace KE := KE.ext ex
          replace B1 := B1.ext ex
          replace B2 := B2.ext ex
          replace B3 := B3.ext ex
          replace B4 := B4.ext ex
          replace B6 := B6.ext ex
          replace KS := KS.ext ex
          refine wj_y 0 [] rfl (by kernel_rfl) (fun wr (cr : Chs ([]) _ wr) => y_loadw rfl Tryz.underlying40 rfl (by kernel_rfl) (B4.chs cr)) rfl ?_
          refine wj_y 1 [2] rfl (by kernel_rfl) (fun wr (cr : Chs ([gB2]) _ wr) => y_loadw rfl Tryz.underlying85 rfl (by kernel_rfl) (B1.chs cr)) rfl ?_
          refine wj_one 2 (by kernel_rfl) ?_; refine oj_ef rfl (ef_storeP (o := 0) rfl rfl (by kernel_rfl) B2 (Nat.le_of_ble_eq_true rfl) (all_ones rfl)) rfl ?_
          rintro _ wS39_2 ⟨rfl, D, cg⟩
          have ex := Chs.one cg
          clear cg
          refine ⟨ex, ?_⟩
          replace F := F.chs ex
          replace KA := KA.chs ex
          replace KE := KE.chs ex
          replace B1 := B1.chs ex
          replace B3 := B3.chs ex
          replace B4 := B4.chs ex
          replace B6 := B6.chs ex
          replace KS := KS.chs ex
          replace B2 := D; clear D
          replace B2 := B2.congr (cs' := comV hd true f0 f1 f2 lf.1.src f4 f5 hs) rfl
          refine wj_one 3 (by kernel_rfl) ?_; refine oj_ef rfl (ef_storeP (o := 0) rfl rfl (by kernel_rfl) B3 (Nat.le_of_ble_eq_true rfl) (all_ones rfl)) rfl ?_
          rintro _ wS39_3 ⟨rfl, D, cg⟩
          have ex := Chs.one cg
          clear cg
          refine ⟨ex, ?_⟩
          replace F := F.chs ex
          replace KA := KA.chs ex
          replace KE := KE.chs ex
          replace B1 := B1.chs ex
          replace B2 := B2.chs ex
          replace B4 := B4.chs ex
          replace B6 := B6.chs ex
          replace KS := KS.chs ex
          replace B3 := D; clear D
          replace B3 := B3.congr (cs' := placeV A21 n21 c21 t21 e21) rfl
          refine wj_done (by kernel_rfl) ?_
          refine wq_nop ?_
          refine wq_then_norm (hK43 ?_)
          refine wc_ret ?_
          refine hret rfl rfl B2 rfl B3 rfl ?_
          obtain ⟨he0, _, hr⟩ : e21 ≠ 0 ∧ e21 < 256 ∧ u.2 = .error e21 := hErr2.elim (fun h => by omega) id
          obtain ⟨c', h1, _, h2⟩ : ∃ c, u.2 = .error c ∧ zt = [] ∧ m = (zt, .error c) := hex2.elim (fun ⟨r, h, _⟩ => by rw [hr] at h; cases h) id
          rw [hX, hf1, if_pos rfl]
          exact ⟨_, _, rfl, ⟨_, _, _, _, _, _, _, _, rfl, by rw [hl1]; exact KE.out.mono (by omega) (fun _ _ h => h), HF, by show ElsF _ _ _ _ _ _ m.1; rw [hm1]; exact KS.out.mono (by omega) (fun _ _ h => h.mono (by omega))⟩, (by rw [h2, ← h1]; exact P), ((((F.drop (by omega)).drop (by omega)).drop (by omega)).drop (by omega)).drop (by omega) |>.toExt (by simp)⟩
end
end Go.Proofs.YtpgalbgonmclaaaGreat
