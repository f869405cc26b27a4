/- The reference's messages of bytes; the law MsgReads. No conditions: contracts of functions. -/
import Derived.Test.YtpgalbgonmclaaaGreatMvB
namespace Go.Proofs.YtpgalbgonmclaaaGreat
open Go.RowKit
attribute [local irreducible] Y Ef WL WC WK WQ WM OpM WN WF OpN WJ OpJ
open Wire Nd M20
def MsgR (base : Nat) (A0 : Option Addr) (n0 : Nat) (b0 : List UInt8) (w : World) (cs : Array Value) (m : Mess) : Prop :=
  ∃ gr i h0 h1 h2 s h4 h5 g l0 l1 l2 t l4 l5 it c0 c1 c2 q c4 c5 ct sg tg mb, cs = msgV gr m.epoch m.frm m.kind m.prop.kind i h0 h1 h2 s h4 h5 g l0 l1 l2 t l4 l5 m.prop.at_ it m.com.has c0 c1 c2 q c4 c5 ct sg tg mb ∧ m.epoch < 18446744073709551616 ∧ m.kind < 256 ∧ (-9223372036854775808 ≤ m.frm ∧ m.frm ≤ 9223372036854775807) ∧ Sub A0 n0 b0 gr.A gr.n m.group ∧
    PropS A0 n0 b0 (propV m.prop.kind i h0 h1 h2 s h4 h5 g l0 l1 l2 t l4 l5 m.prop.at_) m.prop ∧ ComR base A0 n0 b0 w (comV it m.com.has c0 c1 c2 q c4 c5 ct) m.com ∧ Sub A0 n0 b0 sg.A sg.n m.sig ∧ Sub A0 n0 b0 tg.A tg.n m.tag ∧ Sub A0 n0 b0 mb.A mb.n m.member
theorem MsgR.at {base : Nat} {A0 : Option Addr} {n0 : Nat} {b0 : List UInt8} {w : World} {cs : Array Value} {x : Mess} (h : MsgR base A0 n0 b0 w cs x) (HA : Bs w A0 n0 b0) : MsgAt w cs x := by
  obtain ⟨gr, i, h0, h1, h2, s, h4, h5, g, l0, l1, l2, t, l4, l5, it, c0, c1, c2, q, c4, c5, ct, sg, tg, mb, e, a, a1, a2, d, f, j, k, l, o⟩ := h
  exact ⟨gr, i, h0, h1, h2, s, h4, h5, g, l0, l1, l2, t, l4, l5, it, c0, c1, c2, q, c4, c5, ct, sg, tg, mb, e, a, a1, a2, d w HA, f.at HA, j.at HA, k w HA, l w HA, o w HA⟩
theorem MsgR.zero (base : Nat) (A0 : Option Addr) (n0 : Nat) (b0 : List UInt8) (w : World) : MsgR base A0 n0 b0 w zMsgV Mess.zero :=
  ⟨_, _, _, _, _, _, _, _, _, _, _, _, _, _, _, _, _, _, _, _, _, _, _, _, _, _, rfl, (by decide), (by decide), (by decide), Sub.nil _ _ _, PropS.zero, ComR.zero _ _ _ _ _, Sub.nil _ _ _, Sub.nil _ _ _, Sub.nil _ _ _⟩
theorem num1_err {s : St} {z : Nat} (h : (numX 1 s).2 = .error z) : (numX 1 s).1 = 0 := by
  cases s with
  | error z => rfl
  | ok xs =>
    rw [numX_ok] at h ⊢
    split at h
    · rename_i h'; rw [if_pos h']
    · cases h
set_option maxHeartbeats 4000000 in
theorem rMessOf_any {A : Option Addr} {n c : Nat} {b : List UInt8} (w : World) (HA : Bs w A n b) (hc : n ≤ c) (hn : n ≤ 10000) :
    Calls Tryz.prog 17 #[.slice A n c] w fun e w' => ∃ cs, e = .returned (.tuple #[.agg cs, .int .i64 (((messOf b).2 : Nat) : Int)]) ∧ MsgR w.heap.size A n b w' cs (messOf b).1 ∧ Ext w w' := by
  have F := Chs.refl [] w
  have KA : Kp w.heap.size [] (fun w => Bs w A n b) w := Kp.bs HA (by simp)
  have hbl := HA.1
  have P := PlS.whole (A0 := A) (b0 := b) hc (by omega) hbl
  obtain ⟨g, hg⟩ : ∃ g, g = vecX (justX 2 1 (justX 2 1 (.ok b))) := ⟨_, rfl⟩
  obtain ⟨e, he⟩ : ∃ e, e = numX 8 g.2 := ⟨_, rfl⟩
  obtain ⟨f, hf⟩ : ∃ f, f = numX 4 (justX 1 1 e.2) := ⟨_, rfl⟩
  obtain ⟨k, hk⟩ : ∃ k, k = numX 1 f.2 := ⟨_, rfl⟩
  obtain ⟨X, hXX⟩ : ∃ X, X = (if k.1 = 2 then (((propX k.2).1, Com20.zero), (propX k.2).2) else if k.1 = 3 then ((Prop20.zero, (comX k.2).1), (comX k.2).2) else ((Prop20.zero, Com20.zero), badX k.2) : (Prop20 × Com20) × St) := ⟨_, rfl⟩
  obtain ⟨v, hv⟩ : ∃ v, v = vecX X.2 := ⟨_, rfl⟩
  obtain ⟨tt, htt⟩ : ∃ t, t = (if k.1 = 3 then vecX v.2 else ([], v.2) : List UInt8 × St) := ⟨_, rfl⟩
  obtain ⟨m, hm⟩ : ∃ m, m = vecX tt.2 := ⟨_, rfl⟩
  have hMX : messX (.ok b) = (⟨g.1, e.1, (f.1 : Int), k.1, X.1.1, X.1.2, v.1, tt.1, m.1⟩, m.2) := by
    by_cases h2 : k.1 = 2
    · have eX : X = (((propX k.2).1, Com20.zero), (propX k.2).2) := by rw [hXX, if_pos h2]
      have eT : tt = ([], v.2) := by rw [htt, if_neg (by omega)]
      rw [mess_two hg he hf hk h2]
      simp only [hm, eT, hv, eX, h2]
    · by_cases h3 : k.1 = 3
      · have eX : X = ((Prop20.zero, (comX k.2).1), (comX k.2).2) := by rw [hXX, if_neg h2, if_pos h3]
        have eT : tt = vecX v.2 := by rw [htt, if_pos h3]
        rw [mess_three hg he hf hk h3]
        simp only [hm, eT, hv, eX, h3]
      · have eX : X = ((Prop20.zero, Com20.zero), badX k.2) := by rw [hXX, if_neg h2, if_neg h3]
        have eT : tt = ([], v.2) := by rw [htt, if_neg h3]
        rw [mess_no hg he hf hk h2 h3]
        simp only [hm, eT, hv, eX]
  have hO : messOf b = wholeX Mess.zero (messX (.ok b)) (decide (okMsg (messX (.ok b)).1)) := rfl
  have hft : (messX (.ok b)).1.Fit := mess_fit (by show b.length ≤ 10000; omega)
  rw [hMX] at hO hft
  have he8 : e.1 < 18446744073709551616 := by rw [he]; exact numX_lt 8 _
  have hf4 : f.1 < 4294967296 := by rw [hf]; exact numX_lt 4 _
  have hk8 : k.1 < 256 := by rw [hk]; exact numX_lt 1 _
  refine vc_enterct (s := 32) 109 Tryz.func17 rfl rfl rfl Tryz.underlying55 rfl (by kernel_rfl) rfl ?_
  intro Q hret
  refine wc_seq ?_; intro K1 hK1
  refine wc_region ?_
  refine wl_ef (ef_alloc (Z := #[.slice none 0 0, .int .u64 0, .int .i64 0, .int .u8 0, .int .u8 0, .slice none 0 0, .slice none 0 0, .slice none 0 0, .slice none 0 0, .int .u8 0, .slice none 0 0, .slice none 0 0, .slice none 0 0, .slice none 0 0, .slice none 0 0, .slice none 0 0, .int .u8 0, .slice none 0 0, .slice none 0 0, .int .i64 0, .slice none 0 0, .bool false, .slice none 0 0, .slice none 0 0, .slice none 0 0, .int .u8 0, .slice none 0 0, .slice none 0 0, .slice none 0 0, .slice none 0 0, .slice none 0 0, .slice none 0 0]) (by kernel_rfl)) rfl ?_
  rintro _ wB2 ⟨gB2, rfl, B2, hgB2, ex⟩
  have lB2 := B2.lt; have zB2 := ex.size
  replace F := F.grow ex hgB2
  replace KA := KA.grow ex hgB2
  refine wl_y (y_assign rfl) rfl ?_
  refine wl_nil ?_
  refine wq_then_norm (hK1 ?_)
  refine wc_seq ?_; intro K2 hK2
  refine wc_region ?_
  refine wl_ef (ef_alloc (Z := #[.slice none 0 0, .int .u64 0, .int .i64 0, .int .u8 0, .int .u8 0, .slice none 0 0, .slice none 0 0, .slice none 0 0, .slice none 0 0, .int .u8 0, .slice none 0 0, .slice none 0 0, .slice none 0 0, .slice none 0 0, .slice none 0 0, .slice none 0 0, .int .u8 0, .slice none 0 0, .slice none 0 0, .int .i64 0, .slice none 0 0, .bool false, .slice none 0 0, .slice none 0 0, .slice none 0 0, .int .u8 0, .slice none 0 0, .slice none 0 0, .slice none 0 0, .slice none 0 0, .slice none 0 0, .slice none 0 0]) (by kernel_rfl)) rfl ?_
  rintro _ wB4 ⟨gB4, rfl, B4, hgB4, ex⟩
  have lB4 := B4.lt; have zB4 := ex.size
  have nB2_4 : gB2 < gB4 := Nat.lt_of_lt_of_le B2.lt hgB4
  replace F := F.grow ex hgB4
  replace KA := KA.grow ex hgB4
  replace B2 := B2.grow ex hgB4
  refine wl_nil ?_
  refine wq_then_norm (hK2 ?_)
  refine wc_seq ?_; intro K3 hK3
  refine wc_seq ?_; intro K4 hK4
  refine wc_region ?_
  refine wl_y (y_move rfl) rfl ?_
  refine wl_y (y_len_slice rfl Tryz.underlying22) rfl ?_
  refine wl_y (y_gtr rfl rfl) rfl ?_
  refine wl_nil ?_
  refine wq_then_norm (hK4 ?_)
  refine wc_no rfl (by omega) ?_
  refine wc_skip ?_
  refine wq_then_norm (hK3 ?_)
  refine wc_seq ?_; intro K5 hK5
  refine wc_region ?_
  refine wl_y (y_move rfl) rfl ?_
  refine wl_y (y_build rfl (cells := placeV A n c 0 0) (by kernel_rfl)) rfl ?_
  refine wl_ef (ef_alloc (Z := #[.slice none 0 0, .int .i64 0, .int .i64 0]) (by kernel_rfl)) rfl ?_
  rintro _ wB5 ⟨gB5, rfl, B5, hgB5, ex⟩
  have lB5 := B5.lt; have zB5 := ex.size
  have nB2_5 : gB2 < gB5 := Nat.lt_of_lt_of_le B2.lt hgB5
  have nB4_5 : gB4 < gB5 := Nat.lt_of_lt_of_le B4.lt hgB5
  replace F := F.grow ex hgB5
  replace KA := KA.grow ex hgB5
  replace B2 := B2.grow ex hgB5
  replace B4 := B4.grow ex hgB5
  refine wl_ef (ef_storeP (o := 0) rfl rfl (by kernel_rfl) B5 (Nat.le_of_ble_eq_true rfl) (all_ones rfl)) rfl ?_
  rintro _ wS4_3 ⟨rfl, D, cg⟩
  have ex := Chs.one cg
  clear cg
  replace F := F.chs ex
  replace KA := KA.chs ex
  replace B2 := B2.chs ex
  replace B4 := B4.chs ex
  replace B5 := D; clear D
  replace B5 := B5.congr (cs' := placeV A n c 0 0) rfl
  refine wl_nil ?_
  refine wq_then_norm (hK5 ?_)
  refine wc_seq ?_; intro K6 hK6
  refine wc_region ?_
  refine wl_y (y_loadw rfl Tryz.underlying85 rfl (by kernel_rfl) B5) rfl ?_
  refine wl_call Tryz.func54 rfl rfl rfl (pljust_any 2 1 2 1 rfl rfl _ KA.out P (by omega)) rfl ?_
  rintro e w5 ⟨cs5, rfl, P, ex⟩
  refine ⟨_, rfl, ?_⟩
  replace F := F.ext ex
  replace KA := KA.ext ex
  replace B2 := B2.ext ex
  replace B4 := B4.ext ex
  replace B5 := B5.ext ex
  obtain ⟨A5, n5, c5, t5, e5, rfl, P⟩ := P.get
  refine wl_ef (ef_storeP (o := 0) rfl rfl (by kernel_rfl) B5 (Nat.le_of_ble_eq_true rfl) (all_ones rfl)) rfl ?_
  rintro _ wS5_2 ⟨rfl, D, cg⟩
  have ex := Chs.one cg
  clear cg
  replace F := F.chs ex
  replace KA := KA.chs ex
  replace B2 := B2.chs ex
  replace B4 := B4.chs ex
  replace B5 := D; clear D
  replace B5 := B5.congr (cs' := placeV A5 n5 c5 t5 e5) rfl
  refine wl_nil ?_
  refine wq_then_norm (hK6 ?_)
  refine wc_seq ?_; intro K7 hK7
  refine wc_region ?_
  refine wl_y (y_loadw rfl Tryz.underlying85 rfl (by kernel_rfl) B5) rfl ?_
  refine wl_call Tryz.func54 rfl rfl rfl (pljust_any 2 1 2 1 rfl rfl _ KA.out P (by omega)) rfl ?_
  rintro e w6 ⟨cs6, rfl, P, ex⟩
  refine ⟨_, rfl, ?_⟩
  replace F := F.ext ex
  replace KA := KA.ext ex
  replace B2 := B2.ext ex
  replace B4 := B4.ext ex
  replace B5 := B5.ext ex
  obtain ⟨A6, n6, c6, t6, e6, rfl, P⟩ := P.get
  refine wl_ef (ef_storeP (o := 0) rfl rfl (by kernel_rfl) B5 (Nat.le_of_ble_eq_true rfl) (all_ones rfl)) rfl ?_
  rintro _ wS6_2 ⟨rfl, D, cg⟩
  have ex := Chs.one cg
  clear cg
  replace F := F.chs ex
  replace KA := KA.chs ex
  replace B2 := B2.chs ex
  replace B4 := B4.chs ex
  replace B5 := D; clear D
  replace B5 := B5.congr (cs' := placeV A6 n6 c6 t6 e6) rfl
  refine wl_nil ?_
  refine wq_then_norm (hK7 ?_)
  refine wc_seq ?_; intro K8 hK8
  refine wc_region ?_
  refine wl_y (y_loadw rfl Tryz.underlying85 rfl (by kernel_rfl) B5) rfl ?_
  refine wl_call Tryz.func55 rfl rfl rfl (plvec_any _ KA.out P) rfl ?_
  rintro e w7 ⟨h7, cs7, rfl, Sh7, lh7, mh7, uh7, P, ex⟩
  refine ⟨_, rfl, ?_⟩
  replace F := F.ext ex
  replace KA := KA.ext ex
  replace B2 := B2.ext ex
  replace B4 := B4.ext ex
  replace B5 := B5.ext ex
  rw [← hg] at P Sh7 lh7; obtain ⟨A7, n7, c7, t7, e7, rfl, P⟩ := P.get
  refine wl_y (y_move rfl) rfl ?_
  refine wl_y (y_extract rfl rfl) rfl ?_
  refine wl_y (y_extract rfl rfl) rfl ?_
  refine wl_y (y_fieldAddr (o := 0) (s := 1) (off := 0) (o' := 0) rfl Tryz.underlying55 rfl (by kernel_rfl) rfl rfl) rfl ?_
  refine wl_ef (ef_storeB (i := 0) rfl rfl rfl (by kernel_rfl) B4 (Nat.le_of_ble_eq_true rfl)) rfl ?_
  rintro _ wS7_6 ⟨rfl, D, cg⟩
  have ex := Chs.one cg
  clear cg
  replace F := F.chs ex
  replace KA := KA.chs ex
  replace B2 := B2.chs ex
  replace B5 := B5.chs ex
  replace B4 := D; clear D
  refine wl_ef (ef_storeP (o := 0) rfl rfl (by kernel_rfl) B5 (Nat.le_of_ble_eq_true rfl) (all_ones rfl)) rfl ?_
  rintro _ wS7_7 ⟨rfl, D, cg⟩
  have ex := Chs.one cg
  clear cg
  replace F := F.chs ex
  replace KA := KA.chs ex
  replace B2 := B2.chs ex
  replace B4 := B4.chs ex
  replace B5 := D; clear D
  replace B5 := B5.congr (cs' := placeV A7 n7 c7 t7 e7) rfl
  refine wl_nil ?_
  refine wq_then_norm (hK8 ?_)
  refine wc_seq ?_; intro K9 hK9
  refine wc_region ?_
  refine wl_y (y_loadw rfl Tryz.underlying85 rfl (by kernel_rfl) B5) rfl ?_
  refine wl_call Tryz.func56 rfl rfl rfl (plnum_any 8 8 rfl _ KA.out P (by omega)) rfl ?_
  rintro e w8 ⟨cs8, rfl, P, ex⟩
  refine ⟨_, rfl, ?_⟩
  replace F := F.ext ex
  replace KA := KA.ext ex
  replace B2 := B2.ext ex
  replace B4 := B4.ext ex
  replace B5 := B5.ext ex
  rw [← he] at P ⊢; obtain ⟨A8, n8, c8, t8, e8, rfl, P⟩ := P.get
  refine wl_y (y_move rfl) rfl ?_
  refine wl_y (y_extract rfl rfl) rfl ?_
  refine wl_y (y_extract rfl rfl) rfl ?_
  refine wl_y (y_fieldAddr (o := 1) (s := 1) (off := 0) (o' := 1) rfl Tryz.underlying55 rfl (by kernel_rfl) rfl rfl) rfl ?_
  refine wl_ef (ef_storeB (i := 1) rfl rfl rfl (by kernel_rfl) B4 (Nat.le_of_ble_eq_true rfl)) rfl ?_
  rintro _ wS8_6 ⟨rfl, D, cg⟩
  have ex := Chs.one cg
  clear cg
  replace F := F.chs ex
  replace KA := KA.chs ex
  replace B2 := B2.chs ex
  replace B5 := B5.chs ex
  replace B4 := D; clear D
  refine wl_ef (ef_storeP (o := 0) rfl rfl (by kernel_rfl) B5 (Nat.le_of_ble_eq_true rfl) (all_ones rfl)) rfl ?_
  rintro _ wS8_7 ⟨rfl, D, cg⟩
  have ex := Chs.one cg
  clear cg
  replace F := F.chs ex
  replace KA := KA.chs ex
  replace B2 := B2.chs ex
  replace B4 := B4.chs ex
  replace B5 := D; clear D
  replace B5 := B5.congr (cs' := placeV A8 n8 c8 t8 e8) rfl
  refine wl_nil ?_
  refine wq_then_norm (hK9 ?_)
  refine wc_seq ?_; intro K10 hK10
  refine wc_region ?_
  refine wl_y (y_loadw rfl Tryz.underlying85 rfl (by kernel_rfl) B5) rfl ?_
  refine wl_call Tryz.func54 rfl rfl rfl (pljust_any 1 1 1 1 rfl rfl _ KA.out P (by omega)) rfl ?_
  rintro e w9 ⟨cs9, rfl, P, ex⟩
  refine ⟨_, rfl, ?_⟩
  replace F := F.ext ex
  replace KA := KA.ext ex
  replace B2 := B2.ext ex
  replace B4 := B4.ext ex
  replace B5 := B5.ext ex
  obtain ⟨A9, n9, c9, t9, e9, rfl, P⟩ := P.get
  refine wl_ef (ef_storeP (o := 0) rfl rfl (by kernel_rfl) B5 (Nat.le_of_ble_eq_true rfl) (all_ones rfl)) rfl ?_
  rintro _ wS9_2 ⟨rfl, D, cg⟩
  have ex := Chs.one cg
  clear cg
  replace F := F.chs ex
  replace KA := KA.chs ex
  replace B2 := B2.chs ex
  replace B4 := B4.chs ex
  replace B5 := D; clear D
  replace B5 := B5.congr (cs' := placeV A9 n9 c9 t9 e9) rfl
  refine wl_nil ?_
  refine wq_then_norm (hK10 ?_)
  refine wc_seq ?_; intro K11 hK11
  refine wc_region ?_
  refine wl_y (y_loadw rfl Tryz.underlying85 rfl (by kernel_rfl) B5) rfl ?_
  refine wl_call Tryz.func56 rfl rfl rfl (plnum_any 4 4 rfl _ KA.out P (by omega)) rfl ?_
  rintro e w10 ⟨cs10, rfl, P, ex⟩
  refine ⟨_, rfl, ?_⟩
  replace F := F.ext ex
  replace KA := KA.ext ex
  replace B2 := B2.ext ex
  replace B4 := B4.ext ex
  replace B5 := B5.ext ex
  rw [← hf] at P ⊢; obtain ⟨A10, n10, c10, t10, e10, rfl, P⟩ := P.get
  refine wl_y (y_move rfl) rfl ?_
  refine wl_y (y_extract rfl rfl) rfl ?_
  refine wl_y (y_extract rfl rfl) rfl ?_
  refine wl_y (y_assign rfl) rfl ?_
  refine wl_ef (ef_storeP (o := 0) rfl rfl (by kernel_rfl) B5 (Nat.le_of_ble_eq_true rfl) (all_ones rfl)) rfl ?_
  rintro _ wS10_6 ⟨rfl, D, cg⟩
  have ex := Chs.one cg
  clear cg
  replace F := F.chs ex
  replace KA := KA.chs ex
  replace B2 := B2.chs ex
  replace B4 := B4.chs ex
  replace B5 := D; clear D
  replace B5 := B5.congr (cs' := placeV A10 n10 c10 t10 e10) rfl
  refine wl_nil ?_
  refine wq_then_norm (hK11 ?_)
  refine wc_seq ?_; intro K12 hK12
  refine wc_region ?_
  refine wl_y (y_move rfl) rfl ?_
  refine wl_y (y_conv rfl Tryz.underlying53 Tryz.underlying3 (i64_ok (by omega) (by omega))) rfl ?_
  refine wl_y (y_fieldAddr (o := 2) (s := 1) (off := 0) (o' := 2) rfl Tryz.underlying55 rfl (by kernel_rfl) rfl rfl) rfl ?_
  refine wl_ef (ef_storeB (i := 2) rfl rfl rfl (by kernel_rfl) B4 (Nat.le_of_ble_eq_true rfl)) rfl ?_
  rintro _ wS11_3 ⟨rfl, D, cg⟩
  have ex := Chs.one cg
  clear cg
  replace F := F.chs ex
  replace KA := KA.chs ex
  replace B2 := B2.chs ex
  replace B5 := B5.chs ex
  replace B4 := D; clear D
  refine wl_nil ?_
  refine wq_then_norm (hK12 ?_)
  refine wc_seq ?_; intro K13 hK13
  refine wc_region ?_
  refine wl_y (y_loadw rfl Tryz.underlying85 rfl (by kernel_rfl) B5) rfl ?_
  refine wl_call Tryz.func56 rfl rfl rfl (plnum_any 1 1 rfl _ KA.out P (by omega)) rfl ?_
  rintro e w12 ⟨cs12, rfl, P, ex⟩
  refine ⟨_, rfl, ?_⟩
  replace F := F.ext ex
  replace KA := KA.ext ex
  replace B2 := B2.ext ex
  replace B4 := B4.ext ex
  replace B5 := B5.ext ex
  rw [← hk] at P ⊢; obtain ⟨A12, n12, c12, t12, e12, rfl, P⟩ := P.get
  refine wl_y (y_move rfl) rfl ?_
  refine wl_y (y_extract rfl rfl) rfl ?_
  refine wl_y (y_extract rfl rfl) rfl ?_
  refine wl_y (y_assign rfl) rfl ?_
  refine wl_ef (ef_storeP (o := 0) rfl rfl (by kernel_rfl) B5 (Nat.le_of_ble_eq_true rfl) (all_ones rfl)) rfl ?_
  rintro _ wS12_6 ⟨rfl, D, cg⟩
  have ex := Chs.one cg
  clear cg
  replace F := F.chs ex
  replace KA := KA.chs ex
  replace B2 := B2.chs ex
  replace B4 := B4.chs ex
  replace B5 := D; clear D
  replace B5 := B5.congr (cs' := placeV A12 n12 c12 t12 e12) rfl
  refine wl_nil ?_
  refine wq_then_norm (hK13 ?_)
  refine wc_seq ?_; intro K14 hK14
  refine wc_region ?_
  refine wl_y (y_move rfl) rfl ?_
  refine wl_y (y_conv rfl Tryz.underlying53 Tryz.underlying5 (show IntKind.u8.wrap ((k.1 : Nat) : Int) = ((k.1 : Nat) : Int) from IntWalk.u8_in _ ⟨by omega, by omega⟩)) rfl ?_
  refine wl_y (y_fieldAddr (o := 3) (s := 1) (off := 0) (o' := 3) rfl Tryz.underlying55 rfl (by kernel_rfl) rfl rfl) rfl ?_
  refine wl_ef (ef_storeB (i := 3) rfl rfl rfl (by kernel_rfl) B4 (Nat.le_of_ble_eq_true rfl)) rfl ?_
  rintro _ wS13_3 ⟨rfl, D, cg⟩
  have ex := Chs.one cg
  clear cg
  replace F := F.chs ex
  replace KA := KA.chs ex
  replace B2 := B2.chs ex
  replace B5 := B5.chs ex
  replace B4 := D; clear D
  refine wl_nil ?_
  refine wq_then_norm (hK14 ?_)
  refine wc_seq ?_; intro K15 hK15
  refine wc_seq ?_; intro K16 hK16
  replace B4 := B4.congr (cs' := msgV h7 e.1 (f.1 : Int) k.1 0 nilH nilH nilH nilH 0 nilH nilH nilH nilH nilH nilH 0 nilH nilH 0 nilH false nilH nilH nilH 0 nilH nilH nilH nilH nilH nilH) rfl
  replace B2 := B2.congr (cs' := zMsgV) rfl
  refine wc_region ?_
  refine wl_y (y_fieldAddr (o := 2) (s := 1) (off := 0) (o' := 2) rfl Tryz.underlying85 rfl (by kernel_rfl) rfl rfl) rfl ?_
  refine wl_y (y_load1 rfl Tryz.underlying3 rfl (B5.get (i := 2) rfl)) rfl ?_
  refine wl_yask (y_eql rfl rfl) rfl (fun z14 => ?_) (fun z14 => ?_)
  · skip
    refine wl_y (y_move rfl) rfl ?_
    refine wl_gy 51 rfl rfl (y_move rfl) rfl ?_
    refine wl_gy 51 rfl rfl (y_eql rfl rfl) rfl ?_
    refine wl_y (y_pickt rfl rfl) rfl ?_
    refine wl_nil ?_
    refine wq_then_norm (hK16 ?_)
    refine wc_join (fun L wj2 => ∃ (Nc : Nat) (i i0 i1 i2 : Hd) (js : Nat) (i4 i5 ig l0 l1 l2 : Hd) (lt : Nat) (l4 l5 it d0 d1 d2 : Hd) (dq : Nat) (d4 d5 dt : Hd) (pa : Option Addr) (pn pc pt pe : Nat), L = [(2, .pointer (some ⟨gB2, 0, none⟩)), (4, .pointer (some ⟨gB4, 0, none⟩)), (5, .pointer (some ⟨gB5, 0, none⟩)), (6, .int .u64 ((k.1 : Nat) : Int))] ∧ (Chs [gB5, gB4, gB2] w wj2 ∧ Kp w.heap.size [gB5, gB4, gB2] (fun w => Bs w A n b) wj2 ∧ Blk wj2 gB2 55 zMsgV ∧ Blk wj2 gB4 55 (msgV h7 e.1 (f.1 : Int) k.1 X.1.1.kind i i0 i1 i2 js i4 i5 ig l0 l1 l2 lt l4 l5 X.1.1.at_ it X.1.2.has d0 d1 d2 dq d4 d5 dt nilH nilH nilH) ∧ Blk wj2 gB5 85 (placeV pa pn pc pt pe) ∧ Kp Nc [gB5, gB4, gB2] (fun w' => ComR w.heap.size A n b w' (comV it X.1.2.has d0 d1 d2 dq d4 d5 dt) X.1.2) wj2 ∧ PlS A n b (placeV pa pn pc pt pe) X.2 ∧ PropS A n b (propV X.1.1.kind i i0 i1 i2 js i4 i5 ig l0 l1 l2 lt l4 l5 X.1.1.at_) X.1.1)) ?_ ?_
    · skip
      refine wc_dec rfl (fun hc2 => ?_) (fun hc2 => ?_)
      · skip
        refine wc_region ?_
        refine wl_y (y_loadw rfl Tryz.underlying85 rfl (by kernel_rfl) B5) rfl ?_
        refine wl_call Tryz.func45 rfl rfl rfl (plprop_any _ KA.out P) rfl ?_
        rintro e w15 ⟨cl, cs15, rfl, HL, P, ex⟩
        refine ⟨_, rfl, ?_⟩
        replace F := F.ext ex
        replace KA := KA.ext ex
        replace B2 := B2.ext ex
        replace B4 := B4.ext ex
        replace B5 := B5.ext ex
        have HP := HL; obtain ⟨i, i0, i1, i2, i4, i5, ig, l0, l1, l2, l4, l5, rfl, _⟩ := HL; obtain ⟨A15, n15, c15, t15, e15, rfl, P⟩ := P.get
        refine wl_y (y_move rfl) rfl ?_
        refine wl_y (y_extract rfl rfl) rfl ?_
        refine wl_y (y_extract rfl rfl) rfl ?_
        refine wl_y (y_fieldAddr (o := 4) (s := 16) (off := 0) (o' := 4) rfl Tryz.underlying55 rfl (by kernel_rfl) rfl rfl) rfl ?_
        refine wl_ef (ef_storeP (o := 4) rfl rfl (by kernel_rfl) B4 (Nat.le_of_ble_eq_true rfl) (all_ones rfl)) rfl ?_
        rintro _ wS15_6 ⟨rfl, D, cg⟩
        have ex := Chs.one cg
        clear cg
        replace F := F.chs ex
        replace KA := KA.chs ex
        replace B2 := B2.chs ex
        replace B5 := B5.chs ex
        replace B4 := D; clear D
        replace B4 := B4.congr (cs' := msgV h7 e.1 (f.1 : Int) k.1 (propX k.2).1.kind i i0 i1 i2 (propX k.2).1.pack.leaf.src i4 i5 ig l0 l1 l2 (propX k.2).1.leaf.src l4 l5 (propX k.2).1.at_ nilH false nilH nilH nilH 0 nilH nilH nilH nilH nilH nilH) rfl
        refine wl_ef (ef_storeP (o := 0) rfl rfl (by kernel_rfl) B5 (Nat.le_of_ble_eq_true rfl) (all_ones rfl)) rfl ?_
        rintro _ wS15_7 ⟨rfl, D, cg⟩
        have ex := Chs.one cg
        clear cg
        replace F := F.chs ex
        replace KA := KA.chs ex
        replace B2 := B2.chs ex
        replace B4 := B4.chs ex
        replace B5 := D; clear D
        replace B5 := B5.congr (cs' := placeV A15 n15 c15 t15 e15) rfl
        refine wl_nil ?_
        have eX : X = (((propX k.2).1, Com20.zero), (propX k.2).2) := by rw [hXX, if_pos (by omega)]
        rw [eX]
        exact wq_join _ ⟨0, i, i0, i1, i2, _, i4, i5, ig, l0, l1, l2, _, l4, l5, nilH, nilH, nilH, nilH, 0, nilH, nilH, nilH, A15, n15, c15, t15, e15, rfl, F, KA, B2, B4, B5, ⟨Nat.zero_le _, fun _ _ => ComR.zero _ _ _ _ _⟩, P, HP⟩ ⟨rfl, rfl, rfl, (by first | rfl | exact congrArg some (int_val (by omega))), trivial⟩
      · skip
        refine wc_seq ?_; intro K17 hK17
        refine wc_region ?_
        refine wl_y (y_fieldAddr (o := 2) (s := 1) (off := 0) (o' := 2) rfl Tryz.underlying85 rfl (by kernel_rfl) rfl rfl) rfl ?_
        refine wl_y (y_load1 rfl Tryz.underlying3 rfl (B5.get (i := 2) rfl)) rfl ?_
        refine wl_y (Y.as (y_eql rfl rfl) (congrArg Value.bool (decide_eq_true (by omega)))) rfl ?_
        refine wl_y (y_move rfl) rfl ?_
        refine wl_gy 64 rfl rfl (y_move rfl) rfl ?_
        refine wl_gy 64 rfl rfl (y_eql rfl rfl) rfl ?_
        refine wl_y (y_pickt rfl rfl) rfl ?_
        refine wl_nil ?_
        refine wq_then_norm (hK17 ?_)
        refine wc_dec rfl (fun hc3 => ?_) (fun hc3 => ?_)
        · skip
          refine wc_region ?_
          refine wl_y (y_loadw rfl Tryz.underlying85 rfl (by kernel_rfl) B5) rfl ?_
          have q2 := B2.lt; have q4 := B4.lt; have q5 := B5.lt; have qF := F.size
          refine wl_call Tryz.func47 rfl rfl rfl (plcommit_any _ KA.out P) rfl ?_
          rintro e w17 ⟨cl, cs17, rfl, HL, P, ex⟩
          refine ⟨_, rfl, ?_⟩
          replace F := F.ext ex
          replace KA := KA.ext ex
          replace B2 := B2.ext ex
          replace B4 := B4.ext ex
          replace B5 := B5.ext ex
          have KC := HL.kk (S := [gB5, gB4, gB2]) (by simp; omega); obtain ⟨it, d0, d1, d2, dq, d4, d5, dt, rfl, _⟩ := HL; obtain ⟨A15, n15, c15, t15, e15, rfl, P⟩ := P.get
          refine wl_y (y_move rfl) rfl ?_
          refine wl_y (y_extract rfl rfl) rfl ?_
          refine wl_y (y_extract rfl rfl) rfl ?_
          refine wl_y (y_fieldAddr (o := 20) (s := 9) (off := 0) (o' := 20) rfl Tryz.underlying55 rfl (by kernel_rfl) rfl rfl) rfl ?_
          refine wl_ef (ef_storeP (o := 20) rfl rfl (by kernel_rfl) B4 (Nat.le_of_ble_eq_true rfl) (all_ones rfl)) rfl ?_
          rintro _ wS17_6 ⟨rfl, D, cg⟩
          have ex := Chs.one cg
          clear cg
          replace F := F.chs ex
          replace KA := KA.chs ex
          replace B2 := B2.chs ex
          replace B5 := B5.chs ex
          replace KC := KC.chs ex
          replace B4 := D; clear D
          replace B4 := B4.congr (cs' := msgV h7 e.1 (f.1 : Int) k.1 0 nilH nilH nilH nilH 0 nilH nilH nilH nilH nilH nilH 0 nilH nilH 0 it (comX k.2).1.has d0 d1 d2 dq d4 d5 dt nilH nilH nilH) rfl
          refine wl_ef (ef_storeP (o := 0) rfl rfl (by kernel_rfl) B5 (Nat.le_of_ble_eq_true rfl) (all_ones rfl)) rfl ?_
          rintro _ wS17_7 ⟨rfl, D, cg⟩
          have ex := Chs.one cg
          clear cg
          replace F := F.chs ex
          replace KA := KA.chs ex
          replace B2 := B2.chs ex
          replace B4 := B4.chs ex
          replace KC := KC.chs ex
          replace B5 := D; clear D
          replace B5 := B5.congr (cs' := placeV A15 n15 c15 t15 e15) rfl
          refine wl_nil ?_
          have eX : X = ((Prop20.zero, (comX k.2).1), (comX k.2).2) := by rw [hXX, if_neg (by omega), if_pos (by omega)]
          rw [eX]
          exact wq_join _ ⟨_, nilH, nilH, nilH, nilH, 0, nilH, nilH, nilH, nilH, nilH, nilH, 0, nilH, nilH, it, d0, d1, d2, dq, d4, d5, dt, A15, n15, c15, t15, e15, rfl, F, KA, B2, B4, B5, KC.map (fun _ h => h.mono (by omega)), P, PropS.zero⟩ ⟨rfl, rfl, rfl, (by first | rfl | exact congrArg some (int_val (by omega))), trivial⟩
        · skip
          refine wc_seq ?_; intro K18 hK18
          refine wc_region ?_
          refine wl_y (y_fieldAddr (o := 2) (s := 1) (off := 0) (o' := 2) rfl Tryz.underlying85 rfl (by kernel_rfl) rfl rfl) rfl ?_
          refine wl_y (y_load1 rfl Tryz.underlying3 rfl (B5.get (i := 2) rfl)) rfl ?_
          refine wl_y (Y.as (y_eql rfl rfl) (congrArg Value.bool (decide_eq_true (by omega)))) rfl ?_
          refine wl_nil ?_
          refine wq_then_norm (hK18 ?_)
          refine wc_true rfl rfl ?_
          refine wc_region ?_
          refine wl_y (y_fieldAddr (o := 2) (s := 1) (off := 0) (o' := 2) rfl Tryz.underlying85 rfl (by kernel_rfl) rfl rfl) rfl ?_
          refine wl_ef (ef_storeB (i := 2) rfl rfl rfl (by kernel_rfl) B5 (Nat.le_of_ble_eq_true rfl)) rfl ?_
          rintro _ wS19_1 ⟨rfl, D, cg⟩
          have ex := Chs.one cg
          clear cg
          replace F := F.chs ex
          replace KA := KA.chs ex
          replace B2 := B2.chs ex
          replace B4 := B4.chs ex
          replace B5 := D; clear D
          replace B5 := B5.congr (placeV_set (e' := 3) rfl)
          refine wl_nil ?_
          have eX : X = ((Prop20.zero, Com20.zero), badX k.2) := by rw [hXX, if_neg (by omega), if_neg (by omega)]
          obtain ⟨r, hr⟩ : ∃ r, k.2 = .ok r := by
            rcases P.err with ⟨_, h⟩ | ⟨h, _⟩
            · exact h
            · exact absurd h (by omega)
          have PX : PlS A n b (placeV A12 n12 c12 t12 3) (badX k.2) := by rw [hr]; exact P.seterr (by omega) (by omega)
          rw [eX]
          exact wq_join _ ⟨0, nilH, nilH, nilH, nilH, 0, nilH, nilH, nilH, nilH, nilH, nilH, 0, nilH, nilH, nilH, nilH, nilH, nilH, 0, nilH, nilH, nilH, A12, n12, c12, t12, 3, rfl, F, KA, B2, B4, B5, ⟨Nat.zero_le _, fun _ _ => ComR.zero _ _ _ _ _⟩, PX, PropS.zero⟩ ⟨rfl, rfl, rfl, (by first | rfl | exact congrArg some (int_val (by omega))), trivial⟩
    rintro L wj2 ⟨Nc, i, i0, i1, i2, js, i4, i5, ig, l0, l1, l2, lt, l4, l5, it, d0, d1, d2, dq, d4, d5, dt, pa, pn, pc, pt, pe, rfl, F, KA, B2, B4, B5, KC, P, HP⟩
    refine wq_then_norm (hK15 ?_)
    refine wc_seq ?_; intro K19 hK19
    refine wc_region ?_
    refine wl_y (y_loadw rfl Tryz.underlying85 rfl (by kernel_rfl) B5) rfl ?_
    refine wl_call Tryz.func55 rfl rfl rfl (plvec_any _ KA.out P) rfl ?_
    rintro e w20 ⟨h20, cs20, rfl, Sh20, lh20, mh20, uh20, P, ex⟩
    refine ⟨_, rfl, ?_⟩
    replace F := F.ext ex
    replace KA := KA.ext ex
    replace B2 := B2.ext ex
    replace B4 := B4.ext ex
    replace B5 := B5.ext ex
    replace KC := KC.ext ex
    rw [← hv] at P Sh20 lh20; obtain ⟨A20, n20, c20, t20, e20, rfl, P⟩ := P.get
    refine wl_y (y_move rfl) rfl ?_
    refine wl_y (y_extract rfl rfl) rfl ?_
    refine wl_y (y_extract rfl rfl) rfl ?_
    refine wl_y (y_fieldAddr (o := 29) (s := 1) (off := 0) (o' := 29) rfl Tryz.underlying55 rfl (by kernel_rfl) rfl rfl) rfl ?_
    refine wl_ef (ef_storeB (i := 29) rfl rfl rfl (by kernel_rfl) B4 (Nat.le_of_ble_eq_true rfl)) rfl ?_
    rintro _ wS20_6 ⟨rfl, D, cg⟩
    have ex := Chs.one cg
    clear cg
    replace F := F.chs ex
    replace KA := KA.chs ex
    replace B2 := B2.chs ex
    replace B5 := B5.chs ex
    replace KC := KC.chs ex
    replace B4 := D; clear D
    replace B4 := B4.congr (cs' := msgV h7 e.1 (f.1 : Int) k.1 X.1.1.kind i i0 i1 i2 js i4 i5 ig l0 l1 l2 lt l4 l5 X.1.1.at_ it X.1.2.has d0 d1 d2 dq d4 d5 dt h20 nilH nilH) rfl
    refine wl_ef (ef_storeP (o := 0) rfl rfl (by kernel_rfl) B5 (Nat.le_of_ble_eq_true rfl) (all_ones rfl)) rfl ?_
    rintro _ wS20_7 ⟨rfl, D, cg⟩
    have ex := Chs.one cg
    clear cg
    replace F := F.chs ex
    replace KA := KA.chs ex
    replace B2 := B2.chs ex
    replace B4 := B4.chs ex
    replace KC := KC.chs ex
    replace B5 := D; clear D
    replace B5 := B5.congr (cs' := placeV A20 n20 c20 t20 e20) rfl
    refine wl_nil ?_
    refine wq_then_norm (hK19 ?_)
    refine wc_seq ?_; intro K20 hK20
    refine wc_seq ?_; intro K21 hK21
    refine wc_region ?_
    refine wl_y (y_move rfl) rfl ?_
    refine wl_y (y_eql rfl rfl) rfl ?_
    refine wl_nil ?_
    refine wq_then_norm (hK21 ?_)
    refine wc_join (fun L wj5 => ∃ (th : Hd) (pa : Option Addr) (pn pc pt pe : Nat), L = [(2, .pointer (some ⟨gB2, 0, none⟩)), (4, .pointer (some ⟨gB4, 0, none⟩)), (5, .pointer (some ⟨gB5, 0, none⟩))] ∧ (Chs [gB5, gB4, gB2] w wj5 ∧ Kp w.heap.size [gB5, gB4, gB2] (fun w => Bs w A n b) wj5 ∧ Blk wj5 gB2 55 zMsgV ∧ Blk wj5 gB4 55 (msgV h7 e.1 (f.1 : Int) k.1 X.1.1.kind i i0 i1 i2 js i4 i5 ig l0 l1 l2 lt l4 l5 X.1.1.at_ it X.1.2.has d0 d1 d2 dq d4 d5 dt h20 th nilH) ∧ Blk wj5 gB5 85 (placeV pa pn pc pt pe) ∧ Kp Nc [gB5, gB4, gB2] (fun w' => ComR w.heap.size A n b w' (comV it X.1.2.has d0 d1 d2 dq d4 d5 dt) X.1.2) wj5 ∧ PlS A n b (placeV pa pn pc pt pe) tt.2 ∧ Sub A n b th.A th.n tt.1)) ?_ ?_
    · skip
      refine wc_dec rfl (fun hc5 => ?_) (fun hc5 => ?_)
      · skip
        refine wc_region ?_
        refine wl_y (y_loadw rfl Tryz.underlying85 rfl (by kernel_rfl) B5) rfl ?_
        refine wl_call Tryz.func55 rfl rfl rfl (plvec_any _ KA.out P) rfl ?_
        rintro e w22 ⟨h22, cs22, rfl, Sh22, lh22, mh22, uh22, P, ex⟩
        refine ⟨_, rfl, ?_⟩
        replace F := F.ext ex
        replace KA := KA.ext ex
        replace B2 := B2.ext ex
        replace B4 := B4.ext ex
        replace B5 := B5.ext ex
        replace KC := KC.ext ex
        obtain ⟨A22, n22, c22, t22, e22, rfl, P⟩ := P.get
        refine wl_y (y_move rfl) rfl ?_
        refine wl_y (y_extract rfl rfl) rfl ?_
        refine wl_y (y_extract rfl rfl) rfl ?_
        refine wl_y (y_fieldAddr (o := 30) (s := 1) (off := 0) (o' := 30) rfl Tryz.underlying55 rfl (by kernel_rfl) rfl rfl) rfl ?_
        refine wl_ef (ef_storeB (i := 30) rfl rfl rfl (by kernel_rfl) B4 (Nat.le_of_ble_eq_true rfl)) rfl ?_
        rintro _ wS22_6 ⟨rfl, D, cg⟩
        have ex := Chs.one cg
        clear cg
        replace F := F.chs ex
        replace KA := KA.chs ex
        replace B2 := B2.chs ex
        replace B5 := B5.chs ex
        replace KC := KC.chs ex
        replace B4 := D; clear D
        replace B4 := B4.congr (cs' := msgV h7 e.1 (f.1 : Int) k.1 X.1.1.kind i i0 i1 i2 js i4 i5 ig l0 l1 l2 lt l4 l5 X.1.1.at_ it X.1.2.has d0 d1 d2 dq d4 d5 dt h20 h22 nilH) rfl
        refine wl_ef (ef_storeP (o := 0) rfl rfl (by kernel_rfl) B5 (Nat.le_of_ble_eq_true rfl) (all_ones rfl)) rfl ?_
        rintro _ wS22_7 ⟨rfl, D, cg⟩
        have ex := Chs.one cg
        clear cg
        replace F := F.chs ex
        replace KA := KA.chs ex
        replace B2 := B2.chs ex
        replace B4 := B4.chs ex
        replace KC := KC.chs ex
        replace B5 := D; clear D
        replace B5 := B5.congr (cs' := placeV A22 n22 c22 t22 e22) rfl
        refine wl_nil ?_
        have eT : tt = vecX v.2 := by rw [htt, if_pos (by omega)]
        rw [eT]
        exact wq_join _ ⟨h22, A22, n22, c22, t22, e22, rfl, F, KA, B2, B4, B5, KC, P, Sh22⟩ ⟨rfl, rfl, rfl, trivial⟩
      · skip
        refine wc_skip ?_
        have eT : tt = ([], v.2) := by rw [htt, if_neg (by omega)]
        rw [eT]
        exact wq_join _ ⟨nilH, A20, n20, c20, t20, e20, rfl, F, KA, B2, B4, B5, KC, P, Sub.nil _ _ _⟩ ⟨rfl, rfl, rfl, trivial⟩
    rintro L wj5 ⟨th, pa, pn, pc, pt, pe, rfl, F, KA, B2, B4, B5, KC, P, Sth⟩
    refine wq_then_norm (hK20 ?_)
    refine wc_seq ?_; intro K22 hK22
    refine wc_region ?_
    refine wl_y (y_loadw rfl Tryz.underlying85 rfl (by kernel_rfl) B5) rfl ?_
    refine wl_call Tryz.func55 rfl rfl rfl (plvec_any _ KA.out P) rfl ?_
    rintro e w23 ⟨h23, cs23, rfl, Sh23, lh23, mh23, uh23, P, ex⟩
    refine ⟨_, rfl, ?_⟩
    replace F := F.ext ex
    replace KA := KA.ext ex
    replace B2 := B2.ext ex
    replace B4 := B4.ext ex
    replace B5 := B5.ext ex
    replace KC := KC.ext ex
    rw [← hm] at P Sh23 lh23; obtain ⟨A23, n23, c23, t23, e23, rfl, P⟩ := P.get
    refine wl_y (y_move rfl) rfl ?_
    refine wl_y (y_extract rfl rfl) rfl ?_
    refine wl_y (y_extract rfl rfl) rfl ?_
    refine wl_y (y_fieldAddr (o := 31) (s := 1) (off := 0) (o' := 31) rfl Tryz.underlying55 rfl (by kernel_rfl) rfl rfl) rfl ?_
    refine wl_ef (ef_storeB (i := 31) rfl rfl rfl (by kernel_rfl) B4 (Nat.le_of_ble_eq_true rfl)) rfl ?_
    rintro _ wS23_6 ⟨rfl, D, cg⟩
    have ex := Chs.one cg
    clear cg
    replace F := F.chs ex
    replace KA := KA.chs ex
    replace B2 := B2.chs ex
    replace B5 := B5.chs ex
    replace KC := KC.chs ex
    replace B4 := D; clear D
    replace B4 := B4.congr (cs' := msgV h7 e.1 (f.1 : Int) k.1 X.1.1.kind i i0 i1 i2 js i4 i5 ig l0 l1 l2 lt l4 l5 X.1.1.at_ it X.1.2.has d0 d1 d2 dq d4 d5 dt h20 th h23) rfl
    refine wl_ef (ef_storeP (o := 0) rfl rfl (by kernel_rfl) B5 (Nat.le_of_ble_eq_true rfl) (all_ones rfl)) rfl ?_
    rintro _ wS23_7 ⟨rfl, D, cg⟩
    have ex := Chs.one cg
    clear cg
    replace F := F.chs ex
    replace KA := KA.chs ex
    replace B2 := B2.chs ex
    replace B4 := B4.chs ex
    replace KC := KC.chs ex
    replace B5 := D; clear D
    replace B5 := B5.congr (cs' := placeV A23 n23 c23 t23 e23) rfl
    refine wl_nil ?_
    refine wq_then_norm (hK22 ?_)
    refine wc_seq ?_; intro K23 hK23
    refine wc_seq ?_; intro K24 hK24
    refine wc_region ?_
    refine wl_y (y_loadw rfl Tryz.underlying85 rfl (by kernel_rfl) B5) rfl ?_
    refine wl_call Tryz.func43 rfl rfl rfl (plend_any _ P) rfl ?_
    rintro e w24 ⟨rfl, ex⟩
    refine ⟨_, rfl, ?_⟩
    replace F := F.ext ex
    replace KA := KA.ext ex
    replace B2 := B2.ext ex
    replace B4 := B4.ext ex
    replace B5 := B5.ext ex
    replace KC := KC.ext ex
    have MS : ∀ w2, ComR w.heap.size A n b w2 (comV it X.1.2.has d0 d1 d2 dq d4 d5 dt) X.1.2 → MsgR w.heap.size A n b w2 (msgV h7 e.1 (f.1 : Int) k.1 X.1.1.kind i i0 i1 i2 js i4 i5 ig l0 l1 l2 lt l4 l5 X.1.1.at_ it X.1.2.has d0 d1 d2 dq d4 d5 dt h20 th h23) ⟨g.1, e.1, (f.1 : Int), k.1, X.1.1, X.1.2, v.1, tt.1, m.1⟩ := fun w2 h => ⟨_, _, _, _, _, _, _, _, _, _, _, _, _, _, _, _, _, _, _, _, _, _, _, _, _, _, rfl, he8, hk8, (by show (-9223372036854775808 : Int) ≤ (f.1 : Int) ∧ (f.1 : Int) ≤ 9223372036854775807; omega), Sh7, HP, h, Sh20, Sth, Sh23⟩
    refine wl_y (y_assign rfl) rfl ?_
    refine wl_nil ?_
    refine wq_then_norm (hK24 ?_)
    refine wc_seq ?_; intro K25 hK25
    refine wc_region ?_
    refine wl_y (y_move rfl) rfl ?_
    refine wl_y (y_neq rfl rfl) rfl ?_
    refine wl_nil ?_
    refine wq_then_norm (hK25 ?_)
    refine wc_dec rfl (fun hc6 => ?_) (fun hc6 => ?_)
    · skip
      refine wc_seq ?_; intro K26 hK26
      refine wc_region ?_
      refine wl_y (y_build rfl (cells := zMsgV) (by kernel_rfl)) rfl ?_
      refine wl_y (y_move rfl) rfl ?_
      refine wl_ef (ef_storeP (o := 0) rfl rfl (by kernel_rfl) B2 (Nat.le_of_ble_eq_true rfl) (all_ones rfl)) rfl ?_
      rintro _ wS26_2 ⟨rfl, D, cg⟩
      have ex := Chs.one cg
      clear cg
      replace F := F.chs ex
      replace KA := KA.chs ex
      replace B4 := B4.chs ex
      replace B5 := B5.chs ex
      replace KC := KC.chs ex
      replace B2 := D; clear D
      replace B2 := B2.congr (cs' := zMsgV) rfl
      refine wl_y (y_assign rfl) rfl ?_
      refine wl_nil ?_
      refine wq_then_norm (hK26 ?_)
      refine wc_ret ?_
      refine wq_then_ret ?_
      refine hret rfl rfl B2 rfl ?_
      rw [hO]; unfold wholeX; rw [if_pos (show endX m.2 ≠ 0 by omega)]; exact ⟨_, rfl, MsgR.zero _ _ _ _ _, ((F.drop (by omega)).drop (by omega)).drop (by omega) |>.toExt (by simp)⟩
    · skip
      refine wc_skip ?_
      refine wq_then_norm (hK23 ?_)
      refine wc_seq ?_; intro K27 hK27
      refine wc_seq ?_; intro K28 hK28
      refine wc_region ?_
      refine wl_y (y_loadw rfl Tryz.underlying55 rfl (by kernel_rfl) B4) rfl ?_
      refine wl_call Tryz.func57 rfl rfl rfl (rRight_any _ ((MS _ KC.out).at KA.out) hft) rfl ?_
      rintro e w27 ⟨rfl, ex⟩
      refine ⟨_, rfl, ?_⟩
      replace F := F.ext ex
      replace KA := KA.ext ex
      replace B2 := B2.ext ex
      replace B4 := B4.ext ex
      replace B5 := B5.ext ex
      replace KC := KC.ext ex
      skip
      refine wl_y (y_not rfl) rfl ?_
      refine wl_nil ?_
      refine wq_then_norm (hK28 ?_)
      refine wc_cond rfl (fun hc7 => ?_) (fun hc7 => ?_)
      · skip
        refine wc_seq ?_; intro K29 hK29
        refine wc_region ?_
        refine wl_y (y_build rfl (cells := zMsgV) (by kernel_rfl)) rfl ?_
        refine wl_ef (ef_storeP (o := 0) rfl rfl (by kernel_rfl) B2 (Nat.le_of_ble_eq_true rfl) (all_ones rfl)) rfl ?_
        rintro _ wS28_1 ⟨rfl, D, cg⟩
        have ex := Chs.one cg
        clear cg
        replace F := F.chs ex
        replace KA := KA.chs ex
        replace B4 := B4.chs ex
        replace B5 := B5.chs ex
        replace KC := KC.chs ex
        replace B2 := D; clear D
        replace B2 := B2.congr (cs' := zMsgV) rfl
        refine wl_y (y_assign rfl) rfl ?_
        refine wl_nil ?_
        refine wq_then_norm (hK29 ?_)
        refine wc_ret ?_
        refine wq_then_ret ?_
        refine hret rfl rfl B2 rfl ?_
        rw [hO]; unfold wholeX; rw [if_neg (show ¬ endX m.2 ≠ 0 by omega), if_neg (by simpa using hc7)]; exact ⟨_, rfl, MsgR.zero _ _ _ _ _, ((F.drop (by omega)).drop (by omega)).drop (by omega) |>.toExt (by simp)⟩
      · skip
        refine wc_skip ?_
        refine wq_then_norm (hK27 ?_)
        refine wc_seq ?_; intro K30 hK30
        refine wc_region ?_
        refine wl_y (y_loadw rfl Tryz.underlying55 rfl (by kernel_rfl) B4) rfl ?_
        refine wl_ef (ef_storeP (o := 0) rfl rfl (by kernel_rfl) B2 (Nat.le_of_ble_eq_true rfl) (all_ones rfl)) rfl ?_
        rintro _ wS29_1 ⟨rfl, D, cg⟩
        have ex := Chs.one cg
        clear cg
        replace F := F.chs ex
        replace KA := KA.chs ex
        replace B4 := B4.chs ex
        replace B5 := B5.chs ex
        replace KC := KC.chs ex
        replace B2 := D; clear D
        replace B2 := B2.congr (cs' := msgV h7 e.1 (f.1 : Int) k.1 X.1.1.kind i i0 i1 i2 js i4 i5 ig l0 l1 l2 lt l4 l5 X.1.1.at_ it X.1.2.has d0 d1 d2 dq d4 d5 dt h20 th h23) rfl
        refine wl_y (y_assign rfl) rfl ?_
        refine wl_nil ?_
        refine wq_then_norm (hK30 ?_)
        refine wc_ret ?_
        refine hret rfl rfl B2 rfl ?_
        rw [hO]; unfold wholeX; rw [if_neg (show ¬ endX m.2 ≠ 0 by omega), if_pos (by simpa using hc7)]; exact ⟨_, rfl, MS _ KC.out, ((F.drop (by omega)).drop (by omega)).drop (by omega) |>.toExt (by simp)⟩
  · skip
    refine wl_y (y_move rfl) rfl ?_
    refine wl_gno 51 rfl rfl rfl rfl ?_
    refine wl_gno 51 rfl rfl rfl rfl ?_
    refine wl_y (y_pickf rfl rfl) rfl ?_
    refine wl_nil ?_
    refine wq_then_norm (hK16 ?_)
    refine wc_join (fun L wj2 => ∃ (Nc : Nat) (i i0 i1 i2 : Hd) (js : Nat) (i4 i5 ig l0 l1 l2 : Hd) (lt : Nat) (l4 l5 it d0 d1 d2 : Hd) (dq : Nat) (d4 d5 dt : Hd) (pa : Option Addr) (pn pc pt pe : Nat), L = [(2, .pointer (some ⟨gB2, 0, none⟩)), (4, .pointer (some ⟨gB4, 0, none⟩)), (5, .pointer (some ⟨gB5, 0, none⟩)), (6, .int .u64 ((k.1 : Nat) : Int))] ∧ (Chs [gB5, gB4, gB2] w wj2 ∧ Kp w.heap.size [gB5, gB4, gB2] (fun w => Bs w A n b) wj2 ∧ Blk wj2 gB2 55 zMsgV ∧ Blk wj2 gB4 55 (msgV h7 e.1 (f.1 : Int) k.1 X.1.1.kind i i0 i1 i2 js i4 i5 ig l0 l1 l2 lt l4 l5 X.1.1.at_ it X.1.2.has d0 d1 d2 dq d4 d5 dt nilH nilH nilH) ∧ Blk wj2 gB5 85 (placeV pa pn pc pt pe) ∧ Kp Nc [gB5, gB4, gB2] (fun w' => ComR w.heap.size A n b w' (comV it X.1.2.has d0 d1 d2 dq d4 d5 dt) X.1.2) wj2 ∧ PlS A n b (placeV pa pn pc pt pe) X.2 ∧ PropS A n b (propV X.1.1.kind i i0 i1 i2 js i4 i5 ig l0 l1 l2 lt l4 l5 X.1.1.at_) X.1.1)) ?_ ?_
    · skip
      refine wc_false rfl rfl ?_
      refine wc_seq ?_; intro K31 hK31
      refine wc_region ?_
      refine wl_y (y_fieldAddr (o := 2) (s := 1) (off := 0) (o' := 2) rfl Tryz.underlying85 rfl (by kernel_rfl) rfl rfl) rfl ?_
      refine wl_y (y_load1 rfl Tryz.underlying3 rfl (B5.get (i := 2) rfl)) rfl ?_
      refine wl_y (Y.as (y_eql rfl rfl) (congrArg Value.bool (decide_eq_false (by omega)))) rfl ?_
      refine wl_y (y_move rfl) rfl ?_
      refine wl_gno 64 rfl rfl rfl rfl ?_
      refine wl_gno 64 rfl rfl rfl rfl ?_
      refine wl_y (y_pickf rfl rfl) rfl ?_
      refine wl_nil ?_
      refine wq_then_norm (hK31 ?_)
      refine wc_false rfl rfl ?_
      refine wc_seq ?_; intro K32 hK32
      refine wc_region ?_
      refine wl_y (y_fieldAddr (o := 2) (s := 1) (off := 0) (o' := 2) rfl Tryz.underlying85 rfl (by kernel_rfl) rfl rfl) rfl ?_
      refine wl_y (y_load1 rfl Tryz.underlying3 rfl (B5.get (i := 2) rfl)) rfl ?_
      refine wl_y (Y.as (y_eql rfl rfl) (congrArg Value.bool (decide_eq_false (by omega)))) rfl ?_
      refine wl_nil ?_
      refine wq_then_norm (hK32 ?_)
      refine wc_false rfl rfl ?_
      refine wc_skip ?_
      obtain ⟨z, hz⟩ : ∃ z, k.2 = .error z := by
        rcases P.err with ⟨h, _⟩ | ⟨_, _, h⟩
        · exact absurd h (by omega)
        · exact ⟨_, h⟩
      have hk0 : k.1 = 0 := by
        rw [hk] at hz ⊢
        exact num1_err hz
      have eX : X = ((Prop20.zero, Com20.zero), badX k.2) := by rw [hXX, if_neg (by omega), if_neg (by omega)]
      have eb : badX k.2 = k.2 := by rw [hz]; rfl
      rw [eX]
      exact wq_join _ ⟨0, nilH, nilH, nilH, nilH, 0, nilH, nilH, nilH, nilH, nilH, nilH, 0, nilH, nilH, nilH, nilH, nilH, nilH, 0, nilH, nilH, nilH, A12, n12, c12, t12, e12, rfl, F, KA, B2, B4, B5, ⟨Nat.zero_le _, fun _ _ => ComR.zero _ _ _ _ _⟩, (by rw [eb]; exact P), PropS.zero⟩ ⟨rfl, rfl, rfl, (by first | rfl | exact congrArg some (int_val (by omega))), trivial⟩
    rintro L wj2 ⟨Nc, i, i0, i1, i2, js, i4, i5, ig, l0, l1, l2, lt, l4, l5, it, d0, d1, d2, dq, d4, d5, dt, pa, pn, pc, pt, pe, rfl, F, KA, B2, B4, B5, KC, P, HP⟩
    refine wq_then_norm (hK15 ?_)
    refine wc_seq ?_; intro K33 hK33
    refine wc_region ?_
    refine wl_y (y_loadw rfl Tryz.underlying85 rfl (by kernel_rfl) B5) rfl ?_
    refine wl_call Tryz.func55 rfl rfl rfl (plvec_any _ KA.out P) rfl ?_
    rintro e w20 ⟨h20, cs20, rfl, Sh20, lh20, mh20, uh20, P, ex⟩
    refine ⟨_, rfl, ?_⟩
    replace F := F.ext ex
    replace KA := KA.ext ex
    replace B2 := B2.ext ex
    replace B4 := B4.ext ex
    replace B5 := B5.ext ex
    replace KC := KC.ext ex
    rw [← hv] at P Sh20 lh20; obtain ⟨A20, n20, c20, t20, e20, rfl, P⟩ := P.get
    refine wl_y (y_move rfl) rfl ?_
    refine wl_y (y_extract rfl rfl) rfl ?_
    refine wl_y (y_extract rfl rfl) rfl ?_
    refine wl_y (y_fieldAddr (o := 29) (s := 1) (off := 0) (o' := 29) rfl Tryz.underlying55 rfl (by kernel_rfl) rfl rfl) rfl ?_
    refine wl_ef (ef_storeB (i := 29) rfl rfl rfl (by kernel_rfl) B4 (Nat.le_of_ble_eq_true rfl)) rfl ?_
    rintro _ wS20_6 ⟨rfl, D, cg⟩
    have ex := Chs.one cg
    clear cg
    replace F := F.chs ex
    replace KA := KA.chs ex
    replace B2 := B2.chs ex
    replace B5 := B5.chs ex
    replace KC := KC.chs ex
    replace B4 := D; clear D
    replace B4 := B4.congr (cs' := msgV h7 e.1 (f.1 : Int) k.1 X.1.1.kind i i0 i1 i2 js i4 i5 ig l0 l1 l2 lt l4 l5 X.1.1.at_ it X.1.2.has d0 d1 d2 dq d4 d5 dt h20 nilH nilH) rfl
    refine wl_ef (ef_storeP (o := 0) rfl rfl (by kernel_rfl) B5 (Nat.le_of_ble_eq_true rfl) (all_ones rfl)) rfl ?_
    rintro _ wS20_7 ⟨rfl, D, cg⟩
    have ex := Chs.one cg
    clear cg
    replace F := F.chs ex
    replace KA := KA.chs ex
    replace B2 := B2.chs ex
    replace B4 := B4.chs ex
    replace KC := KC.chs ex
    replace B5 := D; clear D
    replace B5 := B5.congr (cs' := placeV A20 n20 c20 t20 e20) rfl
    refine wl_nil ?_
    refine wq_then_norm (hK33 ?_)
    refine wc_seq ?_; intro K34 hK34
    refine wc_seq ?_; intro K35 hK35
    refine wc_region ?_
    refine wl_y (y_move rfl) rfl ?_
    refine wl_y (y_eql rfl rfl) rfl ?_
    refine wl_nil ?_
    refine wq_then_norm (hK35 ?_)
    refine wc_join (fun L wj5 => ∃ (th : Hd) (pa : Option Addr) (pn pc pt pe : Nat), L = [(2, .pointer (some ⟨gB2, 0, none⟩)), (4, .pointer (some ⟨gB4, 0, none⟩)), (5, .pointer (some ⟨gB5, 0, none⟩))] ∧ (Chs [gB5, gB4, gB2] w wj5 ∧ Kp w.heap.size [gB5, gB4, gB2] (fun w => Bs w A n b) wj5 ∧ Blk wj5 gB2 55 zMsgV ∧ Blk wj5 gB4 55 (msgV h7 e.1 (f.1 : Int) k.1 X.1.1.kind i i0 i1 i2 js i4 i5 ig l0 l1 l2 lt l4 l5 X.1.1.at_ it X.1.2.has d0 d1 d2 dq d4 d5 dt h20 th nilH) ∧ Blk wj5 gB5 85 (placeV pa pn pc pt pe) ∧ Kp Nc [gB5, gB4, gB2] (fun w' => ComR w.heap.size A n b w' (comV it X.1.2.has d0 d1 d2 dq d4 d5 dt) X.1.2) wj5 ∧ PlS A n b (placeV pa pn pc pt pe) tt.2 ∧ Sub A n b th.A th.n tt.1)) ?_ ?_
    · skip
      refine wc_dec rfl (fun hc5 => ?_) (fun hc5 => ?_)
      · skip
        refine wc_region ?_
        refine wl_y (y_loadw rfl Tryz.underlying85 rfl (by kernel_rfl) B5) rfl ?_
        refine wl_call Tryz.func55 rfl rfl rfl (plvec_any _ KA.out P) rfl ?_
        rintro e w22 ⟨h22, cs22, rfl, Sh22, lh22, mh22, uh22, P, ex⟩
        refine ⟨_, rfl, ?_⟩
        replace F := F.ext ex
        replace KA := KA.ext ex
        replace B2 := B2.ext ex
        replace B4 := B4.ext ex
        replace B5 := B5.ext ex
        replace KC := KC.ext ex
        obtain ⟨A22, n22, c22, t22, e22, rfl, P⟩ := P.get
        refine wl_y (y_move rfl) rfl ?_
        refine wl_y (y_extract rfl rfl) rfl ?_
        refine wl_y (y_extract rfl rfl) rfl ?_
        refine wl_y (y_fieldAddr (o := 30) (s := 1) (off := 0) (o' := 30) rfl Tryz.underlying55 rfl (by kernel_rfl) rfl rfl) rfl ?_
        refine wl_ef (ef_storeB (i := 30) rfl rfl rfl (by kernel_rfl) B4 (Nat.le_of_ble_eq_true rfl)) rfl ?_
        rintro _ wS22_6 ⟨rfl, D, cg⟩
        have ex := Chs.one cg
        clear cg
        replace F := F.chs ex
        replace KA := KA.chs ex
        replace B2 := B2.chs ex
        replace B5 := B5.chs ex
        replace KC := KC.chs ex
        replace B4 := D; clear D
        replace B4 := B4.congr (cs' := msgV h7 e.1 (f.1 : Int) k.1 X.1.1.kind i i0 i1 i2 js i4 i5 ig l0 l1 l2 lt l4 l5 X.1.1.at_ it X.1.2.has d0 d1 d2 dq d4 d5 dt h20 h22 nilH) rfl
        refine wl_ef (ef_storeP (o := 0) rfl rfl (by kernel_rfl) B5 (Nat.le_of_ble_eq_true rfl) (all_ones rfl)) rfl ?_
        rintro _ wS22_7 ⟨rfl, D, cg⟩
        have ex := Chs.one cg
        clear cg
        replace F := F.chs ex
        replace KA := KA.chs ex
        replace B2 := B2.chs ex
        replace B4 := B4.chs ex
        replace KC := KC.chs ex
        replace B5 := D; clear D
        replace B5 := B5.congr (cs' := placeV A22 n22 c22 t22 e22) rfl
        refine wl_nil ?_
        have eT : tt = vecX v.2 := by rw [htt, if_pos (by omega)]
        rw [eT]
        exact wq_join _ ⟨h22, A22, n22, c22, t22, e22, rfl, F, KA, B2, B4, B5, KC, P, Sh22⟩ ⟨rfl, rfl, rfl, trivial⟩
      · skip
        refine wc_skip ?_
        have eT : tt = ([], v.2) := by rw [htt, if_neg (by omega)]
        rw [eT]
        exact wq_join _ ⟨nilH, A20, n20, c20, t20, e20, rfl, F, KA, B2, B4, B5, KC, P, Sub.nil _ _ _⟩ ⟨rfl, rfl, rfl, trivial⟩
    rintro L wj5 ⟨th, pa, pn, pc, pt, pe, rfl, F, KA, B2, B4, B5, KC, P, Sth⟩
    refine wq_then_norm (hK34 ?_)
    refine wc_seq ?_; intro K36 hK36
    refine wc_region ?_
    refine wl_y (y_loadw rfl Tryz.underlying85 rfl (by kernel_rfl) B5) rfl ?_
    refine wl_call Tryz.func55 rfl rfl rfl (plvec_any _ KA.out P) rfl ?_
    rintro e w23 ⟨h23, cs23, rfl, Sh23, lh23, mh23, uh23, P, ex⟩
    refine ⟨_, rfl, ?_⟩
    replace F := F.ext ex
    replace KA := KA.ext ex
    replace B2 := B2.ext ex
    replace B4 := B4.ext ex
    replace B5 := B5.ext ex
    replace KC := KC.ext ex
    rw [← hm] at P Sh23 lh23; obtain ⟨A23, n23, c23, t23, e23, rfl, P⟩ := P.get
    refine wl_y (y_move rfl) rfl ?_
    refine wl_y (y_extract rfl rfl) rfl ?_
    refine wl_y (y_extract rfl rfl) rfl ?_
    refine wl_y (y_fieldAddr (o := 31) (s := 1) (off := 0) (o' := 31) rfl Tryz.underlying55 rfl (by kernel_rfl) rfl rfl) rfl ?_
    refine wl_ef (ef_storeB (i := 31) rfl rfl rfl (by kernel_rfl) B4 (Nat.le_of_ble_eq_true rfl)) rfl ?_
    rintro _ wS23_6 ⟨rfl, D, cg⟩
    have ex := Chs.one cg
    clear cg
    replace F := F.chs ex
    replace KA := KA.chs ex
    replace B2 := B2.chs ex
    replace B5 := B5.chs ex
    replace KC := KC.chs ex
    replace B4 := D; clear D
    replace B4 := B4.congr (cs' := msgV h7 e.1 (f.1 : Int) k.1 X.1.1.kind i i0 i1 i2 js i4 i5 ig l0 l1 l2 lt l4 l5 X.1.1.at_ it X.1.2.has d0 d1 d2 dq d4 d5 dt h20 th h23) rfl
    refine wl_ef (ef_storeP (o := 0) rfl rfl (by kernel_rfl) B5 (Nat.le_of_ble_eq_true rfl) (all_ones rfl)) rfl ?_
    rintro _ wS23_7 ⟨rfl, D, cg⟩
    have ex := Chs.one cg
    clear cg
    replace F := F.chs ex
    replace KA := KA.chs ex
    replace B2 := B2.chs ex
    replace B4 := B4.chs ex
    replace KC := KC.chs ex
    replace B5 := D; clear D
    replace B5 := B5.congr (cs' := placeV A23 n23 c23 t23 e23) rfl
    refine wl_nil ?_
    refine wq_then_norm (hK36 ?_)
    refine wc_seq ?_; intro K37 hK37
    refine wc_seq ?_; intro K38 hK38
    refine wc_region ?_
    refine wl_y (y_loadw rfl Tryz.underlying85 rfl (by kernel_rfl) B5) rfl ?_
    refine wl_call Tryz.func43 rfl rfl rfl (plend_any _ P) rfl ?_
    rintro e w24 ⟨rfl, ex⟩
    refine ⟨_, rfl, ?_⟩
    replace F := F.ext ex
    replace KA := KA.ext ex
    replace B2 := B2.ext ex
    replace B4 := B4.ext ex
    replace B5 := B5.ext ex
    replace KC := KC.ext ex
    have MS : ∀ w2, ComR w.heap.size A n b w2 (comV it X.1.2.has d0 d1 d2 dq d4 d5 dt) X.1.2 → MsgR w.heap.size A n b w2 (msgV h7 e.1 (f.1 : Int) k.1 X.1.1.kind i i0 i1 i2 js i4 i5 ig l0 l1 l2 lt l4 l5 X.1.1.at_ it X.1.2.has d0 d1 d2 dq d4 d5 dt h20 th h23) ⟨g.1, e.1, (f.1 : Int), k.1, X.1.1, X.1.2, v.1, tt.1, m.1⟩ := fun w2 h => ⟨_, _, _, _, _, _, _, _, _, _, _, _, _, _, _, _, _, _, _, _, _, _, _, _, _, _, rfl, he8, hk8, (by show (-9223372036854775808 : Int) ≤ (f.1 : Int) ∧ (f.1 : Int) ≤ 9223372036854775807; omega), Sh7, HP, h, Sh20, Sth, Sh23⟩
    refine wl_y (y_assign rfl) rfl ?_
    refine wl_nil ?_
    refine wq_then_norm (hK38 ?_)
    refine wc_seq ?_; intro K39 hK39
    refine wc_region ?_
    refine wl_y (y_move rfl) rfl ?_
    refine wl_y (y_neq rfl rfl) rfl ?_
    refine wl_nil ?_
    refine wq_then_norm (hK39 ?_)
    refine wc_dec rfl (fun hc6 => ?_) (fun hc6 => ?_)
    · skip
      refine wc_seq ?_; intro K40 hK40
      refine wc_region ?_
      refine wl_y (y_build rfl (cells := zMsgV) (by kernel_rfl)) rfl ?_
      refine wl_y (y_move rfl) rfl ?_
      refine wl_ef (ef_storeP (o := 0) rfl rfl (by kernel_rfl) B2 (Nat.le_of_ble_eq_true rfl) (all_ones rfl)) rfl ?_
      rintro _ wS26_2 ⟨rfl, D, cg⟩
      have ex := Chs.one cg
      clear cg
      replace F := F.chs ex
      replace KA := KA.chs ex
      replace B4 := B4.chs ex
      replace B5 := B5.chs ex
      replace KC := KC.chs ex
      replace B2 := D; clear D
      replace B2 := B2.congr (cs' := zMsgV) rfl
      refine wl_y (y_assign rfl) rfl ?_
      refine wl_nil ?_
      refine wq_then_norm (hK40 ?_)
      refine wc_ret ?_
      refine wq_then_ret ?_
      refine hret rfl rfl B2 rfl ?_
      rw [hO]; unfold wholeX; rw [if_pos (show endX m.2 ≠ 0 by omega)]; exact ⟨_, rfl, MsgR.zero _ _ _ _ _, ((F.drop (by omega)).drop (by omega)).drop (by omega) |>.toExt (by simp)⟩
    · skip
      refine wc_skip ?_
      refine wq_then_norm (hK37 ?_)
      refine wc_seq ?_; intro K41 hK41
      refine wc_seq ?_; intro K42 hK42
      refine wc_region ?_
      refine wl_y (y_loadw rfl Tryz.underlying55 rfl (by kernel_rfl) B4) rfl ?_
      refine wl_call Tryz.func57 rfl rfl rfl (rRight_any _ ((MS _ KC.out).at KA.out) hft) rfl ?_
      rintro e w27 ⟨rfl, ex⟩
      refine ⟨_, rfl, ?_⟩
      replace F := F.ext ex
      replace KA := KA.ext ex
      replace B2 := B2.ext ex
      replace B4 := B4.ext ex
      replace B5 := B5.ext ex
      replace KC := KC.ext ex
      skip
      refine wl_y (y_not rfl) rfl ?_
      refine wl_nil ?_
      refine wq_then_norm (hK42 ?_)
      refine wc_cond rfl (fun hc7 => ?_) (fun hc7 => ?_)
      · skip
        refine wc_seq ?_; intro K43 hK43
        refine wc_region ?_
        refine wl_y (y_build rfl (cells := zMsgV) (by kernel_rfl)) rfl ?_
        refine wl_ef (ef_storeP (o := 0) rfl rfl (by kernel_rfl) B2 (Nat.le_of_ble_eq_true rfl) (all_ones rfl)) rfl ?_
        rintro _ wS28_1 ⟨rfl, D, cg⟩
        have ex := Chs.one cg
        clear cg
        replace F := F.chs ex
        replace KA := KA.chs ex
        replace B4 := B4.chs ex
        replace B5 := B5.chs ex
        replace KC := KC.chs ex
        replace B2 := D; clear D
        replace B2 := B2.congr (cs' := zMsgV) rfl
        refine wl_y (y_assign rfl) rfl ?_
        refine wl_nil ?_
        refine wq_then_norm (hK43 ?_)
        refine wc_ret ?_
        refine wq_then_ret ?_
        refine hret rfl rfl B2 rfl ?_
        rw [hO]; unfold wholeX; rw [if_neg (show ¬ endX m.2 ≠ 0 by omega), if_neg (by simpa using hc7)]; exact ⟨_, rfl, MsgR.zero _ _ _ _ _, ((F.drop (by omega)).drop (by omega)).drop (by omega) |>.toExt (by simp)⟩
      · skip
        refine wc_skip ?_
        refine wq_then_norm (hK41 ?_)
        refine wc_seq ?_; intro K44 hK44
        refine wc_region ?_
        refine wl_y (y_loadw rfl Tryz.underlying55 rfl (by kernel_rfl) B4) rfl ?_
        refine wl_ef (ef_storeP (o := 0) rfl rfl (by kernel_rfl) B2 (Nat.le_of_ble_eq_true rfl) (all_ones rfl)) rfl ?_
        rintro _ wS29_1 ⟨rfl, D, cg⟩
        have ex := Chs.one cg
        clear cg
        replace F := F.chs ex
        replace KA := KA.chs ex
        replace B4 := B4.chs ex
        replace B5 := B5.chs ex
        replace KC := KC.chs ex
        replace B2 := D; clear D
        replace B2 := B2.congr (cs' := msgV h7 e.1 (f.1 : Int) k.1 X.1.1.kind i i0 i1 i2 js i4 i5 ig l0 l1 l2 lt l4 l5 X.1.1.at_ it X.1.2.has d0 d1 d2 dq d4 d5 dt h20 th h23) rfl
        refine wl_y (y_assign rfl) rfl ?_
        refine wl_nil ?_
        refine wq_then_norm (hK44 ?_)
        refine wc_ret ?_
        refine hret rfl rfl B2 rfl ?_
        rw [hO]; unfold wholeX; rw [if_neg (show ¬ endX m.2 ≠ 0 by omega), if_pos (by simpa using hc7)]; exact ⟨_, rfl, MS _ KC.out, ((F.drop (by omega)).drop (by omega)).drop (by omega) |>.toExt (by simp)⟩
end Go.Proofs.YtpgalbgonmclaaaGreat
