/- The laws MsgReads and MsgParts. No conditions: contracts of functions. -/
import Derived.Test.YtpgalbgonmclaaaGreatMvD
namespace Go.Proofs.YtpgalbgonmclaaaGreat
open Go.RowKit
attribute [local irreducible] Y Ef WL WC WK WQ WM OpM WN WF OpN WJ OpJ
open Wire Nd M20
theorem whole_fit {α : Type} {F : α → Prop} {z : α} {p : α × St} {ok : Bool} (hz : F z) (hp : F p.1) : F (wholeX z p ok).1 := by
  unfold wholeX
  split
  · exact hz
  · split
    · exact hp
    · exact hz
theorem msgReads_law (A : Option Addr) (n c : Nat) (b : List UInt8) (w : World) (HB : Bs w A n b) (_hn : n ≤ maxLen) (hc : n ≤ c) :
    Calls Tryz.prog 4 #[.slice A n c] w fun e w' => e = .returned (.bool true) ∧ Below w.heap.size w w' := by
  have hbl := HB.1
  have E := Ext.refl w
  refine vc_enter1 31 Tryz.func4 rfl rfl rfl rfl ?_
  intro Q hret
  refine wc_seq ?_; intro K1 hK1
  refine wc_region ?_
  refine wl_y (y_assign rfl) rfl ?_
  refine wl_nil ?_
  refine wq_then_norm (hK1 ?_)
  refine wc_seq ?_; intro K2 hK2
  refine wc_seq ?_; intro K3 hK3
  refine wc_region ?_
  refine wl_call Tryz.func6 rfl rfl rfl (alive20_any _) rfl ?_
  rintro e w1 ⟨rfl, ex⟩
  refine ⟨_, rfl, ?_⟩
  replace E := E.ext ex
  refine wl_y (y_not rfl) rfl ?_
  refine wl_nil ?_
  refine wq_then_norm (hK3 ?_)
  refine wc_false rfl rfl ?_
  refine wc_skip ?_
  refine wq_then_norm (hK2 ?_)
  refine wc_seq ?_; intro K4 hK4
  refine wc_seq ?_; intro K5 hK5
  refine wc_region ?_
  refine wl_y (y_move rfl) rfl ?_
  refine wl_y (y_len_slice rfl Tryz.underlying22) rfl ?_
  refine wl_y (y_gtr rfl rfl) rfl ?_
  refine wl_nil ?_
  refine wq_then_norm (hK5 ?_)
  refine wc_dec rfl (fun hc2 => ?_) (fun hc2 => ?_)
  · skip
    refine wc_seq ?_; intro K6 hK6
    refine wc_region ?_
    refine wl_y (y_assign rfl) rfl ?_
    refine wl_nil ?_
    refine wq_then_norm (hK6 ?_)
    refine wc_ret ?_
    refine wq_then_ret ?_
    refine hret rfl ?_
    exact ⟨rfl, E⟩
  · skip
    refine wc_skip ?_
    refine wq_then_norm (hK4 ?_)
    refine wc_seq ?_; intro K7 hK7
    have hfX : (messX (.ok b)).1.Fit := mess_fit (by show b.length ≤ 10000; omega)
    have hfb : (messOf b).1.Fit := whole_fit ⟨Nat.zero_le _, prop0_fit, com0_fit, Nat.zero_le _, Nat.zero_le _, Nat.zero_le _⟩ hfX
    refine wc_region ?_
    refine wl_y (y_move rfl) rfl ?_
    refine wl_call Tryz.func16 rfl rfl rfl (messOf_any _ (HB.ext E) hc (by omega) hfX) rfl ?_
    rintro e w2 ⟨ds, rfl, HN, h256, ex⟩
    refine ⟨_, rfl, ?_⟩
    replace E := E.ext ex
    have HN2 := HN.at; obtain ⟨ya, yb, yc, yd, ye, yf, yg, yh, yi, yj, yk, yl, ym, yn, yo, yp, yq, yr, ys, yt, yu, yv, yw, yx, yy, yz, rfl, _⟩ := HN
    refine wl_y (y_move rfl) rfl ?_
    refine wl_y (y_extract rfl rfl) rfl ?_
    refine wl_y (y_extract rfl rfl) rfl ?_
    refine wl_ef (ef_alloc (Z := #[.slice none 0 0, .int .u64 0, .int .i64 0, .int .u8 0, .int .u8 0, .slice none 0 0, .slice none 0 0, .slice none 0 0, .slice none 0 0, .int .u8 0, .slice none 0 0, .slice none 0 0, .slice none 0 0, .slice none 0 0, .slice none 0 0, .slice none 0 0, .int .u8 0, .slice none 0 0, .slice none 0 0, .int .i64 0, .slice none 0 0, .bool false, .slice none 0 0, .slice none 0 0, .slice none 0 0, .int .u8 0, .slice none 0 0, .slice none 0 0, .slice none 0 0, .slice none 0 0, .slice none 0 0, .slice none 0 0]) (by kernel_rfl)) rfl ?_
    rintro _ wA3 ⟨gB3, rfl, D3, hgB3, exA⟩
    refine wl_ef (ef_storeP (o := 0) rfl rfl (by kernel_rfl) D3 (Nat.le_of_ble_eq_true rfl) (all_ones rfl)) rfl ?_
    rintro _ wB3 ⟨rfl, B3, cg⟩
    have ex := exA.chg cg hgB3; clear cg exA D3
    have lB3 := B3.lt; have zB3 := ex.size
    replace E := E.ext ex
    replace HN2 := HN2.ext ex
    refine wl_y (y_assign rfl) rfl ?_
    refine wl_nil ?_
    refine wq_then_norm (hK7 ?_)
    refine wc_seq ?_; intro K8 hK8
    refine wc_region ?_
    refine wl_y (y_move rfl) rfl ?_
    refine wl_call Tryz.func17 rfl rfl rfl (rMessOf_any _ (HB.ext E) hc (by omega)) rfl ?_
    rintro e w3 ⟨es, rfl, HR, ex⟩
    refine ⟨_, rfl, ?_⟩
    replace E := E.ext ex
    replace HN2 := HN2.ext ex
    replace B3 := B3.ext ex
    have HR2 := HR.at (HB.ext E); obtain ⟨za, zb, zc, zd, ze, zf, zg, zh, zi, zj, zk, zl, zm, zn, zo, zp, zq, zr, zs, zt, zu, zv, zw, zx, zy, zz, rfl, _⟩ := HR
    refine wl_y (y_move rfl) rfl ?_
    refine wl_y (y_extract rfl rfl) rfl ?_
    refine wl_y (y_extract rfl rfl) rfl ?_
    refine wl_ef (ef_alloc (Z := #[.slice none 0 0, .int .u64 0, .int .i64 0, .int .u8 0, .int .u8 0, .slice none 0 0, .slice none 0 0, .slice none 0 0, .slice none 0 0, .int .u8 0, .slice none 0 0, .slice none 0 0, .slice none 0 0, .slice none 0 0, .slice none 0 0, .slice none 0 0, .int .u8 0, .slice none 0 0, .slice none 0 0, .int .i64 0, .slice none 0 0, .bool false, .slice none 0 0, .slice none 0 0, .slice none 0 0, .int .u8 0, .slice none 0 0, .slice none 0 0, .slice none 0 0, .slice none 0 0, .slice none 0 0, .slice none 0 0]) (by kernel_rfl)) rfl ?_
    rintro _ wA5 ⟨gB5, rfl, D5, hgB5, exA⟩
    refine wl_ef (ef_storeP (o := 0) rfl rfl (by kernel_rfl) D5 (Nat.le_of_ble_eq_true rfl) (all_ones rfl)) rfl ?_
    rintro _ wB5 ⟨rfl, B5, cg⟩
    have ex := exA.chg cg hgB5; clear cg exA D5
    have lB5 := B5.lt; have zB5 := ex.size
    replace E := E.ext ex
    replace HN2 := HN2.ext ex
    replace B3 := B3.ext ex
    replace HR2 := HR2.ext ex
    refine wl_y (y_assign rfl) rfl ?_
    refine wl_nil ?_
    refine wq_then_norm (hK8 ?_)
    refine wc_seq ?_; intro K9 hK9
    refine wc_region ?_
    refine wl_y (y_move rfl) rfl ?_
    refine wl_y (y_conv rfl Tryz.underlying28 Tryz.underlying3 (i64_ok (by omega) (by omega))) rfl ?_
    refine wl_y (y_move rfl) rfl ?_
    refine wl_y (Y.as (y_eql rfl rfl) (congrArg Value.bool (decide_eq_true rfl))) rfl ?_
    refine wl_y (y_move rfl) rfl ?_
    refine wl_gy 26 rfl rfl (y_loadx (o := 0) (s := 32) rfl Tryz.underlying55 rfl (by kernel_rfl) B3 rfl) rfl ?_
    refine wl_gy 26 rfl rfl (y_loadx (o := 0) (s := 32) rfl Tryz.underlying55 rfl (by kernel_rfl) B5 rfl) rfl ?_
    refine wl_gcall 26 rfl rfl Tryz.func18 rfl rfl rfl (sameMsg_any _ HN2 HR2 hfb hfb) rfl ?_
    rintro e w14 ⟨rfl, ex⟩
    refine ⟨_, rfl, ?_⟩
    replace E := E.ext ex
    replace HN2 := HN2.ext ex
    replace B3 := B3.ext ex
    replace HR2 := HR2.ext ex
    replace B5 := B5.ext ex
    rw [decide_eq_true rfl]
    refine wl_y (y_pickt rfl rfl) rfl ?_
    refine wl_y (y_assign rfl) rfl ?_
    refine wl_nil ?_
    refine wq_then_norm (hK9 ?_)
    refine wc_ret ?_
    refine hret rfl ?_
    exact ⟨rfl, E⟩
end Go.Proofs.YtpgalbgonmclaaaGreat
