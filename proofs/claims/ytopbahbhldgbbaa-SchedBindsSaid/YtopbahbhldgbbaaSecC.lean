/- The reference's secrets, and what the laws of layer 23 lean on: what they hand back. -/
import Derived.Test.YtopbahbhldgbbaaSecB
import Derived.Test.YtopbahbhldgbbaaSame
namespace Go.Proofs.Ytopbahbhldgbbaa
open Go.RowKit
attribute [local irreducible] Y Ef WL WC WK WQ WM OpM WN WF OpN
theorem sameX_any (A B : Option Addr) (n m c d : Nat) (xs ys : List UInt8) (w : World) (ha : Bs w A n xs) (hb : Bs w B m ys) (hn : n ≤ 140737488355328) (hm : m ≤ 140737488355328) :
    Calls Try.prog 14 #[.slice A n c, .slice B m d] w fun e w' => e = .returned (.bool (decide (xs = ys))) ∧ Ext w w' :=
  (same_any A B n m c d xs ys w ha hb hn hm).mono fun _ _ ⟨h, k, hk⟩ => ⟨h, hk ▸ Ext.drewN w k⟩
theorem rsecret_any (A : Option Addr) (n c : Nat) (s : ByteArray) (ks : List UInt8) (w : World) (HA : Bs w A n ks) (hn : n ≤ 35184372088832) (hs : s.size ≤ 1048576) :
    Calls Try.prog 60 #[.slice A n c, .string s] w fun e w' => ∃ A' c', e = .returned (.slice A' 32 c') ∧ Bs w' A' 32 (Kdf.label ks s.data.toList [] 32) ∧ Ext w w' := by
  refine vc_enter1 8 Try.func60 rfl rfl rfl rfl ?_
  intro Q hret
  refine wc_seq ?_; intro K1 hK1
  refine wc_region ?_
  refine wl_y (y_assign rfl) rfl ?_
  refine wl_nil ?_
  refine wq_then_norm (hK1 ?_)
  refine wc_seq ?_; intro K2 hK2
  refine wc_region ?_
  refine wl_y (y_move rfl) rfl ?_
  refine wl_y (y_move rfl) rfl ?_
  refine wl_call Try.func37 rfl rfl rfl (refLabel_any A none n c 0 0 32 s ks [] _ HA hn hs (Bs.nil _ _) (by omega) (by omega)) rfl ?_
  rintro e w1 ⟨A1, c1, rfl, H1, ex⟩
  refine ⟨_, rfl, ?_⟩
  skip
  refine wl_y (y_assign rfl) rfl ?_
  refine wl_nil ?_
  refine wq_then_norm (hK2 ?_)
  refine wc_ret ?_
  refine hret rfl ?_
  exact ⟨A1, c1, rfl, H1, ex⟩
theorem rmiddle_any (A : Option Addr) (n c : Nat) (xs : List UInt8) (w : World) (HA : Bs w A n xs) (hn : n ≤ 1000) :
    Calls Try.prog 55 #[.slice A n c] w fun e w' => ∃ A' c', e = .returned (.slice A' 32 c') ∧ Bs w' A' 32 (secMid xs) ∧ Ext w w' := by
  refine vc_enter1 6 Try.func55 rfl rfl rfl rfl ?_
  intro Q hret
  refine wc_seq ?_; intro K1 hK1
  refine wc_region ?_
  refine wl_y (y_assign rfl) rfl ?_
  refine wl_nil ?_
  refine wq_then_norm (hK1 ?_)
  refine wc_seq ?_; intro K2 hK2
  refine wc_region ?_
  refine wl_y (y_move rfl) rfl ?_
  refine wl_ef (ef_make (n := 32) (z := .int .u8 0) (bytes := 1) rfl rfl Try.underlying24 (by kernel_rfl) rfl rfl rfl rfl (by omega) (by omega)) rfl ?_
  rintro _ w1 ⟨gz, rfl, BZ, hgz, ex⟩
  replace HA := HA.ext ex
  have HZ := zeros32_bs BZ; have E1 := ex
  refine wl_call Try.func34 rfl rfl rfl (ref04_any A _ n c 32 32 xs _ _ HA (by omega) HZ (by omega)) rfl ?_
  rintro e w2 ⟨A2, c2, rfl, R2, ex⟩
  refine ⟨_, rfl, ?_⟩
  replace HA := HA.ext ex
  have E2 := E1.ext ex
  refine wl_y (y_assign rfl) rfl ?_
  refine wl_nil ?_
  refine wq_then_norm (hK2 ?_)
  refine wc_ret ?_
  refine hret rfl ?_
  exact ⟨A2, c2, rfl, R2.bs, E2⟩
theorem repoch_any (A : Option Addr) (n c : Nat) (xs : List UInt8) (cs : Array Value) (x : Ctx) (w : World) (HA : Bs w A n xs) (hn : n ≤ 1000) (H : CtxAt w cs x) (hs : x.Small) :
    Calls Try.prog 56 #[.slice A n c, .agg cs] w fun e w' => ∃ A' c', e = .returned (.slice A' 32 c') ∧ Bs w' A' 32 (secEp xs x) ∧ Ext w w' := by
  have hz := H.size
  have E := Ext.refl w
  refine vc_enter1 10 Try.func56 rfl rfl rfl rfl ?_
  intro Q hret
  refine wc_seq ?_; intro K1 hK1
  refine wc_region ?_
  refine wl_ef (ef_box (cs := cs) rfl rfl) rfl ?_
  rintro _ w1 ⟨g1, rfl, B1, hg1, ex⟩
  replace E := E.ext ex
  replace HA := HA.ext ex
  replace H := H.ext ex
  skip
  refine wl_y (y_assign rfl) rfl ?_
  refine wl_nil ?_
  refine wq_then_norm (hK1 ?_)
  refine wc_seq ?_; intro K2 hK2
  refine wc_draw (by kernel_rfl) 6 rfl ?_; intro wd1 ex hd1
  replace E := E.ext ex
  replace HA := HA.ext ex
  replace H := H.ext ex
  replace B1 := B1.ext ex
  refine wm_y 0 rfl (by kernel_rfl) (y_move rfl) rfl ?_
  refine wm_y 2 rfl (by kernel_rfl) (y_loadw rfl Try.underlying39 rfl (by rw [hz]; kernel_rfl) B1) rfl ?_
  refine wm_one 1 (by kernel_rfl) ?_; refine om_call rfl Try.func55 rfl rfl rfl (rmiddle_any A n c xs _ HA hn) rfl ?_
  rintro e w2 ⟨A2, c2, rfl, H2, ex⟩
  refine ⟨_, rfl, .inr ex, ?_⟩
  replace E := E.ext ex
  replace HA := HA.ext ex
  replace H := H.ext ex
  replace B1 := B1.ext ex
  skip
  refine wm_one 3 (by kernel_rfl) ?_; refine om_call rfl Try.func59 rfl rfl rfl (rctxBytes_any cs x _ H hs) rfl ?_
  rintro e w3 ⟨A3, k3, c3, rfl, R3, hk3, ex⟩
  refine ⟨_, rfl, .inr ex, ?_⟩
  replace E := E.ext ex
  replace HA := HA.ext ex
  replace H := H.ext ex
  replace B1 := B1.ext ex
  replace H2 := H2.ext ex
  skip
  refine wm_one 4 (by kernel_rfl) ?_; refine om_call rfl Try.func37 rfl rfl rfl (refLabel_any A2 A3 32 c2 k3 c3 32 sEpoch _ _ _ H2 (by omega) (by decide) R3.bs (by omega) (by omega)) rfl ?_
  rintro e w4 ⟨A4, c4, rfl, H4, ex⟩
  refine ⟨_, rfl, .inr ex, ?_⟩
  replace E := E.ext ex
  replace HA := HA.ext ex
  replace H := H.ext ex
  replace B1 := B1.ext ex
  replace H2 := H2.ext ex
  skip
  refine wm_y 5 rfl (by kernel_rfl) (y_assign rfl) rfl ?_
  refine wm_done (by kernel_rfl) ?_
  refine wq_nop ?_
  refine wq_then_norm (hK2 ?_)
  refine wc_ret ?_
  refine hret rfl ?_
  exact ⟨A4, c4, rfl, H4, E⟩
theorem rjoiner_any (A B : Option Addr) (n c m d : Nat) (xs ys : List UInt8) (cs : Array Value) (x : Ctx) (w : World) (HA : Bs w A n xs) (hn : n ≤ 1000) (HB : Bs w B m ys) (hm : m ≤ 1000) (H : CtxAt w cs x) (hs : x.Small) :
    Calls Try.prog 25 #[.slice A n c, .slice B m d, .agg cs] w fun e w' => ∃ A' c', e = .returned (.slice A' 32 c') ∧ Bs w' A' 32 (secJoiner xs ys x) ∧ Ext w w' := by
  have hz := H.size
  have E := Ext.refl w
  refine vc_enter1 13 Try.func25 rfl rfl rfl rfl ?_
  intro Q hret
  refine wc_seq ?_; intro K1 hK1
  refine wc_region ?_
  refine wl_ef (ef_box (cs := cs) rfl rfl) rfl ?_
  rintro _ w1 ⟨g1, rfl, B1, hg1, ex⟩
  replace E := E.ext ex
  replace HA := HA.ext ex
  replace HB := HB.ext ex
  replace H := H.ext ex
  skip
  refine wl_y (y_assign rfl) rfl ?_
  refine wl_nil ?_
  refine wq_then_norm (hK1 ?_)
  refine wc_seq ?_; intro K2 hK2
  refine wc_draw (by kernel_rfl) 7 rfl ?_; intro wd1 ex hd1
  replace E := E.ext ex
  replace HA := HA.ext ex
  replace HB := HB.ext ex
  replace H := H.ext ex
  replace B1 := B1.ext ex
  refine wm_y 0 rfl (by kernel_rfl) (y_move rfl) rfl ?_
  refine wm_y 1 rfl (by kernel_rfl) (y_move rfl) rfl ?_
  refine wm_y 3 rfl (by kernel_rfl) (y_loadw rfl Try.underlying39 rfl (by rw [hz]; kernel_rfl) B1) rfl ?_
  refine wm_one 2 (by kernel_rfl) ?_; refine om_call rfl Try.func34 rfl rfl rfl (ref04_any A B n c m d xs ys _ HA (by omega) HB (by omega)) rfl ?_
  rintro e w2 ⟨A2, c2, rfl, R2, ex⟩
  refine ⟨_, rfl, .inr ex, ?_⟩
  replace E := E.ext ex
  replace HA := HA.ext ex
  replace HB := HB.ext ex
  replace H := H.ext ex
  replace B1 := B1.ext ex
  have H2 := R2.bs
  refine wm_one 4 (by kernel_rfl) ?_; refine om_call rfl Try.func59 rfl rfl rfl (rctxBytes_any cs x _ H hs) rfl ?_
  rintro e w3 ⟨A3, k3, c3, rfl, R3, hk3, ex⟩
  refine ⟨_, rfl, .inr ex, ?_⟩
  replace E := E.ext ex
  replace HA := HA.ext ex
  replace HB := HB.ext ex
  replace H := H.ext ex
  replace B1 := B1.ext ex
  replace H2 := H2.ext ex
  skip
  refine wm_one 5 (by kernel_rfl) ?_; refine om_call rfl Try.func37 rfl rfl rfl (refLabel_any A2 A3 32 c2 k3 c3 32 sJoiner _ _ _ H2 (by omega) (by decide) R3.bs (by omega) (by omega)) rfl ?_
  rintro e w4 ⟨A4, c4, rfl, H4, ex⟩
  refine ⟨_, rfl, .inr ex, ?_⟩
  replace E := E.ext ex
  replace HA := HA.ext ex
  replace HB := HB.ext ex
  replace H := H.ext ex
  replace B1 := B1.ext ex
  replace H2 := H2.ext ex
  skip
  refine wm_y 6 rfl (by kernel_rfl) (y_assign rfl) rfl ?_
  refine wm_done (by kernel_rfl) ?_
  refine wq_nop ?_
  refine wq_then_norm (hK2 ?_)
  refine wc_ret ?_
  refine hret rfl ?_
  exact ⟨A4, c4, rfl, H4, E⟩
theorem secAt_all {w : World} {A0 A1 A2 A3 A4 A5 A6 A7 A8 A9 A10 A11 : Option Addr} {n0 n1 n2 n3 n4 n5 n6 n7 n8 n9 n10 n11 c0 c1 c2 c3 c4 c5 c6 c7 c8 c9 c10 c11 : Nat} {x0 x1 x2 x3 x4 x5 x6 x7 x8 x9 x10 x11 : List UInt8}
    (h0 : Bs w A0 n0 x0) (h1 : Bs w A1 n1 x1) (h2 : Bs w A2 n2 x2) (h3 : Bs w A3 n3 x3) (h4 : Bs w A4 n4 x4) (h5 : Bs w A5 n5 x5) (h6 : Bs w A6 n6 x6) (h7 : Bs w A7 n7 x7) (h8 : Bs w A8 n8 x8) (h9 : Bs w A9 n9 x9) (h10 : Bs w A10 n10 x10) (h11 : Bs w A11 n11 x11) :
    SecAt w #[.slice A0 n0 c0, .slice A1 n1 c1, .slice A2 n2 c2, .slice A3 n3 c3, .slice A4 n4 c4, .slice A5 n5 c5, .slice A6 n6 c6, .slice A7 n7 c7, .slice A8 n8 c8, .slice A9 n9 c9, .slice A10 n10 c10, .slice A11 n11 c11] [x0, x1, x2, x3, x4, x5, x6, x7, x8, x9, x10, x11] := by
  refine ⟨_, rfl, rfl, rfl, fun i hi => ?_⟩
  match i, hi with
  | 0, _ => exact ⟨_, _, _, rfl, h0⟩
  | 1, _ => exact ⟨_, _, _, rfl, h1⟩
  | 2, _ => exact ⟨_, _, _, rfl, h2⟩
  | 3, _ => exact ⟨_, _, _, rfl, h3⟩
  | 4, _ => exact ⟨_, _, _, rfl, h4⟩
  | 5, _ => exact ⟨_, _, _, rfl, h5⟩
  | 6, _ => exact ⟨_, _, _, rfl, h6⟩
  | 7, _ => exact ⟨_, _, _, rfl, h7⟩
  | 8, _ => exact ⟨_, _, _, rfl, h8⟩
  | 9, _ => exact ⟨_, _, _, rfl, h9⟩
  | 10, _ => exact ⟨_, _, _, rfl, h10⟩
  | 11, _ => exact ⟨_, _, _, rfl, h11⟩
theorem rsof_any (A : Option Addr) (n c : Nat) (xs : List UInt8) (cs : Array Value) (x : Ctx) (w : World) (HA : Bs w A n xs) (hn : n ≤ 1000) (H : CtxAt w cs x) (hs : x.Small) :
    Calls Try.prog 28 #[.slice A n c, .agg cs] w fun e w' => ∃ ds, e = .returned (.agg ds) ∧ SecAt w' ds (secOf xs x) ∧ Ext w w' := by
  have hz := H.size
  have E := Ext.refl w
  refine vc_enterc1 (s := 12) 33 Try.func28 rfl rfl rfl Try.underlying42 rfl (by kernel_rfl) rfl ?_
  intro Q hret
  refine wc_seq ?_; intro K1 hK1
  refine wc_region ?_
  refine wl_ef (ef_box (cs := cs) rfl rfl) rfl ?_
  rintro _ w1 ⟨g3, rfl, B3, hg3, ex⟩
  replace E := E.ext ex
  replace HA := HA.ext ex
  replace H := H.ext ex
  skip
  have E0 := E
  refine wl_ef (ef_alloc (Z := secZ) (by kernel_rfl)) rfl ?_
  rintro _ w2 ⟨g4, rfl, B4, hg4, ex⟩
  replace E := E.ext ex
  replace HA := HA.ext ex
  replace H := H.ext ex
  replace B3 := B3.ext ex
  have hw4 := Nat.le_trans E0.size hg4
  refine wl_nil ?_
  refine wq_then_norm (hK1 ?_)
  refine wc_seq ?_; intro K2 hK2
  refine wc_region ?_
  refine wl_y (y_move rfl) rfl ?_
  refine wl_y (y_loadw rfl Try.underlying39 rfl (by rw [hz]; kernel_rfl) B3) rfl ?_
  refine wl_call Try.func56 rfl rfl rfl (repoch_any A n c xs cs x _ HA hn H hs) rfl ?_
  rintro e w3 ⟨Ae, ce, rfl, He, ex⟩
  refine ⟨_, rfl, ?_⟩
  replace E := E.ext ex
  replace HA := HA.ext ex
  replace H := H.ext ex
  replace B3 := B3.ext ex
  replace B4 := B4.ext ex
  skip
  refine wl_y (y_assign rfl) rfl ?_
  refine wl_nil ?_
  refine wq_then_norm (hK2 ?_)
  refine wc_seq ?_; intro K3 hK3
  refine wc_region ?_
  refine wl_y (y_move rfl) rfl ?_
  refine wl_y (y_move rfl) rfl ?_
  refine wl_call Try.func55 rfl rfl rfl (rmiddle_any A n c xs _ HA hn) rfl ?_
  rintro e w4 ⟨Am, cm, rfl, Hm, ex⟩
  refine ⟨_, rfl, ?_⟩
  replace E := E.ext ex
  replace HA := HA.ext ex
  replace H := H.ext ex
  replace B3 := B3.ext ex
  replace B4 := B4.ext ex
  replace He := He.ext ex
  skip
  refine wl_call Try.func60 rfl rfl rfl (rsecret_any Am 32 cm sWelcome _ _ Hm (by omega) (by decide)) rfl ?_
  rintro e v1 ⟨A1, c1, rfl, H1, ex⟩
  refine ⟨_, rfl, ?_⟩
  replace E := E.ext ex
  replace HA := HA.ext ex
  replace H := H.ext ex
  replace B3 := B3.ext ex
  replace B4 := B4.ext ex
  replace He := He.ext ex
  skip
  refine wl_y (y_move rfl) rfl ?_
  refine wl_y (y_move rfl) rfl ?_
  refine wl_call Try.func60 rfl rfl rfl (rsecret_any Ae 32 ce (sLab 0) _ _ He (by omega) (sLab_size 0)) rfl ?_
  rintro e v3 ⟨A3, c3, rfl, H3, ex⟩
  refine ⟨_, rfl, ?_⟩
  replace E := E.ext ex
  replace HA := HA.ext ex
  replace H := H.ext ex
  replace B3 := B3.ext ex
  replace B4 := B4.ext ex
  replace He := He.ext ex
  replace H1 := H1.ext ex
  skip
  refine wl_y (y_move rfl) rfl ?_
  refine wl_call Try.func60 rfl rfl rfl (rsecret_any Ae 32 ce (sLab 1) _ _ He (by omega) (sLab_size 1)) rfl ?_
  rintro e v4 ⟨A4, c4, rfl, H4, ex⟩
  refine ⟨_, rfl, ?_⟩
  replace E := E.ext ex
  replace HA := HA.ext ex
  replace H := H.ext ex
  replace B3 := B3.ext ex
  replace B4 := B4.ext ex
  replace He := He.ext ex
  replace H1 := H1.ext ex
  replace H3 := H3.ext ex
  skip
  refine wl_y (y_move rfl) rfl ?_
  refine wl_call Try.func60 rfl rfl rfl (rsecret_any Ae 32 ce (sLab 2) _ _ He (by omega) (sLab_size 2)) rfl ?_
  rintro e v5 ⟨A5, c5, rfl, H5, ex⟩
  refine ⟨_, rfl, ?_⟩
  replace E := E.ext ex
  replace HA := HA.ext ex
  replace H := H.ext ex
  replace B3 := B3.ext ex
  replace B4 := B4.ext ex
  replace He := He.ext ex
  replace H1 := H1.ext ex
  replace H3 := H3.ext ex
  replace H4 := H4.ext ex
  skip
  refine wl_y (y_move rfl) rfl ?_
  refine wl_call Try.func60 rfl rfl rfl (rsecret_any Ae 32 ce (sLab 3) _ _ He (by omega) (sLab_size 3)) rfl ?_
  rintro e v6 ⟨A6, c6, rfl, H6, ex⟩
  refine ⟨_, rfl, ?_⟩
  replace E := E.ext ex
  replace HA := HA.ext ex
  replace H := H.ext ex
  replace B3 := B3.ext ex
  replace B4 := B4.ext ex
  replace He := He.ext ex
  replace H1 := H1.ext ex
  replace H3 := H3.ext ex
  replace H4 := H4.ext ex
  replace H5 := H5.ext ex
  skip
  refine wl_y (y_move rfl) rfl ?_
  refine wl_call Try.func60 rfl rfl rfl (rsecret_any Ae 32 ce (sLab 4) _ _ He (by omega) (sLab_size 4)) rfl ?_
  rintro e v7 ⟨A7, c7, rfl, H7, ex⟩
  refine ⟨_, rfl, ?_⟩
  replace E := E.ext ex
  replace HA := HA.ext ex
  replace H := H.ext ex
  replace B3 := B3.ext ex
  replace B4 := B4.ext ex
  replace He := He.ext ex
  replace H1 := H1.ext ex
  replace H3 := H3.ext ex
  replace H4 := H4.ext ex
  replace H5 := H5.ext ex
  replace H6 := H6.ext ex
  skip
  refine wl_y (y_move rfl) rfl ?_
  refine wl_call Try.func60 rfl rfl rfl (rsecret_any Ae 32 ce (sLab 5) _ _ He (by omega) (sLab_size 5)) rfl ?_
  rintro e v8 ⟨A8, c8, rfl, H8, ex⟩
  refine ⟨_, rfl, ?_⟩
  replace E := E.ext ex
  replace HA := HA.ext ex
  replace H := H.ext ex
  replace B3 := B3.ext ex
  replace B4 := B4.ext ex
  replace He := He.ext ex
  replace H1 := H1.ext ex
  replace H3 := H3.ext ex
  replace H4 := H4.ext ex
  replace H5 := H5.ext ex
  replace H6 := H6.ext ex
  replace H7 := H7.ext ex
  skip
  refine wl_y (y_move rfl) rfl ?_
  refine wl_call Try.func60 rfl rfl rfl (rsecret_any Ae 32 ce (sLab 6) _ _ He (by omega) (sLab_size 6)) rfl ?_
  rintro e v9 ⟨A9, c9, rfl, H9, ex⟩
  refine ⟨_, rfl, ?_⟩
  replace E := E.ext ex
  replace HA := HA.ext ex
  replace H := H.ext ex
  replace B3 := B3.ext ex
  replace B4 := B4.ext ex
  replace He := He.ext ex
  replace H1 := H1.ext ex
  replace H3 := H3.ext ex
  replace H4 := H4.ext ex
  replace H5 := H5.ext ex
  replace H6 := H6.ext ex
  replace H7 := H7.ext ex
  replace H8 := H8.ext ex
  skip
  refine wl_y (y_move rfl) rfl ?_
  refine wl_call Try.func60 rfl rfl rfl (rsecret_any Ae 32 ce (sLab 7) _ _ He (by omega) (sLab_size 7)) rfl ?_
  rintro e v10 ⟨A10, c10, rfl, H10, ex⟩
  refine ⟨_, rfl, ?_⟩
  replace E := E.ext ex
  replace HA := HA.ext ex
  replace H := H.ext ex
  replace B3 := B3.ext ex
  replace B4 := B4.ext ex
  replace He := He.ext ex
  replace H1 := H1.ext ex
  replace H3 := H3.ext ex
  replace H4 := H4.ext ex
  replace H5 := H5.ext ex
  replace H6 := H6.ext ex
  replace H7 := H7.ext ex
  replace H8 := H8.ext ex
  replace H9 := H9.ext ex
  skip
  refine wl_y (y_move rfl) rfl ?_
  refine wl_call Try.func60 rfl rfl rfl (rsecret_any Ae 32 ce (sLab 8) _ _ He (by omega) (sLab_size 8)) rfl ?_
  rintro e v11 ⟨A11, c11, rfl, H11, ex⟩
  refine ⟨_, rfl, ?_⟩
  replace E := E.ext ex
  replace HA := HA.ext ex
  replace H := H.ext ex
  replace B3 := B3.ext ex
  replace B4 := B4.ext ex
  replace He := He.ext ex
  replace H1 := H1.ext ex
  replace H3 := H3.ext ex
  replace H4 := H4.ext ex
  replace H5 := H5.ext ex
  replace H6 := H6.ext ex
  replace H7 := H7.ext ex
  replace H8 := H8.ext ex
  replace H9 := H9.ext ex
  replace H10 := H10.ext ex
  skip
  refine wl_y (y_build rfl (cells := #[.slice A n c, .slice A1 32 c1, .slice Ae 32 ce, .slice A3 32 c3, .slice A4 32 c4, .slice A5 32 c5, .slice A6 32 c6, .slice A7 32 c7, .slice A8 32 c8, .slice A9 32 c9, .slice A10 32 c10, .slice A11 32 c11]) (by kernel_rfl)) rfl ?_
  have HS := secAt_all (c0 := c) (c1 := c1) (c2 := ce) (c3 := c3) (c4 := c4) (c5 := c5) (c6 := c6) (c7 := c7) (c8 := c8) (c9 := c9) (c10 := c10) (c11 := c11) HA H1 He H3 H4 H5 H6 H7 H8 H9 H10 H11
  refine wl_ef (ef_storeW rfl rfl (by kernel_rfl) B4 rfl (by simp [Value.oneCell'])) rfl ?_
  rintro _ w16 ⟨rfl, B16, cg⟩
  have E16 := E.chg cg hw4; have HS16 := HS.chg B4 secZ_sl cg
  refine wl_nil ?_
  refine wq_then_norm (hK3 ?_)
  refine wc_ret ?_
  refine hret rfl B16 rfl ?_
  exact ⟨_, rfl, HS16.congr (by unfold secOf secEp secSub; rfl), E16⟩
theorem sameLists_any (A B : Option Addr) (n c m d : Nat) (xss yss : List (List UInt8)) (w : World) (HA : Bss w A n xss) (HB : Bss w B m yss) (hn : n ≤ 1000000) (hx : ∀ x ∈ xss, x.length ≤ 1000000) (hy : ∀ x ∈ yss, x.length ≤ 1000000) :
    Calls Try.prog 53 #[.slice A n c, .slice B m d] w fun e w' => e = .returned (.bool (decide (xss = yss))) ∧ Ext w w' := by
  have hl1 := HA.1; have hl2 := HB.1
  have HA0 := HA; have HB0 := HB
  refine vc_enter1 27 Try.func53 rfl rfl rfl rfl ?_
  intro Q hret
  refine wc_seq ?_; intro K1 hK1
  refine wc_region ?_
  refine wl_y (y_assign rfl) rfl ?_
  refine wl_nil ?_
  refine wq_then_norm (hK1 ?_)
  refine wc_seq ?_; intro K2 hK2
  refine wc_seq ?_; intro K3 hK3
  refine wc_region ?_
  refine wl_y (y_move rfl) rfl ?_
  refine wl_y (y_len_slice rfl Try.underlying22) rfl ?_
  refine wl_y (y_move rfl) rfl ?_
  refine wl_y (y_len_slice rfl Try.underlying22) rfl ?_
  refine wl_y (y_neq rfl rfl) rfl ?_
  refine wl_nil ?_
  refine wq_then_norm (hK3 ?_)
  refine wc_dec rfl (fun hc1 => ?_) (fun hc1 => ?_)
  · skip
    have hne : xss ≠ yss := fun e => by rw [e, hl2] at hl1; omega
    refine wc_seq ?_; intro K4 hK4
    refine wc_region ?_
    refine wl_y (y_assign rfl) rfl ?_
    refine wl_nil ?_
    refine wq_then_norm (hK4 ?_)
    refine wc_ret ?_
    refine wq_then_ret ?_
    refine hret rfl ?_
    exact ⟨by rw [decide_eq_false hne], Ext.refl _⟩
  · skip
    refine wc_skip ?_
    refine wq_then_norm (hK2 ?_)
    refine wc_seq ?_; intro K5 hK5
    refine wc_seq ?_; intro K6 hK6
    refine wc_region ?_
    refine wl_y (y_assign rfl) rfl ?_
    refine wl_nil ?_
    refine wq_then_norm (hK6 ?_)
    refine wc_block ?_
    refine wc_loop (fun n' L wr => ∃ i : Nat, L = [(0, .slice A n c), (1, .slice B m d), (5, .int .i64 (i : Int))] ∧ n' = n - i ∧ (i ≤ n ∧ Ext w wr ∧ xss.take i = yss.take i)) _ _ ⟨0, rfl, rfl, by omega, Ext.refl _, rfl⟩ ⟨rfl, rfl, (by first | rfl | exact congrArg some (int_val (by omega))), trivial⟩ ?_
    rintro KL1 n' L wr ⟨i, rfl, rfl, hi, E, ht⟩ hL1
    refine wc_seq ?_; intro K7 hK7
    refine wc_seq ?_; intro K8 hK8
    refine wc_region ?_
    refine wl_y (y_move rfl) rfl ?_
    refine wl_y (y_move rfl) rfl ?_
    refine wl_y (y_len_slice rfl Try.underlying22) rfl ?_
    refine wl_y (y_lss rfl rfl) rfl ?_
    refine wl_nil ?_
    refine wq_then_norm (hK8 ?_)
    refine wc_dec rfl (fun hc2 => ?_) (fun hc2 => ?_)
    · skip
      refine wc_skip ?_
      refine wq_then_norm (hK7 ?_)
      refine wc_seq ?_; intro K9 hK9
      refine wc_block ?_
      refine wc_seq ?_; intro K10 hK10
      refine wc_draw (by kernel_rfl) 10 rfl ?_; intro wd6 ex hd6
      replace E := E.ext ex
      obtain ⟨b1, o1, A1, m1, d1, x1, hA1, hx1, h1c, H1⟩ := Bss.get (HA0.ext E) (k := i) (by omega)
      obtain ⟨b2, o2, A2, m2, d2, x2, hB1, hx2, h2c, H2⟩ := Bss.get (HB0.ext E) (k := i) (by omega)
      subst hA1; subst hB1
      have z1 : m1 ≤ 1000000 := by
        rw [← H1.1, hx1.out, List.getD_eq_getElem?_getD, List.getElem?_eq_getElem (by omega)]; exact hx _ (List.getElem_mem _)
      have z2 : m2 ≤ 1000000 := by
        rw [← H2.1, hx2.out, List.getD_eq_getElem?_getD, List.getElem?_eq_getElem (by omega)]; exact hy _ (List.getElem_mem _)
      refine wm_y 0 rfl (by kernel_rfl) (y_move rfl) rfl ?_
      refine wm_y 1 rfl (by kernel_rfl) (y_move rfl) rfl ?_
      refine wm_y 2 rfl (by kernel_rfl) (y_ixs1 rfl rfl Try.underlying22 (by kernel_rfl) rfl (by omega)) rfl ?_
      refine wm_y 3 rfl (by kernel_rfl) (y_load1 rfl Try.underlying24 rfl h1c) rfl ?_
      refine wm_y 4 rfl (by kernel_rfl) (y_move rfl) rfl ?_
      refine wm_y 5 rfl (by kernel_rfl) (y_move rfl) rfl ?_
      refine wm_y 6 rfl (by kernel_rfl) (y_ixs1 rfl rfl Try.underlying22 (by kernel_rfl) rfl (by omega)) rfl ?_
      refine wm_y 7 rfl (by kernel_rfl) (y_load1 rfl Try.underlying24 rfl h2c) rfl ?_
      refine wm_one 8 (by kernel_rfl) ?_; refine om_call rfl Try.func14 rfl rfl rfl (sameX_any A1 A2 m1 m2 d1 d2 x1 x2 _ H1 H2 (by omega) (by omega)) rfl ?_
      rintro e w3 ⟨rfl, ex⟩
      refine ⟨_, rfl, .inr ex, ?_⟩
      have E3 := E.ext ex
      have e1 : x1 = xss[i]'(by omega) := by rw [hx1.out, List.getD_eq_getElem?_getD, List.getElem?_eq_getElem (by omega)]; rfl
      have e2 : x2 = yss[i]'(by omega) := by rw [hx2.out, List.getD_eq_getElem?_getD, List.getElem?_eq_getElem (by omega)]; rfl
      refine wm_y 9 rfl (by kernel_rfl) (y_not rfl) rfl ?_
      refine wm_done (by kernel_rfl) ?_
      refine wq_nop ?_
      refine wq_then_norm (hK10 ?_)
      refine wc_cond rfl (fun hc3 => ?_) (fun hc3 => ?_)
      · skip
        have hd : x1 ≠ x2 := by simpa using hc3
        refine wc_seq ?_; intro K11 hK11
        refine wc_region ?_
        refine wl_y (y_assign rfl) rfl ?_
        refine wl_nil ?_
        refine wq_then_norm (hK11 ?_)
        refine wc_ret ?_
        refine wq_blk_ret ?_
        refine wq_then_ret ?_
        refine wq_then_ret ?_
        refine wq_blk_ret ?_
        refine wq_then_ret ?_
        refine hret rfl ?_
        have hne : xss ≠ yss := fun e => hd (by rw [e1, e2]; simp only [e])
        exact ⟨by rw [decide_eq_false hne], E3⟩
      · skip
        have hd : x1 = x2 := by simpa using hc3
        refine wc_skip ?_
        refine wq_blk_norm ?_
        refine wq_then_norm (hK9 ?_)
        refine wc_region ?_
        refine wl_y (y_move rfl) rfl ?_
        refine wl_y (y_add rfl rfl (i64_ok (by omega) (by omega))) rfl ?_
        refine wl_y (y_assign rfl) rfl ?_
        refine wl_nil ?_
        refine wq_then_norm ?_
        refine hL1 _ _ ⟨i + 1, rfl, rfl, by omega, E3, by rw [List.take_succ_eq_append_getElem (by omega), List.take_succ_eq_append_getElem (by omega), ht, ← e1, ← e2, hd]⟩ (by omega) ⟨rfl, rfl, (by first | rfl | exact congrArg some (int_val (by omega))), trivial⟩
    · skip
      refine wc_exit ?_
      refine wq_then_exit ?_
      refine wq_then_exit ?_
      refine wq_blk_hit ?_
      refine wq_then_norm (hK5 ?_)
      refine wc_seq ?_; intro K12 hK12
      refine wc_region ?_
      refine wl_y (y_assign rfl) rfl ?_
      refine wl_nil ?_
      refine wq_then_norm (hK12 ?_)
      refine wc_ret ?_
      refine hret rfl ?_
      have he : xss = yss := by
        rw [List.take_of_length_le (by omega), List.take_of_length_le (by omega)] at ht; exact ht
      exact ⟨by rw [decide_eq_true he], E⟩
theorem bss_sec {w : World} {g : Nat} {t : TypeId} {cs : Array Value} {l : List (List UInt8)} (H : SecAt w cs l) (B : Blk w g t cs) : Bss w (some ⟨g, 0, none⟩) 12 l := by
  obtain ⟨vs, rfl, h2, h3, h4⟩ := H
  refine ⟨h3, vs, by omega, At.blk B, fun i hi => ?_⟩
  obtain ⟨A, n, c, h5, h6⟩ := h4 i hi
  exact ⟨A, n, c, h5, h6⟩
theorem rsSame_any (cs ds : Array Value) (l m : List (List UInt8)) (w : World) (H : SecAt w cs l) (K : SecAt w ds m) (hl : ∀ x ∈ l, x.length ≤ 1000000) (hm : ∀ x ∈ m, x.length ≤ 1000000) :
    Calls Try.prog 22 #[.agg cs, .agg ds] w fun e w' => e = .returned (.bool (decide (l = m))) ∧ Ext w w' := by
  have E := Ext.refl w
  have hcs : cs.size = 12 := H.size
  have hds : ds.size = 12 := K.size
  obtain ⟨a0, na0, ca0, qa0, _⟩ := H.get (i := 0) (by omega)
  obtain ⟨b0, nb0, cb0, qb0, _⟩ := K.get (i := 0) (by omega)
  obtain ⟨a1, na1, ca1, qa1, _⟩ := H.get (i := 1) (by omega)
  obtain ⟨b1, nb1, cb1, qb1, _⟩ := K.get (i := 1) (by omega)
  obtain ⟨a2, na2, ca2, qa2, _⟩ := H.get (i := 2) (by omega)
  obtain ⟨b2, nb2, cb2, qb2, _⟩ := K.get (i := 2) (by omega)
  obtain ⟨a3, na3, ca3, qa3, _⟩ := H.get (i := 3) (by omega)
  obtain ⟨b3, nb3, cb3, qb3, _⟩ := K.get (i := 3) (by omega)
  obtain ⟨a4, na4, ca4, qa4, _⟩ := H.get (i := 4) (by omega)
  obtain ⟨b4, nb4, cb4, qb4, _⟩ := K.get (i := 4) (by omega)
  obtain ⟨a5, na5, ca5, qa5, _⟩ := H.get (i := 5) (by omega)
  obtain ⟨b5, nb5, cb5, qb5, _⟩ := K.get (i := 5) (by omega)
  obtain ⟨a6, na6, ca6, qa6, _⟩ := H.get (i := 6) (by omega)
  obtain ⟨b6, nb6, cb6, qb6, _⟩ := K.get (i := 6) (by omega)
  obtain ⟨a7, na7, ca7, qa7, _⟩ := H.get (i := 7) (by omega)
  obtain ⟨b7, nb7, cb7, qb7, _⟩ := K.get (i := 7) (by omega)
  obtain ⟨a8, na8, ca8, qa8, _⟩ := H.get (i := 8) (by omega)
  obtain ⟨b8, nb8, cb8, qb8, _⟩ := K.get (i := 8) (by omega)
  obtain ⟨a9, na9, ca9, qa9, _⟩ := H.get (i := 9) (by omega)
  obtain ⟨b9, nb9, cb9, qb9, _⟩ := K.get (i := 9) (by omega)
  obtain ⟨a10, na10, ca10, qa10, _⟩ := H.get (i := 10) (by omega)
  obtain ⟨b10, nb10, cb10, qb10, _⟩ := K.get (i := 10) (by omega)
  obtain ⟨a11, na11, ca11, qa11, _⟩ := H.get (i := 11) (by omega)
  obtain ⟨b11, nb11, cb11, qb11, _⟩ := K.get (i := 11) (by omega)
  have ecs : cs = #[.slice a0 na0 ca0, .slice a1 na1 ca1, .slice a2 na2 ca2, .slice a3 na3 ca3, .slice a4 na4 ca4, .slice a5 na5 ca5, .slice a6 na6 ca6, .slice a7 na7 ca7, .slice a8 na8 ca8, .slice a9 na9 ca9, .slice a10 na10 ca10, .slice a11 na11 ca11] := by
    apply Array.ext_getElem?
    intro i
    match i with
    | 0 => rw [qa0]; rfl
    | 1 => rw [qa1]; rfl
    | 2 => rw [qa2]; rfl
    | 3 => rw [qa3]; rfl
    | 4 => rw [qa4]; rfl
    | 5 => rw [qa5]; rfl
    | 6 => rw [qa6]; rfl
    | 7 => rw [qa7]; rfl
    | 8 => rw [qa8]; rfl
    | 9 => rw [qa9]; rfl
    | 10 => rw [qa10]; rfl
    | 11 => rw [qa11]; rfl
    | i + 12 => rw [Array.getElem?_eq_none (by omega)]; simp
  have eds : ds = #[.slice b0 nb0 cb0, .slice b1 nb1 cb1, .slice b2 nb2 cb2, .slice b3 nb3 cb3, .slice b4 nb4 cb4, .slice b5 nb5 cb5, .slice b6 nb6 cb6, .slice b7 nb7 cb7, .slice b8 nb8 cb8, .slice b9 nb9 cb9, .slice b10 nb10 cb10, .slice b11 nb11 cb11] := by
    apply Array.ext_getElem?
    intro i
    match i with
    | 0 => rw [qb0]; rfl
    | 1 => rw [qb1]; rfl
    | 2 => rw [qb2]; rfl
    | 3 => rw [qb3]; rfl
    | 4 => rw [qb4]; rfl
    | 5 => rw [qb5]; rfl
    | 6 => rw [qb6]; rfl
    | 7 => rw [qb7]; rfl
    | 8 => rw [qb8]; rfl
    | 9 => rw [qb9]; rfl
    | 10 => rw [qb10]; rfl
    | 11 => rw [qb11]; rfl
    | i + 12 => rw [Array.getElem?_eq_none (by omega)]; simp
  refine vc_enter1 60 Try.func22 rfl rfl rfl rfl ?_
  intro Q hret
  refine wc_seq ?_; intro K1 hK1
  refine wc_region ?_
  refine wl_ef (ef_box (cs := cs) rfl rfl) rfl ?_
  rintro _ w1 ⟨g1, rfl, B1, hg1, ex⟩
  replace E := E.ext ex
  replace H := H.ext ex
  replace K := K.ext ex
  skip
  refine wl_ef (ef_box (cs := ds) rfl rfl) rfl ?_
  rintro _ w2 ⟨g2, rfl, B2, hg2, ex⟩
  replace E := E.ext ex
  replace H := H.ext ex
  replace K := K.ext ex
  replace B1 := B1.ext ex
  skip
  refine wl_y (y_assign rfl) rfl ?_
  refine wl_nil ?_
  refine wq_then_norm (hK1 ?_)
  refine wc_seq ?_; intro K2 hK2
  refine wc_region ?_
  refine wl_y (y_fieldAddr (o := 0) (s := 1) (off := 0) (o' := 0) rfl Try.underlying42 rfl (by kernel_rfl) rfl rfl) rfl ?_
  refine wl_y (y_load1 rfl Try.underlying24 rfl (B1.get qa0)) rfl ?_
  refine wl_y (y_fieldAddr (o := 1) (s := 1) (off := 0) (o' := 1) rfl Try.underlying42 rfl (by kernel_rfl) rfl rfl) rfl ?_
  refine wl_y (y_load1 rfl Try.underlying24 rfl (B1.get qa1)) rfl ?_
  refine wl_y (y_fieldAddr (o := 2) (s := 1) (off := 0) (o' := 2) rfl Try.underlying42 rfl (by kernel_rfl) rfl rfl) rfl ?_
  refine wl_y (y_load1 rfl Try.underlying24 rfl (B1.get qa2)) rfl ?_
  refine wl_y (y_fieldAddr (o := 3) (s := 1) (off := 0) (o' := 3) rfl Try.underlying42 rfl (by kernel_rfl) rfl rfl) rfl ?_
  refine wl_y (y_load1 rfl Try.underlying24 rfl (B1.get qa3)) rfl ?_
  refine wl_y (y_fieldAddr (o := 4) (s := 1) (off := 0) (o' := 4) rfl Try.underlying42 rfl (by kernel_rfl) rfl rfl) rfl ?_
  refine wl_y (y_load1 rfl Try.underlying24 rfl (B1.get qa4)) rfl ?_
  refine wl_y (y_fieldAddr (o := 5) (s := 1) (off := 0) (o' := 5) rfl Try.underlying42 rfl (by kernel_rfl) rfl rfl) rfl ?_
  refine wl_y (y_load1 rfl Try.underlying24 rfl (B1.get qa5)) rfl ?_
  refine wl_y (y_fieldAddr (o := 6) (s := 1) (off := 0) (o' := 6) rfl Try.underlying42 rfl (by kernel_rfl) rfl rfl) rfl ?_
  refine wl_y (y_load1 rfl Try.underlying24 rfl (B1.get qa6)) rfl ?_
  refine wl_y (y_fieldAddr (o := 7) (s := 1) (off := 0) (o' := 7) rfl Try.underlying42 rfl (by kernel_rfl) rfl rfl) rfl ?_
  refine wl_y (y_load1 rfl Try.underlying24 rfl (B1.get qa7)) rfl ?_
  refine wl_y (y_fieldAddr (o := 8) (s := 1) (off := 0) (o' := 8) rfl Try.underlying42 rfl (by kernel_rfl) rfl rfl) rfl ?_
  refine wl_y (y_load1 rfl Try.underlying24 rfl (B1.get qa8)) rfl ?_
  refine wl_y (y_fieldAddr (o := 9) (s := 1) (off := 0) (o' := 9) rfl Try.underlying42 rfl (by kernel_rfl) rfl rfl) rfl ?_
  refine wl_y (y_load1 rfl Try.underlying24 rfl (B1.get qa9)) rfl ?_
  refine wl_y (y_fieldAddr (o := 10) (s := 1) (off := 0) (o' := 10) rfl Try.underlying42 rfl (by kernel_rfl) rfl rfl) rfl ?_
  refine wl_y (y_load1 rfl Try.underlying24 rfl (B1.get qa10)) rfl ?_
  refine wl_y (y_fieldAddr (o := 11) (s := 1) (off := 0) (o' := 11) rfl Try.underlying42 rfl (by kernel_rfl) rfl rfl) rfl ?_
  refine wl_y (y_load1 rfl Try.underlying24 rfl (B1.get qa11)) rfl ?_
  refine wl_ef (ef_lit (z := .slice none 0 0) Try.underlying22 (by kernel_rfl) rfl rfl rfl rfl rfl) rfl ?_
  rintro _ w3 ⟨g3, rfl, B3, hg3, ex⟩
  replace E := E.ext ex
  replace H := H.ext ex
  replace K := K.ext ex
  replace B1 := B1.ext ex
  replace B2 := B2.ext ex
  skip
  refine wl_y (y_assign rfl) rfl ?_
  refine wl_nil ?_
  refine wq_then_norm (hK2 ?_)
  refine wc_seq ?_; intro K3 hK3
  refine wc_region ?_
  refine wl_y (y_fieldAddr (o := 0) (s := 1) (off := 0) (o' := 0) rfl Try.underlying42 rfl (by kernel_rfl) rfl rfl) rfl ?_
  refine wl_y (y_load1 rfl Try.underlying24 rfl (B2.get qb0)) rfl ?_
  refine wl_y (y_fieldAddr (o := 1) (s := 1) (off := 0) (o' := 1) rfl Try.underlying42 rfl (by kernel_rfl) rfl rfl) rfl ?_
  refine wl_y (y_load1 rfl Try.underlying24 rfl (B2.get qb1)) rfl ?_
  refine wl_y (y_fieldAddr (o := 2) (s := 1) (off := 0) (o' := 2) rfl Try.underlying42 rfl (by kernel_rfl) rfl rfl) rfl ?_
  refine wl_y (y_load1 rfl Try.underlying24 rfl (B2.get qb2)) rfl ?_
  refine wl_y (y_fieldAddr (o := 3) (s := 1) (off := 0) (o' := 3) rfl Try.underlying42 rfl (by kernel_rfl) rfl rfl) rfl ?_
  refine wl_y (y_load1 rfl Try.underlying24 rfl (B2.get qb3)) rfl ?_
  refine wl_y (y_fieldAddr (o := 4) (s := 1) (off := 0) (o' := 4) rfl Try.underlying42 rfl (by kernel_rfl) rfl rfl) rfl ?_
  refine wl_y (y_load1 rfl Try.underlying24 rfl (B2.get qb4)) rfl ?_
  refine wl_y (y_fieldAddr (o := 5) (s := 1) (off := 0) (o' := 5) rfl Try.underlying42 rfl (by kernel_rfl) rfl rfl) rfl ?_
  refine wl_y (y_load1 rfl Try.underlying24 rfl (B2.get qb5)) rfl ?_
  refine wl_y (y_fieldAddr (o := 6) (s := 1) (off := 0) (o' := 6) rfl Try.underlying42 rfl (by kernel_rfl) rfl rfl) rfl ?_
  refine wl_y (y_load1 rfl Try.underlying24 rfl (B2.get qb6)) rfl ?_
  refine wl_y (y_fieldAddr (o := 7) (s := 1) (off := 0) (o' := 7) rfl Try.underlying42 rfl (by kernel_rfl) rfl rfl) rfl ?_
  refine wl_y (y_load1 rfl Try.underlying24 rfl (B2.get qb7)) rfl ?_
  refine wl_y (y_fieldAddr (o := 8) (s := 1) (off := 0) (o' := 8) rfl Try.underlying42 rfl (by kernel_rfl) rfl rfl) rfl ?_
  refine wl_y (y_load1 rfl Try.underlying24 rfl (B2.get qb8)) rfl ?_
  refine wl_y (y_fieldAddr (o := 9) (s := 1) (off := 0) (o' := 9) rfl Try.underlying42 rfl (by kernel_rfl) rfl rfl) rfl ?_
  refine wl_y (y_load1 rfl Try.underlying24 rfl (B2.get qb9)) rfl ?_
  refine wl_y (y_fieldAddr (o := 10) (s := 1) (off := 0) (o' := 10) rfl Try.underlying42 rfl (by kernel_rfl) rfl rfl) rfl ?_
  refine wl_y (y_load1 rfl Try.underlying24 rfl (B2.get qb10)) rfl ?_
  refine wl_y (y_fieldAddr (o := 11) (s := 1) (off := 0) (o' := 11) rfl Try.underlying42 rfl (by kernel_rfl) rfl rfl) rfl ?_
  refine wl_y (y_load1 rfl Try.underlying24 rfl (B2.get qb11)) rfl ?_
  refine wl_ef (ef_lit (z := .slice none 0 0) Try.underlying22 (by kernel_rfl) rfl rfl rfl rfl rfl) rfl ?_
  rintro _ w4 ⟨g4, rfl, B4, hg4, ex⟩
  replace E := E.ext ex
  replace H := H.ext ex
  replace K := K.ext ex
  replace B1 := B1.ext ex
  replace B2 := B2.ext ex
  replace B3 := B3.ext ex
  skip
  refine wl_y (y_assign rfl) rfl ?_
  refine wl_nil ?_
  refine wq_then_norm (hK3 ?_)
  refine wc_seq ?_; intro K4 hK4
  refine wc_region ?_
  refine wl_y (y_move rfl) rfl ?_
  refine wl_y (y_move rfl) rfl ?_
  refine wl_call Try.func53 rfl rfl rfl (sameLists_any _ _ 12 12 12 12 l m _ (bss_sec H (B3.congr ecs.symm)) (bss_sec K (B4.congr eds.symm)) (by omega) hl hm) rfl ?_
  rintro e w5 ⟨rfl, ex⟩
  refine ⟨_, rfl, ?_⟩
  replace E := E.ext ex
  replace H := H.ext ex
  replace K := K.ext ex
  replace B1 := B1.ext ex
  replace B2 := B2.ext ex
  replace B3 := B3.ext ex
  replace B4 := B4.ext ex
  skip
  refine wl_y (y_assign rfl) rfl ?_
  refine wl_nil ?_
  refine wq_then_norm (hK4 ?_)
  refine wc_ret ?_
  refine hret rfl ?_
  exact ⟨rfl, E⟩
theorem smallCtx_any (cs : Array Value) (x : Ctx) (w : World) (H : CtxAt w cs x) (he : x.ep < 18446744073709551616) :
    Calls Try.prog 19 #[.agg cs] w fun e w' => ∃ p : Prop, ∃ h : Decidable p, e = .returned (.bool (decide p)) ∧ (p ↔ x.Small) ∧ Ext w w' := by
  obtain ⟨A1, A2, A3, n1, c1, n2, c2, n3, c3, rfl, H1, H2, H3⟩ := H
  have hl1 := H1.1; have hl2 := H2.1; have hl3 := H3.1
  have E := Ext.refl w
  refine vc_enter1 19 Try.func19 rfl rfl rfl rfl ?_
  intro Q hret
  refine wc_seq ?_; intro K1 hK1
  refine wc_region ?_
  refine wl_ef (ef_box (cs := ctxV A1 A2 A3 n1 c1 n2 c2 n3 c3 x.ep) rfl rfl) rfl ?_
  rintro _ w1 ⟨g1, rfl, B1, hg1, ex⟩
  replace E := E.ext ex
  skip
  refine wl_y (y_assign rfl) rfl ?_
  refine wl_nil ?_
  refine wq_then_norm (hK1 ?_)
  refine wc_seq ?_; intro K2 hK2
  refine wc_region ?_
  refine wl_y (y_fieldAddr (o := 0) (s := 1) (off := 0) (o' := 0) rfl Try.underlying39 rfl (by kernel_rfl) rfl rfl) rfl ?_
  refine wl_y (y_load1 rfl Try.underlying24 rfl (B1.get (i := 0) rfl)) rfl ?_
  refine wl_y (y_len_slice rfl Try.underlying24) rfl ?_
  refine wl_yask (y_leq rfl rfl) rfl (fun h1 => ?_) (fun h1 => ?_)
  · skip
    refine wl_y (y_move rfl) rfl ?_
    refine wl_gy 7 rfl rfl (y_fieldAddr (o := 2) (s := 1) (off := 0) (o' := 2) rfl Try.underlying39 rfl (by kernel_rfl) rfl rfl) rfl ?_
    refine wl_gy 7 rfl rfl (y_load1 rfl Try.underlying24 rfl (B1.get (i := 2) rfl)) rfl ?_
    refine wl_gy 7 rfl rfl (y_len_slice rfl Try.underlying24) rfl ?_
    refine wl_gyask 7 rfl rfl (y_leq rfl rfl) rfl (fun h2 => ?_) (fun h2 => ?_)
    · skip
      refine wl_y (y_pickt rfl rfl) rfl ?_
      refine wl_y (y_move rfl) rfl ?_
      refine wl_gy 13 rfl rfl (y_fieldAddr (o := 3) (s := 1) (off := 0) (o' := 3) rfl Try.underlying39 rfl (by kernel_rfl) rfl rfl) rfl ?_
      refine wl_gy 13 rfl rfl (y_load1 rfl Try.underlying24 rfl (B1.get (i := 3) rfl)) rfl ?_
      refine wl_gy 13 rfl rfl (y_len_slice rfl Try.underlying24) rfl ?_
      refine wl_gyask 13 rfl rfl (y_leq rfl rfl) rfl (fun h3 => ?_) (fun h3 => ?_)
      · skip
        refine wl_y (y_pickt rfl rfl) rfl ?_
        refine wl_y (y_assign rfl) rfl ?_
        refine wl_nil ?_
        refine wq_then_norm (hK2 ?_)
        refine wc_ret ?_
        refine hret rfl ?_
        exact ⟨True, inferInstance, rfl, ⟨fun _ => ⟨by omega, by omega, by omega, he⟩, fun _ => trivial⟩, E⟩
      · skip
        refine wl_y (y_pickt rfl rfl) rfl ?_
        refine wl_y (y_assign rfl) rfl ?_
        refine wl_nil ?_
        refine wq_then_norm (hK2 ?_)
        refine wc_ret ?_
        refine hret rfl ?_
        exact ⟨False, inferInstance, rfl, ⟨False.elim, fun h => by obtain ⟨q1, q2, q3, _⟩ := h; omega⟩, E⟩
    · skip
      refine wl_y (y_pickt rfl rfl) rfl ?_
      refine wl_y (y_move rfl) rfl ?_
      refine wl_gno 13 rfl rfl rfl rfl ?_
      refine wl_gno 13 rfl rfl rfl rfl ?_
      refine wl_gno 13 rfl rfl rfl rfl ?_
      refine wl_gno 13 rfl rfl rfl rfl ?_
      refine wl_y (y_pickf rfl rfl) rfl ?_
      refine wl_y (y_assign rfl) rfl ?_
      refine wl_nil ?_
      refine wq_then_norm (hK2 ?_)
      refine wc_ret ?_
      refine hret rfl ?_
      exact ⟨False, inferInstance, rfl, ⟨False.elim, fun h => by obtain ⟨q1, q2, q3, _⟩ := h; omega⟩, E⟩
  · skip
    refine wl_y (y_move rfl) rfl ?_
    refine wl_gno 7 rfl rfl rfl rfl ?_
    refine wl_gno 7 rfl rfl rfl rfl ?_
    refine wl_gno 7 rfl rfl rfl rfl ?_
    refine wl_gno 7 rfl rfl rfl rfl ?_
    refine wl_y (y_pickf rfl rfl) rfl ?_
    refine wl_y (y_move rfl) rfl ?_
    refine wl_gno 13 rfl rfl rfl rfl ?_
    refine wl_gno 13 rfl rfl rfl rfl ?_
    refine wl_gno 13 rfl rfl rfl rfl ?_
    refine wl_gno 13 rfl rfl rfl rfl ?_
    refine wl_y (y_pickf rfl rfl) rfl ?_
    refine wl_y (y_assign rfl) rfl ?_
    refine wl_nil ?_
    refine wq_then_norm (hK2 ?_)
    refine wc_ret ?_
    refine hret rfl ?_
    exact ⟨False, inferInstance, rfl, ⟨False.elim, fun h => by obtain ⟨q1, q2, q3, _⟩ := h; omega⟩, E⟩
end Go.Proofs.Ytopbahbhldgbbaa
