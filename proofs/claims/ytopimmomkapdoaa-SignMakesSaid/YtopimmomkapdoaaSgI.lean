/- The law SignMakes: it answers true whatever it is given. -/
import Derived.Test.YtopimmomkapdoaaSgH
namespace Go.Proofs.Ytopimmomkapdoaa
open Go.RowKit
attribute [local irreducible] Y Ef WL WC WK WQ WM OpM WN WF OpN
theorem sum_way (s t : List UInt8) : (Sg.dig (Sg.pre s ++ t ++ []) + Sg.dig (Sg.point s t ++ Sg.pub s ++ t) * Sg.sec s) % Sc.L = Sg.sum s t := by
  rw [List.append_nil]
  unfold Sg.sum Sg.rnd Sg.chal
  rw [Nat.add_mod_mod]
theorem z4_zero : ws z4 = ws (Sc.wd 0) := ws_congr fun j _ => by unfold z4 Sc.wd; simp
set_option maxHeartbeats 2000000 in
theorem signMakes_law (A : Option Addr) (n c : Nat) (xs : List UInt8) (B : Option Addr) (m d : Nat) (ts : List UInt8) (w : World) (HA : Bs w A n xs) (_hn : n ≤ maxLen) (HB : Bs w B m ts) (_hm : m ≤ maxLen) :
    Calls Try.prog 9 #[.slice A n c, .slice B m d] w fun e w' => e = .returned (.bool true) ∧ Below w.heap.size w w' := by
  have E := Ext.refl w
  have hlA := HA.1
  have hsl := Sg.sec_lt xs
  refine vc_enter1 123 Try.func9 rfl rfl rfl rfl ?_
  intro Q hret
  refine wc_seq ?_; intro K1 hK1
  refine wc_region ?_
  refine wl_y (y_assign rfl) rfl ?_
  refine wl_nil ?_
  refine wq_then_norm (hK1 ?_)
  refine wc_seq ?_; intro K2 hK2
  refine wc_seq ?_; intro K3 hK3
  refine wc_region ?_
  refine wl_call Try.func31 rfl rfl rfl (alive10_any _) rfl ?_
  rintro e w1 ⟨rfl, ex⟩
  refine ⟨_, rfl, ?_⟩
  replace E := E.ext ex
  refine wl_y (y_not rfl) rfl ?_
  refine wl_nil ?_
  refine wq_then_norm (hK3 ?_)
  refine wc_false rfl rfl ?_
  refine wc_skip ?_
  refine wq_then_norm (hK2 ?_)
  refine wc_seq ?_; intro K4 hK4
  refine wc_seq ?_; intro K5 hK5
  refine wc_region ?_
  refine wl_y (y_move rfl) rfl ?_
  refine wl_y (y_len_slice rfl Try.underlying22) rfl ?_
  refine wl_y (y_gtr rfl rfl) rfl ?_
  refine wl_yask (y_move rfl) rfl (fun h1 => ?_) (fun h1 => ?_)
  · skip
    refine wl_gno 21 rfl rfl rfl rfl ?_
    refine wl_gno 21 rfl rfl rfl rfl ?_
    refine wl_gno 21 rfl rfl rfl rfl ?_
    refine wl_y (y_pickt rfl rfl) rfl ?_
    refine wl_nil ?_
    refine wq_then_norm (hK5 ?_)
    refine wc_true rfl rfl ?_
    refine wc_seq ?_; intro K6 hK6
    refine wc_region ?_
    refine wl_y (y_assign rfl) rfl ?_
    refine wl_nil ?_
    refine wq_then_norm (hK6 ?_)
    refine wc_ret ?_
    refine wq_then_ret ?_
    refine hret rfl ?_
    exact ⟨rfl, E⟩
  · skip
    refine wl_gy 21 rfl rfl (y_move rfl) rfl ?_
    refine wl_gy 21 rfl rfl (y_len_slice rfl Try.underlying22) rfl ?_
    refine wl_gy 21 rfl rfl (y_gtr rfl rfl) rfl ?_
    refine wl_y (y_pickf rfl rfl) rfl ?_
    refine wl_nil ?_
    refine wq_then_norm (hK5 ?_)
    refine wc_dec rfl (fun hc2 => ?_) (fun hc2 => ?_)
    · skip
      refine wc_seq ?_; intro K7 hK7
      refine wc_region ?_
      refine wl_y (y_assign rfl) rfl ?_
      refine wl_nil ?_
      refine wq_then_norm (hK7 ?_)
      refine wc_ret ?_
      refine wq_then_ret ?_
      refine hret rfl ?_
      exact ⟨rfl, E⟩
    · skip
      refine wc_skip ?_
      refine wq_then_norm (hK4 ?_)
      refine wc_seq ?_; intro K8 hK8
      by_cases h32 : xs.length = 32
      · skip
        refine wc_region ?_
        refine wl_y (y_move rfl) rfl ?_
        refine wl_call Try.func44 rfl rfl rfl (Public_t (HA.ext E) h32) rfl ?_
        rintro e w2 ⟨A5, c5, rfl, H5, h5, ex⟩
        refine ⟨_, rfl, ?_⟩
        replace E := E.ext ex
        skip
        refine wl_y (y_move rfl) rfl ?_
        refine wl_y (y_extract rfl rfl) rfl ?_
        refine wl_y (y_extract rfl rfl) rfl ?_
        refine wl_y (y_assign rfl) rfl ?_
        refine wl_y (y_assign rfl) rfl ?_
        refine wl_nil ?_
        refine wq_then_norm (hK8 ?_)
        refine wc_seq ?_; intro K9 hK9
        refine wc_region ?_
        refine wl_y (y_move rfl) rfl ?_
        refine wl_y (y_move rfl) rfl ?_
        refine wl_call Try.func45 rfl rfl rfl (Sign_t (HA.ext E) (HB.ext E) h32 (by omega)) rfl ?_
        rintro e w3 ⟨A7, c7, rfl, H7, h7, ex⟩
        refine ⟨_, rfl, ?_⟩
        replace E := E.ext ex
        replace H5 := H5.ext ex
        skip
        refine wl_y (y_move rfl) rfl ?_
        refine wl_y (y_extract rfl rfl) rfl ?_
        refine wl_y (y_extract rfl rfl) rfl ?_
        refine wl_y (y_assign rfl) rfl ?_
        refine wl_y (y_assign rfl) rfl ?_
        refine wl_nil ?_
        refine wq_then_norm (hK9 ?_)
        refine wc_seq ?_; intro K10 hK10
        refine wc_seq ?_; intro K11 hK11
        refine wc_region ?_
        refine wl_y (y_move rfl) rfl ?_
        refine wl_y (y_len_slice rfl Try.underlying22) rfl ?_
        refine wl_y (y_neq rfl rfl) rfl ?_
        refine wl_nil ?_
        refine wq_then_norm (hK11 ?_)
        refine wc_no rfl (by omega) ?_
        refine wc_skip ?_
        refine wq_then_norm (hK10 ?_)
        refine wc_seq ?_; intro K12 hK12
        refine wc_region ?_
        refine wl_y (y_move rfl) rfl ?_
        refine wl_call Try.func49 rfl rfl rfl (rsecret10_any A n c xs _ (HA.ext E) (by omega)) rfl ?_
        rintro e w6 ⟨A8, n8, c8, rfl, H8, h8, ex⟩
        refine ⟨_, rfl, ?_⟩
        replace E := E.ext ex
        replace H5 := H5.ext ex
        replace H7 := H7.ext ex
        skip
        refine wl_call Try.func48 rfl rfl rfl (rmod08_any A8 n8 c8 _ _ H8 (by omega)) rfl ?_
        rintro e w7 ⟨A9, n9, c9, rfl, H9, h9, ex⟩
        refine ⟨_, rfl, ?_⟩
        replace E := E.ext ex
        replace H5 := H5.ext ex
        replace H7 := H7.ext ex
        replace H9 : Bg w7 A9 n9 (Sg.sec xs) := H9
        refine wl_y (y_assign rfl) rfl ?_
        refine wl_nil ?_
        refine wq_then_norm (hK12 ?_)
        refine wc_seq ?_; intro K13 hK13
        refine wc_region ?_
        refine wl_y (y_move rfl) rfl ?_
        refine wl_call Try.func50 rfl rfl rfl (rprefix10_any A n c xs _ (HA.ext E) (by omega)) rfl ?_
        rintro e w8 ⟨A10, c10, rfl, H10, ex⟩
        refine ⟨_, rfl, ?_⟩
        replace E := E.ext ex
        replace H5 := H5.ext ex
        replace H7 := H7.ext ex
        replace H9 := H9.ext ex
        skip
        refine wl_y (y_move rfl) rfl ?_
        refine wl_call Try.func37 rfl rfl rfl (rdig_any A10 32 c10 (Sg.pre xs) B m d ts none 0 0 [] _ H10 (HB.ext E) (Bs.nil _ _) (by omega) (by omega) (by omega)) rfl ?_
        rintro e w9 ⟨A11, n11, c11, rfl, H11, h11, ex⟩
        refine ⟨_, rfl, ?_⟩
        replace E := E.ext ex
        replace H5 := H5.ext ex
        replace H7 := H7.ext ex
        replace H9 := H9.ext ex
        replace H10 := H10.ext ex
        have hrl := Sg.dig_lt (Sg.pre xs ++ ts ++ []); have hre : Sg.dig (Sg.pre xs ++ ts ++ []) = Sg.rnd xs ts := (by rw [List.append_nil]; rfl)
        refine wl_y (y_assign rfl) rfl ?_
        refine wl_nil ?_
        refine wq_then_norm (hK13 ?_)
        refine wc_seq ?_; intro K14 hK14
        refine wc_region ?_
        refine wl_call Try.func38 rfl rfl rfl (pbase_any _) rfl ?_
        rintro e w10 ⟨cb, rfl, PB, ex⟩
        refine ⟨_, rfl, ?_⟩
        replace E := E.ext ex
        replace H5 := H5.ext ex
        replace H7 := H7.ext ex
        replace H9 := H9.ext ex
        replace H11 := H11.ext ex
        skip
        have hz := E.size; have F := Ext.refl w10; have E0 := E; have H50 := H5; have H70 := H7; have H90 := H9; have H110 := H11
        refine wl_ef (ef_alloc (Z := pc zf zf zf zf false) (by kernel_rfl)) rfl ?_
        rintro _ w11 ⟨g12, rfl, B12, hg12, ex⟩
        replace F := F.ext ex
        refine wl_ef (ef_storeW rfl rfl (by rw [PB.size]; kernel_rfl) B12 (by rw [pc_size, PB.size]) PB.one) rfl ?_
        rintro _ w12 ⟨rfl, D12, cg⟩
        replace F := F.chg cg hg12; replace E := E0.ext F; replace H5 := H50.ext F; replace H7 := H70.ext F; replace H9 := H90.ext F; replace H11 := H110.ext F; replace B12 := D12
        refine wl_nil ?_
        refine wq_then_norm (hK14 ?_)
        refine wc_seq ?_; intro K15 hK15
        refine wc_draw (by kernel_rfl) 7 rfl ?_; intro wd12 ex hd12
        replace E := E.ext ex
        replace H5 := H5.ext ex
        replace H7 := H7.ext ex
        replace H9 := H9.ext ex
        replace H11 := H11.ext ex
        replace B12 := B12.ext ex
        refine wm_y 0 rfl (by kernel_rfl) (y_qq rfl PB.pp B12) rfl ?_
        refine wm_y 1 rfl (by kernel_rfl) (y_move rfl) rfl ?_
        refine wm_one 2 (by kernel_rfl) ?_; refine om_call rfl Try.func42 rfl rfl rfl (rbytesC_any A9 n9 c9 32 _ _ H9 (by omega) (by omega)) rfl ?_
        rintro e w13 ⟨A13, c13, rfl, R13, ex⟩
        refine ⟨_, rfl, .inr ex, ?_⟩
        replace E := E.ext ex
        replace H5 := H5.ext ex
        replace H7 := H7.ext ex
        replace H9 := H9.ext ex
        replace H11 := H11.ext ex
        replace B12 := B12.ext ex
        have H13 := R13.bs; have hcap13 := R13.cap
        refine wm_one 3 (by kernel_rfl) ?_; refine om_call rfl Try.func40 rfl rfl rfl (sof_any A13 32 c13 _ _ H13 hcap13) rfl ?_
        rintro e w14 ⟨rfl, ex⟩
        refine ⟨_, rfl, .inr ex, ?_⟩
        replace E := E.ext ex
        replace H5 := H5.ext ex
        replace H7 := H7.ext ex
        replace H9 := H9.ext ex
        replace H11 := H11.ext ex
        replace B12 := B12.ext ex
        replace H13 := H13.ext ex
        rw [le_take hsl]
        refine wm_one 4 (by kernel_rfl) ?_; refine om_call rfl Try.func39 rfl rfl rfl (Pmul_any PB.pp Ed.on_B (Sg.sec xs) hsl _) rfl ?_
        rintro e w15 ⟨c15, rfl, PM, ex⟩
        refine ⟨_, rfl, .inr ex, ?_⟩
        replace E := E.ext ex
        replace H5 := H5.ext ex
        replace H7 := H7.ext ex
        replace H9 := H9.ext ex
        replace H11 := H11.ext ex
        replace B12 := B12.ext ex
        skip
        refine wm_one 5 (by kernel_rfl) ?_; refine om_call rfl Try.func51 rfl rfl rfl (Pbytes_any PM.pp _) rfl ?_
        rintro e w16 ⟨g16, rfl, hg16, B16, ex⟩
        refine ⟨_, rfl, .inr ex, ?_⟩
        replace E := E.ext ex
        replace H5 := H5.ext ex
        replace H7 := H7.ext ex
        replace H9 := H9.ext ex
        replace H11 := H11.ext ex
        replace B12 := B12.ext ex
        have H16 : Bs w16 (some ⟨g16, 0, none⟩) 32 (Sg.pub xs) := bs_blk' B16 (Ed.enc_length _)
        refine wm_y 6 rfl (by kernel_rfl) (y_assign rfl) rfl ?_
        refine wm_done (by kernel_rfl) ?_
        refine wq_nop ?_
        refine wq_then_norm (hK15 ?_)
        refine wc_seq ?_; intro K16 hK16
        refine wc_draw (by kernel_rfl) 7 rfl ?_; intro wd13 ex hd13
        replace E := E.ext ex
        replace H5 := H5.ext ex
        replace H7 := H7.ext ex
        replace H9 := H9.ext ex
        replace H11 := H11.ext ex
        replace B12 := B12.ext ex
        replace H16 := H16.ext ex
        refine wm_y 0 rfl (by kernel_rfl) (y_qq rfl PB.pp B12) rfl ?_
        refine wm_y 1 rfl (by kernel_rfl) (y_move rfl) rfl ?_
        refine wm_one 2 (by kernel_rfl) ?_; refine om_call rfl Try.func42 rfl rfl rfl (rbytesC_any A11 n11 c11 32 _ _ H11 (by omega) (by omega)) rfl ?_
        rintro e w17 ⟨A17, c17, rfl, R17, ex⟩
        refine ⟨_, rfl, .inr ex, ?_⟩
        replace E := E.ext ex
        replace H5 := H5.ext ex
        replace H7 := H7.ext ex
        replace H9 := H9.ext ex
        replace H11 := H11.ext ex
        replace B12 := B12.ext ex
        replace H16 := H16.ext ex
        have H17 := R17.bs; have hcap17 := R17.cap
        refine wm_one 3 (by kernel_rfl) ?_; refine om_call rfl Try.func40 rfl rfl rfl (sof_any A17 32 c17 _ _ H17 hcap17) rfl ?_
        rintro e w18 ⟨rfl, ex⟩
        refine ⟨_, rfl, .inr ex, ?_⟩
        replace E := E.ext ex
        replace H5 := H5.ext ex
        replace H7 := H7.ext ex
        replace H9 := H9.ext ex
        replace H11 := H11.ext ex
        replace B12 := B12.ext ex
        replace H16 := H16.ext ex
        replace H17 := H17.ext ex
        rw [le_take hrl]
        refine wm_one 4 (by kernel_rfl) ?_; refine om_call rfl Try.func39 rfl rfl rfl (Pmul_any PB.pp Ed.on_B _ hrl _) rfl ?_
        rintro e w19 ⟨c19, rfl, PR, ex⟩
        refine ⟨_, rfl, .inr ex, ?_⟩
        replace E := E.ext ex
        replace H5 := H5.ext ex
        replace H7 := H7.ext ex
        replace H9 := H9.ext ex
        replace H11 := H11.ext ex
        replace B12 := B12.ext ex
        replace H16 := H16.ext ex
        skip
        refine wm_one 5 (by kernel_rfl) ?_; refine om_call rfl Try.func51 rfl rfl rfl (Pbytes_any PR.pp _) rfl ?_
        rintro e w20 ⟨g20, rfl, hg20, B20, ex⟩
        refine ⟨_, rfl, .inr ex, ?_⟩
        replace E := E.ext ex
        replace H5 := H5.ext ex
        replace H7 := H7.ext ex
        replace H9 := H9.ext ex
        replace H11 := H11.ext ex
        replace B12 := B12.ext ex
        replace H16 := H16.ext ex
        have H20 : Bs w20 (some ⟨g20, 0, none⟩) 32 (Sg.point xs ts) := (by rw [hre] at B20; exact bs_blk' B20 (Ed.enc_length _))
        refine wm_y 6 rfl (by kernel_rfl) (y_assign rfl) rfl ?_
        refine wm_done (by kernel_rfl) ?_
        refine wq_nop ?_
        refine wq_then_norm (hK16 ?_)
        refine wc_seq ?_; intro K17 hK17
        refine wc_region ?_
        refine wl_y (y_move rfl) rfl ?_
        refine wl_y (y_move rfl) rfl ?_
        refine wl_y (y_move rfl) rfl ?_
        refine wl_call Try.func37 rfl rfl rfl (rdig_any _ 32 32 (Sg.point xs ts) _ 32 32 (Sg.pub xs) B m d ts _ H20 H16 (HB.ext E) (by omega) (by omega) (by omega)) rfl ?_
        rintro e w21 ⟨A21, n21, c21, rfl, H21, h21, ex⟩
        refine ⟨_, rfl, ?_⟩
        replace E := E.ext ex
        replace H5 := H5.ext ex
        replace H7 := H7.ext ex
        replace H9 := H9.ext ex
        replace H11 := H11.ext ex
        replace B12 := B12.ext ex
        replace H16 := H16.ext ex
        replace H20 := H20.ext ex
        skip
        refine wl_y (y_assign rfl) rfl ?_
        refine wl_nil ?_
        refine wq_then_norm (hK17 ?_)
        refine wc_seq ?_; intro K18 hK18
        refine wc_region ?_
        refine wl_y (y_move rfl) rfl ?_
        refine wl_y (y_move rfl) rfl ?_
        refine wl_y (y_move rfl) rfl ?_
        refine wl_call Try.func53 rfl rfl rfl (mul_any A21 A9 n21 c21 n9 c9 _ _ _ H21 H9 (by omega) (by omega)) rfl ?_
        rintro e w22 ⟨A22, n22, c22, rfl, H22, h22, _, ex⟩
        refine ⟨_, rfl, ?_⟩
        replace E := E.ext ex
        replace H5 := H5.ext ex
        replace H7 := H7.ext ex
        replace H9 := H9.ext ex
        replace H11 := H11.ext ex
        replace B12 := B12.ext ex
        replace H16 := H16.ext ex
        replace H20 := H20.ext ex
        replace H21 := H21.ext ex
        skip
        refine wl_call Try.func52 rfl rfl rfl (add_any A11 A22 n11 c11 n22 c22 _ _ _ H11 H22 (by omega) (by omega)) rfl ?_
        rintro e w23 ⟨A23, n23, c23, rfl, H23, h23, _, ex⟩
        refine ⟨_, rfl, ?_⟩
        replace E := E.ext ex
        replace H5 := H5.ext ex
        replace H7 := H7.ext ex
        replace H9 := H9.ext ex
        replace H11 := H11.ext ex
        replace B12 := B12.ext ex
        replace H16 := H16.ext ex
        replace H20 := H20.ext ex
        replace H21 := H21.ext ex
        replace H22 := H22.ext ex
        skip
        refine wl_call Try.func48 rfl rfl rfl (rmod08_any A23 n23 c23 _ _ H23 (by omega)) rfl ?_
        rintro e w24 ⟨A24, n24, c24, rfl, H24, h24, ex⟩
        refine ⟨_, rfl, ?_⟩
        replace E := E.ext ex
        replace H5 := H5.ext ex
        replace H7 := H7.ext ex
        replace H9 := H9.ext ex
        replace H11 := H11.ext ex
        replace B12 := B12.ext ex
        replace H16 := H16.ext ex
        replace H20 := H20.ext ex
        replace H21 := H21.ext ex
        rw [sum_way] at H24
        refine wl_y (y_assign rfl) rfl ?_
        refine wl_nil ?_
        refine wq_then_norm (hK18 ?_)
        refine wc_seq ?_; intro K19 hK19
        refine wc_region ?_
        refine wl_y (y_move rfl) rfl ?_
        refine wl_y (y_conv rfl Try.underlying33 Try.underlying3 (show IntKind.i64.wrap 0 = 0 from rfl)) rfl ?_
        refine wl_y (Y.as (y_eql rfl rfl) (congrArg Value.bool (decide_eq_true rfl))) rfl ?_
        refine wl_y (y_move rfl) rfl ?_
        refine wl_gy 95 rfl rfl (y_move rfl) rfl ?_
        refine wl_gy 95 rfl rfl (y_conv rfl Try.underlying33 Try.underlying3 (show IntKind.i64.wrap 0 = 0 from rfl)) rfl ?_
        refine wl_gy 95 rfl rfl (Y.as (y_eql rfl rfl) (congrArg Value.bool (decide_eq_true rfl))) rfl ?_
        refine wl_y (y_pickt rfl rfl) rfl ?_
        refine wl_y (y_move rfl) rfl ?_
        refine wl_gy 100 rfl rfl (y_move rfl) rfl ?_
        refine wl_gcall 100 rfl rfl Try.func46 rfl rfl rfl (Secret_any A n c xs _ (HA.ext E) (by omega)) rfl ?_
        rintro e w25 ⟨rfl, ex⟩
        refine ⟨_, rfl, ?_⟩
        replace E := E.ext ex
        replace H5 := H5.ext ex
        replace H7 := H7.ext ex
        replace H9 := H9.ext ex
        replace H11 := H11.ext ex
        replace B12 := B12.ext ex
        replace H16 := H16.ext ex
        replace H20 := H20.ext ex
        replace H21 := H21.ext ex
        replace H24 := H24.ext ex
        rw [if_pos h32]
        refine wl_gcall 100 rfl rfl Try.func54 rfl rfl rfl (Sbytes_any (Sg.sec xs) _) rfl ?_
        rintro e w26 ⟨g26, rfl, hg26, B26, ex⟩
        refine ⟨_, rfl, ?_⟩
        replace E := E.ext ex
        replace H5 := H5.ext ex
        replace H7 := H7.ext ex
        replace H9 := H9.ext ex
        replace H11 := H11.ext ex
        replace B12 := B12.ext ex
        replace H16 := H16.ext ex
        replace H20 := H20.ext ex
        replace H21 := H21.ext ex
        replace H24 := H24.ext ex
        have H26 := bs_blk' B26 (Fp.le_length 32 _)
        refine wl_gy 100 rfl rfl (y_move rfl) rfl ?_
        refine wl_gcall 100 rfl rfl Try.func42 rfl rfl rfl (rbytesC_any A9 n9 c9 32 _ _ H9 (by omega) (by omega)) rfl ?_
        rintro e w27 ⟨A27, c27, rfl, R27, ex⟩
        refine ⟨_, rfl, ?_⟩
        replace E := E.ext ex
        replace H5 := H5.ext ex
        replace H7 := H7.ext ex
        replace H9 := H9.ext ex
        replace H11 := H11.ext ex
        replace B12 := B12.ext ex
        replace H16 := H16.ext ex
        replace H20 := H20.ext ex
        replace H21 := H21.ext ex
        replace H24 := H24.ext ex
        replace H26 := H26.ext ex
        have H27 := R27.bs
        refine wl_gcall 100 rfl rfl Try.func25 rfl rfl rfl (same_any _ _ 32 32 _ _ _ _ _ H26 H27 (by omega) (by omega)) rfl ?_
        rintro e w28 ⟨rfl, k28, rfl⟩
        have ex := Ext.drewN w27 k28
        refine ⟨_, rfl, ?_⟩
        replace E := E.ext ex
        replace H5 := H5.ext ex
        replace H7 := H7.ext ex
        replace H9 := H9.ext ex
        replace H11 := H11.ext ex
        replace B12 := B12.ext ex
        replace H16 := H16.ext ex
        replace H20 := H20.ext ex
        replace H21 := H21.ext ex
        replace H24 := H24.ext ex
        replace H26 := H26.ext ex
        replace H27 := H27.ext ex
        rw [decide_eq_true rfl]
        refine wl_y (y_pickt rfl rfl) rfl ?_
        refine wl_y (y_move rfl) rfl ?_
        refine wl_gy 108 rfl rfl (y_move rfl) rfl ?_
        refine wl_gy 108 rfl rfl (y_move rfl) rfl ?_
        refine wl_gcall 108 rfl rfl Try.func25 rfl rfl rfl (same_any _ _ 32 32 _ _ _ _ _ H5 H16 (by omega) (by omega)) rfl ?_
        rintro e w29 ⟨rfl, k29, rfl⟩
        have ex := Ext.drewN (w27.drewN k28) k29
        refine ⟨_, rfl, ?_⟩
        replace E := E.ext ex
        replace H5 := H5.ext ex
        replace H7 := H7.ext ex
        replace H9 := H9.ext ex
        replace H11 := H11.ext ex
        replace B12 := B12.ext ex
        replace H16 := H16.ext ex
        replace H20 := H20.ext ex
        replace H21 := H21.ext ex
        replace H24 := H24.ext ex
        replace H26 := H26.ext ex
        replace H27 := H27.ext ex
        rw [decide_eq_true rfl]
        refine wl_y (y_pickt rfl rfl) rfl ?_
        refine wl_y (y_move rfl) rfl ?_
        refine wl_gy 113 rfl rfl (y_move rfl) rfl ?_
        refine wl_gef 113 rfl rfl (ef_lit (z := .int .u8 0) Try.underlying22 (by kernel_rfl) rfl rfl rfl rfl rfl) rfl ?_
        rintro _ w30 ⟨g30, rfl, B30, hg30, ex⟩
        have x2 := ex; have R2 : Row w30 _ 5 (some ⟨g30, 0, none⟩) 0 0 (([] : List UInt8).map bv) := Row.new B30 hg30 rfl (by unfold maxLen; omega)
        refine wl_gy 113 rfl rfl (y_move rfl) rfl ?_
        refine wl_gef 113 rfl rfl (ef_app0 rfl rfl eltB R2 (H20.ext x2).2 (by rw [List.length_map, H20.1]) (by intro u hu; exact bv_one u hu) (by omega) (by omega) x2.size) rfl ?_
        rintro _ w31 ⟨A31, c31, rfl, R31, be, gr, hl⟩
        have x3 := x2.trans be
        refine wl_gy 113 rfl rfl (y_move rfl) rfl ?_
        refine wl_gcall 113 rfl rfl Try.func42 rfl rfl rfl (rbytesC_any A24 n24 c24 32 _ _ (H24.ext x3) (by omega) (by omega)) rfl ?_
        rintro e w32 ⟨A32, c32, rfl, R32, ex⟩
        refine ⟨_, rfl, ?_⟩
        have x4 := x3.ext ex; have R33 := R31.ext ex
        refine wl_gef 113 rfl rfl (ef_app rfl rfl eltB R33 R32.bs.2 (by rw [List.length_map, R32.bs.1]) (by intro u hu; exact bv_one u hu) (by omega) (by omega) x4.size) rfl ?_
        rintro _ w34 ⟨A34, c34, rfl, R34, be, gr, hl⟩
        have ex := x4.trans be; have S34 : Bs w34 A34 64 (Sg.sig xs ts) := R34.cat.bs
        replace E := E.ext ex
        replace H5 := H5.ext ex
        replace H7 := H7.ext ex
        replace H9 := H9.ext ex
        replace H11 := H11.ext ex
        replace B12 := B12.ext ex
        replace H16 := H16.ext ex
        replace H20 := H20.ext ex
        replace H21 := H21.ext ex
        replace H24 := H24.ext ex
        replace H26 := H26.ext ex
        replace H27 := H27.ext ex
        refine wl_gcall 113 rfl rfl Try.func25 rfl rfl rfl (same_any _ _ 64 64 _ _ _ _ _ H7 S34 (by omega) (by omega)) rfl ?_
        rintro e w35 ⟨rfl, k35, rfl⟩
        have ex := Ext.drewN w34 k35
        refine ⟨_, rfl, ?_⟩
        replace E := E.ext ex
        replace H5 := H5.ext ex
        replace H7 := H7.ext ex
        replace H9 := H9.ext ex
        replace H11 := H11.ext ex
        replace B12 := B12.ext ex
        replace H16 := H16.ext ex
        replace H20 := H20.ext ex
        replace H21 := H21.ext ex
        replace H24 := H24.ext ex
        replace H26 := H26.ext ex
        replace H27 := H27.ext ex
        replace S34 := S34.ext ex
        rw [decide_eq_true rfl]
        refine wl_y (y_pickt rfl rfl) rfl ?_
        refine wl_y (y_assign rfl) rfl ?_
        refine wl_nil ?_
        refine wq_then_norm (hK19 ?_)
        refine wc_ret ?_
        refine hret rfl ?_
        exact ⟨rfl, E⟩
      · skip
        refine wc_region ?_
        refine wl_y (y_move rfl) rfl ?_
        refine wl_call Try.func44 rfl rfl rfl (Public_f (HA.ext E) h32 (by omega)) rfl ?_
        rintro e w2 ⟨A5, c5, rfl, ex⟩
        refine ⟨_, rfl, ?_⟩
        replace E := E.ext ex
        skip
        refine wl_y (y_move rfl) rfl ?_
        refine wl_y (y_extract rfl rfl) rfl ?_
        refine wl_y (y_extract rfl rfl) rfl ?_
        refine wl_y (y_assign rfl) rfl ?_
        refine wl_y (y_assign rfl) rfl ?_
        refine wl_nil ?_
        refine wq_then_norm (hK8 ?_)
        refine wc_seq ?_; intro K20 hK20
        refine wc_region ?_
        refine wl_y (y_move rfl) rfl ?_
        refine wl_y (y_move rfl) rfl ?_
        refine wl_call Try.func45 rfl rfl rfl (Sign_f (HA.ext E) (HB.ext E) h32 (by omega) (by omega)) rfl ?_
        rintro e w3 ⟨A7, c7, rfl, ex⟩
        refine ⟨_, rfl, ?_⟩
        replace E := E.ext ex
        skip
        refine wl_y (y_move rfl) rfl ?_
        refine wl_y (y_extract rfl rfl) rfl ?_
        refine wl_y (y_extract rfl rfl) rfl ?_
        refine wl_y (y_assign rfl) rfl ?_
        refine wl_y (y_assign rfl) rfl ?_
        refine wl_nil ?_
        refine wq_then_norm (hK20 ?_)
        refine wc_seq ?_; intro K21 hK21
        refine wc_seq ?_; intro K22 hK22
        refine wc_region ?_
        refine wl_y (y_move rfl) rfl ?_
        refine wl_y (y_len_slice rfl Try.underlying22) rfl ?_
        refine wl_y (y_neq rfl rfl) rfl ?_
        refine wl_nil ?_
        refine wq_then_norm (hK22 ?_)
        refine wc_yes rfl (by omega) ?_
        refine wc_seq ?_; intro K23 hK23
        refine wc_region ?_
        refine wl_y (y_move rfl) rfl ?_
        refine wl_y (y_conv rfl Try.underlying33 Try.underlying3 (show IntKind.i64.wrap 1 = 1 from rfl)) rfl ?_
        refine wl_y (y_eql rfl rfl) rfl ?_
        refine wl_y (Y.as (y_move rfl) (congrArg Value.bool (decide_eq_true rfl))) rfl ?_
        refine wl_gy 43 rfl rfl (y_move rfl) rfl ?_
        refine wl_gy 43 rfl rfl (y_conv rfl Try.underlying33 Try.underlying3 (show IntKind.i64.wrap 1 = 1 from rfl)) rfl ?_
        refine wl_gy 43 rfl rfl (y_eql rfl rfl) rfl ?_
        refine wl_y (y_pickt rfl rfl) rfl ?_
        refine wl_y (Y.as (y_move rfl) (congrArg Value.bool (decide_eq_true rfl))) rfl ?_
        refine wl_gy 48 rfl rfl (y_move rfl) rfl ?_
        refine wl_gy 48 rfl rfl (y_len_slice rfl Try.underlying22) rfl ?_
        refine wl_gy 48 rfl rfl (y_move rfl) rfl ?_
        refine wl_gy 48 rfl rfl (y_len_slice rfl Try.underlying22) rfl ?_
        refine wl_gy 48 rfl rfl (y_add rfl rfl (i64_ok (by omega) (by omega))) rfl ?_
        refine wl_gy 48 rfl rfl (y_eql rfl rfl) rfl ?_
        refine wl_y (y_pickt rfl rfl) rfl ?_
        refine wl_y (Y.as (y_move rfl) (congrArg Value.bool (decide_eq_true rfl))) rfl ?_
        refine wl_gy 56 rfl rfl (y_move rfl) rfl ?_
        refine wl_gcall 56 rfl rfl Try.func46 rfl rfl rfl (Secret_any A n c xs _ (HA.ext E) (by omega)) rfl ?_
        rintro e w4 ⟨rfl, ex⟩
        refine ⟨_, rfl, ?_⟩
        replace E := E.ext ex
        rw [if_neg h32]
        refine wl_gy 56 rfl rfl (y_build rfl (cells := ws z4) (by kernel_rfl)) rfl ?_
        rw [z4_zero]
        refine wl_gcall 56 rfl rfl Try.func47 rfl rfl rfl (Ssame_any (Sc.wd 0) _) rfl ?_
        rintro e w5 ⟨rfl, ex⟩
        refine ⟨_, rfl, ?_⟩
        replace E := E.ext ex
        skip
        refine wl_y (y_pickt rfl rfl) rfl ?_
        refine wl_y (y_assign rfl) rfl ?_
        refine wl_nil ?_
        refine wq_then_norm (hK23 ?_)
        refine wc_ret ?_
        refine wq_then_ret ?_
        refine hret rfl ?_
        exact ⟨rfl, E⟩
end Go.Proofs.Ytopimmomkapdoaa
