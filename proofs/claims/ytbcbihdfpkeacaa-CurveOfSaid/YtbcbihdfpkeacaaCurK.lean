/- The law CurveOf: it answers true whatever it is given. -/
import Derived.Test.YtbcbihdfpkeacaaCurJ
namespace Go.Proofs.Ytbcbihdfpkeacaa
open Go.RowKit
namespace Ed
open Fp
theorem sqr0 : Sqr 0 := sqr_of (x := 0) (by decide +kernel)
theorem root0 : root 0 = 0 := (zero_or (root_sq sqr0)).elim id id
theorem ok_0t {xs : List UInt8} (hl : xs.length = 32) (hp : num xs % top < p) (h : sq (of (num xs % top)) = 0) (ht : ¬ top ≤ num xs) : (dec xs).isSome = true := by
  rw [dec_some hl hp (by rw [h]; exact sqr0) (fun _ => ht)]; rfl
theorem ok_0f {xs : List UInt8} (h : sq (of (num xs % top)) = 0) (ht : top ≤ num xs) : (dec xs).isSome = false := by
  rw [dec_root (.inr ⟨by rw [h]; exact root0, ht⟩)]; rfl
theorem ok_1 {xs : List UInt8} (hl : xs.length = 32) (hp : num xs % top < p) (h : sq (of (num xs % top)) ≠ 0) : (dec xs).isSome = decide (pow (sq (of (num xs % top))) half = of 1) := by
  by_cases hs : pow (sq (of (num xs % top))) half = 1
  · have hq : Sqr (sq (of (num xs % top))) := .inr hs
    rw [decide_eq_true (show _ = of 1 from hs), dec_some hl hp hq (fun h0 => absurd (root_sq hq) (by rw [h0]; intro e; exact h (by rw [← e]; decide +kernel)))]; rfl
  · have hq : ¬ Sqr (sq (of (num xs % top))) := fun hc => hc.elim (fun h0 => h (pow_eq_zero h0)) hs
    rw [decide_eq_false (show ¬ _ = of 1 from hs), dec_root (.inl hq)]; rfl
end Ed
attribute [local irreducible] Y Ef WL WC WK WQ WM OpM WN WF OpN
theorem Rsame_any (A B : Option Addr) (n c m d : Nat) (a b : Fp.F) (w : World) (HA : BG w A n a) (HB : BG w B m b) :
    Calls Try.prog 34 #[.slice A n c, .slice B m d] w fun e w' => e = .returned (.bool (decide (a = b))) ∧ Ext w w' :=
  (rsame_any A B n c m d a.val b.val w HA HB (by have := HA.le; omega) (by have := HB.le; omega)).mono fun _ _ ⟨h1, h2⟩ => ⟨h1.trans (ret_bool Fp.val_inj), h2⟩
theorem BG.len0 {w : World} {A : Option Addr} {n : Nat} {a : Fp.F} (h : BG w A n a) : n = 0 ↔ a = 0 := by
  have hl := (show Bg w A n a.val from h).len
  constructor
  · intro e
    have h0 : Big.digs a.val = [] := List.eq_nil_of_length_eq_zero (by omega)
    exact Fp.val_eq_zero.1 (by rw [← Big.val_digs a.val, h0]; rfl)
  · intro e; subst e; rw [← hl]; rfl
set_option maxHeartbeats 2000000 in
theorem curveOf_law (A : Option Addr) (n c : Nat) (xs : List UInt8) (w : World) (HA : Bs w A n xs) (_hn : n ≤ maxLen) :
    Calls Try.prog 11 #[.slice A n c] w fun e w' => e = .returned (.bool true) ∧ Below w.heap.size w w' := by
  have E := Ext.refl w
  have hpl := p_len
  have hnum : Fp.num (Fp.le 32 (Fp.p / 2)) = Fp.half := by decide +kernel
  obtain ⟨x, hx⟩ : ∃ x, x = (xs.getD 31 0).toNat := ⟨_, rfl⟩
  have hx8 : x < 256 := hx ▸ (xs.getD 31 0).toNat_lt
  obtain ⟨y, hy⟩ : ∃ y, y = Fp.of (Fp.num xs % Ed.top) := ⟨_, rfl⟩
  refine vc_enter1 95 Try.func11 rfl rfl rfl rfl ?_
  intro Q hret
  refine wc_seq ?_; intro K1 hK1
  refine wc_region ?_
  refine wl_y (y_assign rfl) rfl ?_
  refine wl_nil ?_
  refine wq_then_norm (hK1 ?_)
  refine wc_seq ?_; intro K2 hK2
  refine wc_seq ?_; intro K3 hK3
  refine wc_region ?_
  refine wl_call Try.func63 rfl rfl rfl (alive9_any _) rfl ?_
  rintro e w1 ⟨rfl, ex⟩
  refine ⟨_, rfl, ?_⟩
  replace E := E.ext ex
  refine wl_y (y_not rfl) rfl ?_
  refine wl_nil ?_
  refine wq_then_norm (hK3 ?_)
  refine wc_false rfl rfl ?_
  refine wc_skip ?_
  refine wq_then_norm (hK2 ?_)
  refine wc_seq ?_; intro K4 hK4
  refine wc_seq ?_; intro K5 hK5
  refine wc_region ?_
  refine wl_y (y_move rfl) rfl ?_
  refine wl_y (y_len_slice rfl Try.underlying22) rfl ?_
  refine wl_y (y_gtr rfl rfl) rfl ?_
  refine wl_nil ?_
  refine wq_then_norm (hK5 ?_)
  refine wc_dec rfl (fun hc2 => ?_) (fun hc2 => ?_)
  · skip
    refine wc_seq ?_; intro K6 hK6
    refine wc_region ?_
    refine wl_y (y_assign rfl) rfl ?_
    refine wl_nil ?_
    refine wq_then_norm (hK6 ?_)
    refine wc_ret ?_
    refine wq_then_ret ?_
    refine hret rfl ?_
    exact ⟨rfl, E⟩
  · skip
    refine wc_skip ?_
    refine wq_then_norm (hK4 ?_)
    refine wc_seq ?_; intro K7 hK7
    refine wc_region ?_
    refine wl_y (y_move rfl) rfl ?_
    refine wl_call Try.func64 rfl rfl rfl (Pof_any A n c xs _ (HA.ext E)) rfl ?_
    rintro e w2 ⟨c3, rfl, P3, ex⟩
    refine ⟨_, rfl, ?_⟩
    replace E := E.ext ex
    have o3 := dec_onD xs
    refine wl_y (y_move rfl) rfl ?_
    refine wl_y (y_extract rfl rfl) rfl ?_
    refine wl_y (y_extract rfl rfl) rfl ?_
    have hz7 := E.size
    refine wl_ef (ef_alloc (Z := pc zf zf zf zf false) (by kernel_rfl)) rfl ?_
    rintro _ w3 ⟨g3, rfl, B3, hg3, ex⟩
    replace E := E.ext ex
    skip
    refine wl_ef (ef_storeW rfl rfl (by rw [P3.size]; kernel_rfl) B3 (by rw [pc_size, P3.size]) P3.one) rfl ?_
    rintro _ w4 ⟨rfl, D3, cg⟩
    replace E := E.chg cg (by omega); replace B3 := D3
    refine wl_y (y_assign rfl) rfl ?_
    refine wl_nil ?_
    refine wq_then_norm (hK7 ?_)
    refine wc_seq ?_; intro K8 hK8
    refine wc_seq ?_; intro K9 hK9
    refine wc_region ?_
    refine wl_y (y_move rfl) rfl ?_
    refine wl_y (y_len_slice rfl Try.underlying22) rfl ?_
    refine wl_y (y_neq rfl rfl) rfl ?_
    refine wl_nil ?_
    refine wq_then_norm (hK9 ?_)
    refine wc_dec rfl (fun hc3 => ?_) (fun hc3 => ?_)
    · skip
      refine wc_seq ?_; intro K10 hK10
      have hd := Ed.dec_len (xs := xs) (by have := HA.1; omega)
      rw [hd] at P3
      rw [hd]
      refine wc_draw (by kernel_rfl) 8 rfl ?_; intro wd7 ex hd7
      replace E := E.ext ex
      replace B3 := B3.ext ex
      refine wm_y 0 rfl (by kernel_rfl) (y_move rfl) rfl ?_
      refine wm_y 1 rfl (by kernel_rfl) (y_not rfl) rfl ?_
      refine wm_y 2 rfl (by kernel_rfl) (y_move rfl) rfl ?_
      refine wm_gy 3 rfl (by kernel_rfl) 27 rfl rfl (y_qq rfl P3 B3) rfl ?_
      refine wm_one 4 (by kernel_rfl) ?_; refine om_gcall rfl 27 rfl rfl Try.func66 rfl rfl rfl (pnothing_any _) rfl ?_
      rintro e w5 ⟨c5, rfl, P5, ex⟩
      refine ⟨_, rfl, .inr ex, ?_⟩
      replace E := E.ext ex
      replace B3 := B3.ext ex
      skip
      refine wm_one 5 (by kernel_rfl) ?_; refine om_gcall rfl 27 rfl rfl Try.func65 rfl rfl rfl (Psame_any P3 P5.pp _) rfl ?_
      rintro e w6 ⟨rfl, ex⟩
      refine ⟨_, rfl, .inr ex, ?_⟩
      replace E := E.ext ex
      replace B3 := B3.ext ex
      rw [decide_eq_true (show (none : Option (Fp.F × Fp.F)).getD Ed.O = Ed.O from rfl)]
      refine wm_y 6 rfl (by kernel_rfl) (y_pickt rfl rfl) rfl ?_
      refine wm_y 7 rfl (by kernel_rfl) (y_assign rfl) rfl ?_
      refine wm_done (by kernel_rfl) ?_
      refine wq_nop ?_
      refine wq_then_norm (hK10 ?_)
      refine wc_ret ?_
      refine wq_then_ret ?_
      refine hret rfl ?_
      exact ⟨rfl, E⟩
    · skip
      refine wc_skip ?_
      refine wq_then_norm (hK8 ?_)
      refine wc_seq ?_; intro K11 hK11
      have hn32 : n = 32 := by omega
      subst hn32
      have h32 : xs.length = 32 := HA.1
      obtain ⟨b0, off0, rfl, hb0, _⟩ := HA.get (k := 0) (by omega)
      have hodd := Ed.odd_iff h32
      have hlow := Ed.num_low h32
      rw [← hx] at hodd hlow
      have hz8 := E.size; have hl8 := B3.lt
      refine wc_region ?_
      refine wl_ef (ef_lit (z := .int .u8 0) Try.underlying22 (by kernel_rfl) rfl rfl rfl rfl rfl) rfl ?_
      rintro _ w7 ⟨g7, rfl, B7, hg7, ex⟩
      replace E := E.ext ex
      replace B3 := B3.ext ex
      have R7 : Row w7 w4.heap.size 5 (some ⟨g7, 0, none⟩) 0 0 [] := Row.new B7 hg7 rfl (by unfold maxLen; omega)
      refine wl_y (y_move rfl) rfl ?_
      refine wl_ef (ef_app0 rfl rfl eltB R7 (HA.ext E).2 (by rw [List.length_map, HA.1]) (by intro u hu; exact bv_one u hu) (by omega) (by omega) ex.size) rfl ?_
      rintro _ w8 ⟨A8, c8, rfl, R8, be, gr, hl8'⟩
      replace E := E.trans (be.mono hz8); replace B3 := B3.below be hl8; have hs8 := be.size
      refine wl_y (y_assign rfl) rfl ?_
      refine wl_nil ?_
      refine wq_then_norm (hK11 ?_)
      refine wc_seq ?_; intro K12 hK12
      refine wc_region ?_
      obtain ⟨g8, rfl, hcy, hg8, hl88⟩ := R8.byte (i := 31) (by omega)
      rw [← hx] at hcy
      refine wl_y (y_move rfl) rfl ?_
      refine wl_y (y_move rfl) rfl ?_
      refine wl_y (y_ixs1 rfl rfl Try.underlying22 (by kernel_rfl) (j := 31) rfl (by omega)) rfl ?_
      refine wl_y (y_load1 rfl Try.underlying5 rfl hcy) rfl ?_
      refine wl_y (y_rem rfl rfl (by omega) (show ((x : Nat) : Int).tmod 128 = ((x % 128 : Nat) : Int) from rfl)) rfl ?_
      refine wl_y (y_ixs1 rfl rfl Try.underlying22 (by kernel_rfl) (j := 31) rfl (by omega)) rfl ?_
      rw [← u8_val (n := x % 128) (by omega)]
      refine wl_ef (ef_storeR rfl rfl rfl (by kernel_rfl) R8 (by omega)) rfl ?_
      rintro _ w9 ⟨rfl, R9, cg⟩
      replace E := E.chg cg (by omega); replace B3 := B3.chg cg (by omega); replace R9 := R9.congr rfl (show _ = (xs.set 31 (UInt8.ofNat (x % 128))).map bv by rw [List.map_set]; rfl); have H9 := R9.bs
      refine wl_nil ?_
      refine wq_then_norm (hK12 ?_)
      refine wc_seq ?_; intro K13 hK13
      refine wc_region ?_
      refine wl_y (y_move rfl) rfl ?_
      refine wl_call Try.func67 rfl rfl rfl (rof_any _ 32 c8 _ _ H9 (by omega)) rfl ?_
      rintro e w10 ⟨A10, n10, c10, rfl, H10, _, hn10, ex⟩
      refine ⟨_, rfl, ?_⟩
      replace E := E.ext ex
      replace B3 := B3.ext ex
      rw [hlow] at H10
      refine wl_y (y_assign rfl) rfl ?_
      refine wl_nil ?_
      refine wq_then_norm (hK13 ?_)
      refine wc_seq ?_; intro K14 hK14
      refine wc_seq ?_; intro K15 hK15
      refine wc_region ?_
      refine wl_y (y_move rfl) rfl ?_
      refine wl_call Try.func49 rfl rfl rfl (refP_any _) rfl ?_
      rintro e w11 ⟨A11, n11, c11, rfl, H11, _, ex⟩
      refine ⟨_, rfl, ?_⟩
      replace E := E.ext ex
      replace B3 := B3.ext ex
      replace H10 := H10.ext ex
      have hl11 := H11.len
      refine wl_call Try.func42 rfl rfl rfl (less_any A10 A11 n10 c10 n11 c11 _ Fp.p _ H10 H11 (by omega) (by omega)) rfl ?_
      rintro e w12 ⟨rfl, ex⟩
      refine ⟨_, rfl, ?_⟩
      replace E := E.ext ex
      replace B3 := B3.ext ex
      replace H10 := H10.ext ex
      skip
      refine wl_y (y_not rfl) rfl ?_
      refine wl_nil ?_
      refine wq_then_norm (hK15 ?_)
      refine wc_cond rfl (fun hc4 => ?_) (fun hc4 => ?_)
      · skip
        refine wc_seq ?_; intro K16 hK16
        have hd := Ed.dec_big (xs := xs) (by simpa using hc4)
        rw [hd]
        refine wc_region ?_
        refine wl_y (y_move rfl) rfl ?_
        refine wl_y (y_not rfl) rfl ?_
        refine wl_y (y_assign rfl) rfl ?_
        refine wl_nil ?_
        refine wq_then_norm (hK16 ?_)
        refine wc_ret ?_
        refine wq_then_ret ?_
        refine hret rfl ?_
        exact ⟨rfl, E⟩
      · skip
        refine wc_skip ?_
        refine wq_then_norm (hK14 ?_)
        refine wc_seq ?_; intro K17 hK17
        have hp : Fp.num xs % Ed.top < Fp.p := by simpa using hc4
        have HY : BG w12 A10 n10 y := by rw [hy]; exact BG.of H10 hp
        refine wc_region ?_
        refine wl_call Try.func49 rfl rfl rfl (refP_any _) rfl ?_
        rintro e w14 ⟨A14, n14, c14, rfl, H14, _, ex⟩
        refine ⟨_, rfl, ?_⟩
        replace E := E.ext ex
        replace B3 := B3.ext ex
        replace H10 := H10.ext ex
        replace HY := HY.ext ex; have hl14 := H14.len
        refine wl_call Try.func24 rfl rfl rfl (num_any 2 _ (by omega)) rfl ?_
        rintro e w15 ⟨A15, n15, c15, rfl, H15, _, ex⟩
        refine ⟨_, rfl, ?_⟩
        replace E := E.ext ex
        replace B3 := B3.ext ex
        replace H10 := H10.ext ex
        replace HY := HY.ext ex
        replace H14 := H14.ext ex
        have hl15 := H15.len; have h15 := Big.digs_length_le 2 1 (by omega)
        refine wl_call Try.func48 rfl rfl rfl (div_any A14 A15 n14 c14 n15 c15 Fp.p 2 _ H14 H15 (by omega) (by omega) (by omega)) rfl ?_
        rintro e w16 ⟨A16, n16, c16, A17, n17, c17, rfl, H16, _, _, _, _, ex⟩
        refine ⟨_, rfl, ?_⟩
        replace E := E.ext ex
        replace B3 := B3.ext ex
        replace H10 := H10.ext ex
        replace HY := HY.ext ex
        replace H14 := H14.ext ex
        have hl16 := H16.len; have h16 := Big.length_le (Nat.div_le_self Fp.p 2)
        refine wl_y (y_move rfl) rfl ?_
        refine wl_y (y_extract rfl rfl) rfl ?_
        refine wl_y (y_extract rfl rfl) rfl ?_
        refine wl_y (y_assign rfl) rfl ?_
        refine wl_y (y_assign rfl) rfl ?_
        refine wl_nil ?_
        refine wq_then_norm (hK17 ?_)
        refine wc_seq ?_; intro K18 hK18
        refine wc_region ?_
        refine wl_y (y_move rfl) rfl ?_
        refine wl_call Try.func68 rfl rfl rfl (rsquare_any A10 n10 c10 y _ HY) rfl ?_
        rintro e w17 ⟨A18, n18, c18, rfl, H18, ex⟩
        refine ⟨_, rfl, ?_⟩
        replace E := E.ext ex
        replace B3 := B3.ext ex
        replace H10 := H10.ext ex
        replace HY := HY.ext ex
        replace H14 := H14.ext ex
        replace H16 := H16.ext ex
        skip
        refine wl_y (y_assign rfl) rfl ?_
        refine wl_nil ?_
        refine wq_then_norm (hK18 ?_)
        refine wc_seq ?_; intro K19 hK19
        refine wc_region ?_
        refine wl_y (y_move rfl) rfl ?_
        refine wl_y (y_move rfl) rfl ?_
        refine wl_call Try.func50 rfl rfl rfl (rbytes_any A16 n16 c16 32 _ _ H16 (by omega) (by omega)) rfl ?_
        rintro e w18 ⟨A19, c19, rfl, H19, ex⟩
        refine ⟨_, rfl, ?_⟩
        replace E := E.ext ex
        replace B3 := B3.ext ex
        replace H10 := H10.ext ex
        replace HY := HY.ext ex
        replace H14 := H14.ext ex
        replace H16 := H16.ext ex
        replace H18 := H18.ext ex
        skip
        refine wl_call Try.func44 rfl rfl rfl (Rpow_any A18 A19 n18 c18 32 c19 _ _ _ H18 H19 (by omega)) rfl ?_
        rintro e w19 ⟨A20, n20, c20, rfl, H20, _, ex⟩
        refine ⟨_, rfl, ?_⟩
        replace E := E.ext ex
        replace B3 := B3.ext ex
        replace H10 := H10.ext ex
        replace HY := HY.ext ex
        replace H14 := H14.ext ex
        replace H16 := H16.ext ex
        replace H18 := H18.ext ex
        rw [hnum] at H20; have hn0 := H18.len0
        refine wl_y (y_assign rfl) rfl ?_
        refine wl_nil ?_
        refine wq_then_norm (hK19 ?_)
        refine wc_seq ?_; intro K20 hK20
        refine wc_region ?_
        refine wl_y (y_move rfl) rfl ?_
        refine wl_y (y_len_slice rfl Try.underlying30) rfl ?_
        refine wl_y (y_eql rfl rfl) rfl ?_
        refine wl_yask (y_move rfl) rfl (fun hx0 => ?_) (fun hx0 => ?_)
        · skip
          obtain ⟨x', hx', hcx⟩ := (HA.ext E).byteAt (k := 31) (by omega)
          rw [hx'.out, ← hx] at hcx
          refine wl_gy 64 rfl rfl (y_move rfl) rfl ?_
          refine wl_gy 64 rfl rfl (y_ixs1 rfl rfl Try.underlying22 (by kernel_rfl) (j := 31) rfl (by omega)) rfl ?_
          refine wl_gy 64 rfl rfl (y_load1 rfl Try.underlying5 rfl hcx) rfl ?_
          refine wl_gy 64 rfl rfl (y_lss rfl rfl) rfl ?_
          refine wl_y (y_pickt rfl rfl) rfl ?_
          refine wl_yask (y_move rfl) rfl (fun h9 => ?_) (fun h9 => ?_)
          · skip
            refine wl_gno 70 rfl rfl rfl rfl ?_
            refine wl_gno 70 rfl rfl rfl rfl ?_
            refine wl_gno 70 rfl rfl rfl rfl ?_
            refine wl_gno 70 rfl rfl rfl rfl ?_
            refine wl_gun 74 rfl rfl rfl ?_
            refine wl_gun 74 rfl rfl rfl ?_
            refine wl_gun 74 rfl rfl rfl ?_
            refine wl_gno 70 rfl rfl rfl rfl ?_
            refine wl_y (y_pickt rfl rfl) rfl ?_
            refine wl_y (y_assign rfl) rfl ?_
            refine wl_nil ?_
            refine wq_then_norm (hK20 ?_)
            refine wc_seq ?_; intro K21 hK21
            refine wc_seq ?_; intro K22 hK22
            have hok : (Ed.dec xs).isSome = true := Ed.ok_0t h32 hp (by rw [← hy]; exact hn0.1 (by omega)) (by omega)
            refine wc_region ?_
            refine wl_y (y_move rfl) rfl ?_
            refine wl_y (y_move rfl) rfl ?_
            refine wl_y (Y.as (y_neqb rfl rfl Try.underlying4) (show Value.bool _ = .bool false by rw [hok]; rfl)) rfl ?_
            refine wl_nil ?_
            refine wq_then_norm (hK22 ?_)
            refine wc_false rfl rfl ?_
            refine wc_skip ?_
            refine wq_then_norm (hK21 ?_)
            refine wc_seq ?_; intro K23 hK23
            refine wc_region ?_
            refine wl_y (y_move rfl) rfl ?_
            refine wl_y (y_not rfl) rfl ?_
            refine wl_yaskb (y_move rfl) rfl (fun hs => ?_) (fun hs => ?_)
            · skip
              refine wl_gno 85 rfl rfl rfl rfl ?_
              refine wl_gno 85 rfl rfl rfl rfl ?_
              refine wl_gno 85 rfl rfl rfl rfl ?_
              refine wl_gno 85 rfl rfl rfl rfl ?_
              refine wl_gno 85 rfl rfl rfl rfl ?_
              refine wl_gun 90 rfl rfl rfl ?_
              refine wl_gun 90 rfl rfl rfl ?_
              refine wl_gno 85 rfl rfl rfl rfl ?_
              refine wl_y (y_pickt rfl rfl) rfl ?_
              refine wl_y (y_assign rfl) rfl ?_
              refine wl_nil ?_
              refine wq_then_norm (hK23 ?_)
              refine wc_ret ?_
              refine hret rfl ?_
              exact ⟨rfl, E⟩
            · skip
              refine wl_gy 85 rfl rfl (y_qq rfl P3 B3) rfl ?_
              obtain ⟨P, hP⟩ : ∃ P, Ed.dec xs = some P := by
                cases hd : Ed.dec xs with
                | none => rw [hd] at hs; cases hs
                | some P => exact ⟨P, rfl⟩
              rw [hP] at P3 o3
              replace P3 : PP c3 P := P3
              replace o3 : Ed.On P := o3
              refine wl_gcall 85 rfl rfl Try.func69 rfl rfl rfl (Pbytes_any P3 _) rfl ?_
              rintro e w22 ⟨g22, rfl, hg22, B22, ex⟩
              refine ⟨_, rfl, ?_⟩
              replace E := E.ext ex
              replace B3 := B3.ext ex
              replace H10 := H10.ext ex
              replace HY := HY.ext ex
              replace H14 := H14.ext ex
              replace H16 := H16.ext ex
              replace H18 := H18.ext ex
              replace H20 := H20.ext ex
              rw [Ed.enc_dec hP] at B22
              refine wl_gy 85 rfl rfl (y_move rfl) rfl ?_
              refine wl_gcall 85 rfl rfl Try.func53 rfl rfl rfl (sameX_any _ _ 32 32 32 c xs xs _ (bs_blk' B22 h32) (HA.ext E) (by omega) (by omega)) rfl ?_
              rintro e w23 ⟨rfl, ex⟩
              refine ⟨_, rfl, ?_⟩
              replace E := E.ext ex
              replace B3 := B3.ext ex
              replace H10 := H10.ext ex
              replace HY := HY.ext ex
              replace H14 := H14.ext ex
              replace H16 := H16.ext ex
              replace H18 := H18.ext ex
              replace H20 := H20.ext ex
              rw [decide_eq_true (Eq.refl xs)]
              refine wl_gy 85 rfl rfl (y_move rfl) rfl ?_
              refine wl_gy 90 rfl rfl (y_qq rfl P3 B3) rfl ?_
              refine wl_gcall 90 rfl rfl Try.func70 rfl rfl rfl (Pright_any P3 o3 _) rfl ?_
              rintro e w24 ⟨rfl, ex⟩
              refine ⟨_, rfl, ?_⟩
              replace E := E.ext ex
              replace B3 := B3.ext ex
              replace H10 := H10.ext ex
              replace HY := HY.ext ex
              replace H14 := H14.ext ex
              replace H16 := H16.ext ex
              replace H18 := H18.ext ex
              replace H20 := H20.ext ex
              skip
              refine wl_gy 85 rfl rfl (y_pickt rfl rfl) rfl ?_
              refine wl_y (y_pickf rfl rfl) rfl ?_
              refine wl_y (y_assign rfl) rfl ?_
              refine wl_nil ?_
              refine wq_then_norm (hK23 ?_)
              refine wc_ret ?_
              refine hret rfl ?_
              exact ⟨rfl, E⟩
          · skip
            refine wl_gy 70 rfl rfl (y_move rfl) rfl ?_
            refine wl_gy 70 rfl rfl (y_len_slice rfl Try.underlying30) rfl ?_
            refine wl_gy 70 rfl rfl (y_gtr rfl rfl) rfl ?_
            refine wl_gy 70 rfl rfl (Y.as (y_move rfl) (congrArg Value.bool (decide_eq_false (by omega)))) rfl ?_
            refine wl_gno 74 rfl rfl rfl rfl ?_
            refine wl_gno 74 rfl rfl rfl rfl ?_
            refine wl_gno 74 rfl rfl rfl rfl ?_
            refine wl_gy 70 rfl rfl (y_pickf rfl rfl) rfl ?_
            refine wl_y (y_pickf rfl rfl) rfl ?_
            refine wl_y (y_assign rfl) rfl ?_
            refine wl_nil ?_
            refine wq_then_norm (hK20 ?_)
            refine wc_seq ?_; intro K24 hK24
            refine wc_seq ?_; intro K25 hK25
            have hok : (Ed.dec xs).isSome = false := Ed.ok_0f (xs := xs) (by rw [← hy]; exact hn0.1 (by omega)) (by omega)
            refine wc_region ?_
            refine wl_y (y_move rfl) rfl ?_
            refine wl_y (y_move rfl) rfl ?_
            refine wl_y (Y.as (y_neqb rfl rfl Try.underlying4) (show Value.bool _ = .bool false by rw [hok]; rfl)) rfl ?_
            refine wl_nil ?_
            refine wq_then_norm (hK25 ?_)
            refine wc_false rfl rfl ?_
            refine wc_skip ?_
            refine wq_then_norm (hK24 ?_)
            refine wc_seq ?_; intro K26 hK26
            refine wc_region ?_
            refine wl_y (y_move rfl) rfl ?_
            refine wl_y (y_not rfl) rfl ?_
            refine wl_yaskb (y_move rfl) rfl (fun hs => ?_) (fun hs => ?_)
            · skip
              refine wl_gno 85 rfl rfl rfl rfl ?_
              refine wl_gno 85 rfl rfl rfl rfl ?_
              refine wl_gno 85 rfl rfl rfl rfl ?_
              refine wl_gno 85 rfl rfl rfl rfl ?_
              refine wl_gno 85 rfl rfl rfl rfl ?_
              refine wl_gun 90 rfl rfl rfl ?_
              refine wl_gun 90 rfl rfl rfl ?_
              refine wl_gno 85 rfl rfl rfl rfl ?_
              refine wl_y (y_pickt rfl rfl) rfl ?_
              refine wl_y (y_assign rfl) rfl ?_
              refine wl_nil ?_
              refine wq_then_norm (hK26 ?_)
              refine wc_ret ?_
              refine hret rfl ?_
              exact ⟨rfl, E⟩
            · skip
              refine wl_gy 85 rfl rfl (y_qq rfl P3 B3) rfl ?_
              obtain ⟨P, hP⟩ : ∃ P, Ed.dec xs = some P := by
                cases hd : Ed.dec xs with
                | none => rw [hd] at hs; cases hs
                | some P => exact ⟨P, rfl⟩
              rw [hP] at P3 o3
              replace P3 : PP c3 P := P3
              replace o3 : Ed.On P := o3
              refine wl_gcall 85 rfl rfl Try.func69 rfl rfl rfl (Pbytes_any P3 _) rfl ?_
              rintro e w22 ⟨g22, rfl, hg22, B22, ex⟩
              refine ⟨_, rfl, ?_⟩
              replace E := E.ext ex
              replace B3 := B3.ext ex
              replace H10 := H10.ext ex
              replace HY := HY.ext ex
              replace H14 := H14.ext ex
              replace H16 := H16.ext ex
              replace H18 := H18.ext ex
              replace H20 := H20.ext ex
              rw [Ed.enc_dec hP] at B22
              refine wl_gy 85 rfl rfl (y_move rfl) rfl ?_
              refine wl_gcall 85 rfl rfl Try.func53 rfl rfl rfl (sameX_any _ _ 32 32 32 c xs xs _ (bs_blk' B22 h32) (HA.ext E) (by omega) (by omega)) rfl ?_
              rintro e w23 ⟨rfl, ex⟩
              refine ⟨_, rfl, ?_⟩
              replace E := E.ext ex
              replace B3 := B3.ext ex
              replace H10 := H10.ext ex
              replace HY := HY.ext ex
              replace H14 := H14.ext ex
              replace H16 := H16.ext ex
              replace H18 := H18.ext ex
              replace H20 := H20.ext ex
              rw [decide_eq_true (Eq.refl xs)]
              refine wl_gy 85 rfl rfl (y_move rfl) rfl ?_
              refine wl_gy 90 rfl rfl (y_qq rfl P3 B3) rfl ?_
              refine wl_gcall 90 rfl rfl Try.func70 rfl rfl rfl (Pright_any P3 o3 _) rfl ?_
              rintro e w24 ⟨rfl, ex⟩
              refine ⟨_, rfl, ?_⟩
              replace E := E.ext ex
              replace B3 := B3.ext ex
              replace H10 := H10.ext ex
              replace HY := HY.ext ex
              replace H14 := H14.ext ex
              replace H16 := H16.ext ex
              replace H18 := H18.ext ex
              replace H20 := H20.ext ex
              skip
              refine wl_gy 85 rfl rfl (y_pickt rfl rfl) rfl ?_
              refine wl_y (y_pickf rfl rfl) rfl ?_
              refine wl_y (y_assign rfl) rfl ?_
              refine wl_nil ?_
              refine wq_then_norm (hK26 ?_)
              refine wc_ret ?_
              refine hret rfl ?_
              exact ⟨rfl, E⟩
        · skip
          refine wl_gno 64 rfl rfl rfl rfl ?_
          refine wl_gno 64 rfl rfl rfl rfl ?_
          refine wl_gno 64 rfl rfl rfl rfl ?_
          refine wl_gno 64 rfl rfl rfl rfl ?_
          refine wl_y (y_pickf rfl rfl) rfl ?_
          refine wl_y (y_move rfl) rfl ?_
          refine wl_gy 70 rfl rfl (y_move rfl) rfl ?_
          refine wl_gy 70 rfl rfl (y_len_slice rfl Try.underlying30) rfl ?_
          refine wl_gy 70 rfl rfl (y_gtr rfl rfl) rfl ?_
          refine wl_gy 70 rfl rfl (Y.as (y_move rfl) (congrArg Value.bool (decide_eq_true (by omega)))) rfl ?_
          refine wl_gy 74 rfl rfl (y_move rfl) rfl ?_
          refine wl_gcall 74 rfl rfl Try.func24 rfl rfl rfl (Rnum_any 1 _ (by omega)) rfl ?_
          rintro e w20 ⟨A21, n21, c21, rfl, H21, ex⟩
          refine ⟨_, rfl, ?_⟩
          replace E := E.ext ex
          replace B3 := B3.ext ex
          replace H10 := H10.ext ex
          replace HY := HY.ext ex
          replace H14 := H14.ext ex
          replace H16 := H16.ext ex
          replace H18 := H18.ext ex
          replace H20 := H20.ext ex
          skip
          refine wl_gcall 74 rfl rfl Try.func34 rfl rfl rfl (Rsame_any A20 A21 n20 c20 n21 c21 _ _ _ H20 H21) rfl ?_
          rintro e w21 ⟨rfl, ex⟩
          refine ⟨_, rfl, ?_⟩
          replace E := E.ext ex
          replace B3 := B3.ext ex
          replace H10 := H10.ext ex
          replace HY := HY.ext ex
          replace H14 := H14.ext ex
          replace H16 := H16.ext ex
          replace H18 := H18.ext ex
          replace H20 := H20.ext ex
          skip
          refine wl_gy 70 rfl rfl (y_pickt rfl rfl) rfl ?_
          refine wl_y (y_pickf rfl rfl) rfl ?_
          refine wl_y (y_assign rfl) rfl ?_
          refine wl_nil ?_
          refine wq_then_norm (hK20 ?_)
          refine wc_seq ?_; intro K27 hK27
          refine wc_seq ?_; intro K28 hK28
          have hok := Ed.ok_1 h32 hp (show Ed.sq (Fp.of (Fp.num xs % Ed.top)) ≠ 0 by rw [← hy]; exact fun e => by have := hn0.2 e; omega)
          rw [← hy] at hok
          refine wc_region ?_
          refine wl_y (y_move rfl) rfl ?_
          refine wl_y (y_move rfl) rfl ?_
          refine wl_y (Y.as (y_neqb rfl rfl Try.underlying4) (show Value.bool _ = .bool false by rw [hok]; simp)) rfl ?_
          refine wl_nil ?_
          refine wq_then_norm (hK28 ?_)
          refine wc_false rfl rfl ?_
          refine wc_skip ?_
          refine wq_then_norm (hK27 ?_)
          refine wc_seq ?_; intro K29 hK29
          refine wc_region ?_
          refine wl_y (y_move rfl) rfl ?_
          refine wl_y (y_not rfl) rfl ?_
          refine wl_yaskb (y_move rfl) rfl (fun hs => ?_) (fun hs => ?_)
          · skip
            refine wl_gno 85 rfl rfl rfl rfl ?_
            refine wl_gno 85 rfl rfl rfl rfl ?_
            refine wl_gno 85 rfl rfl rfl rfl ?_
            refine wl_gno 85 rfl rfl rfl rfl ?_
            refine wl_gno 85 rfl rfl rfl rfl ?_
            refine wl_gun 90 rfl rfl rfl ?_
            refine wl_gun 90 rfl rfl rfl ?_
            refine wl_gno 85 rfl rfl rfl rfl ?_
            refine wl_y (y_pickt rfl rfl) rfl ?_
            refine wl_y (y_assign rfl) rfl ?_
            refine wl_nil ?_
            refine wq_then_norm (hK29 ?_)
            refine wc_ret ?_
            refine hret rfl ?_
            exact ⟨rfl, E⟩
          · skip
            refine wl_gy 85 rfl rfl (y_qq rfl P3 B3) rfl ?_
            obtain ⟨P, hP⟩ : ∃ P, Ed.dec xs = some P := by
              cases hd : Ed.dec xs with
              | none => rw [hd] at hs; cases hs
              | some P => exact ⟨P, rfl⟩
            rw [hP] at P3 o3
            replace P3 : PP c3 P := P3
            replace o3 : Ed.On P := o3
            refine wl_gcall 85 rfl rfl Try.func69 rfl rfl rfl (Pbytes_any P3 _) rfl ?_
            rintro e w22 ⟨g22, rfl, hg22, B22, ex⟩
            refine ⟨_, rfl, ?_⟩
            replace E := E.ext ex
            replace B3 := B3.ext ex
            replace H10 := H10.ext ex
            replace HY := HY.ext ex
            replace H14 := H14.ext ex
            replace H16 := H16.ext ex
            replace H18 := H18.ext ex
            replace H20 := H20.ext ex
            rw [Ed.enc_dec hP] at B22
            refine wl_gy 85 rfl rfl (y_move rfl) rfl ?_
            refine wl_gcall 85 rfl rfl Try.func53 rfl rfl rfl (sameX_any _ _ 32 32 32 c xs xs _ (bs_blk' B22 h32) (HA.ext E) (by omega) (by omega)) rfl ?_
            rintro e w23 ⟨rfl, ex⟩
            refine ⟨_, rfl, ?_⟩
            replace E := E.ext ex
            replace B3 := B3.ext ex
            replace H10 := H10.ext ex
            replace HY := HY.ext ex
            replace H14 := H14.ext ex
            replace H16 := H16.ext ex
            replace H18 := H18.ext ex
            replace H20 := H20.ext ex
            rw [decide_eq_true (Eq.refl xs)]
            refine wl_gy 85 rfl rfl (y_move rfl) rfl ?_
            refine wl_gy 90 rfl rfl (y_qq rfl P3 B3) rfl ?_
            refine wl_gcall 90 rfl rfl Try.func70 rfl rfl rfl (Pright_any P3 o3 _) rfl ?_
            rintro e w24 ⟨rfl, ex⟩
            refine ⟨_, rfl, ?_⟩
            replace E := E.ext ex
            replace B3 := B3.ext ex
            replace H10 := H10.ext ex
            replace HY := HY.ext ex
            replace H14 := H14.ext ex
            replace H16 := H16.ext ex
            replace H18 := H18.ext ex
            replace H20 := H20.ext ex
            skip
            refine wl_gy 85 rfl rfl (y_pickt rfl rfl) rfl ?_
            refine wl_y (y_pickf rfl rfl) rfl ?_
            refine wl_y (y_assign rfl) rfl ?_
            refine wl_nil ?_
            refine wq_then_norm (hK29 ?_)
            refine wc_ret ?_
            refine hret rfl ?_
            exact ⟨rfl, E⟩
end Go.Proofs.Ytbcbihdfpkeacaa
