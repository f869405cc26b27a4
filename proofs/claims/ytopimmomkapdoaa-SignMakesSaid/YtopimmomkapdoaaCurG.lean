/- Points of bytes; the layer's alive. -/
import Derived.Test.YtopimmomkapdoaaCurD
namespace Go.Proofs.Ytopimmomkapdoaa
open Go.RowKit
section
attribute [local irreducible] Y Ef WL WC WK WQ WM OpM WN WF OpN
namespace Ed
open Fp
theorem dec_len {xs : List UInt8} (h : xs.length ≠ 32) : dec xs = none := by unfold dec; rw [if_pos (.inl h)]
theorem dec_big {xs : List UInt8} (h : ¬ num xs % top < p) : dec xs = none := by unfold dec; rw [if_pos (.inr (Nat.le_of_not_lt h))]
theorem dec_root {xs : List UInt8} (h : ¬ Sqr (sq (of (num xs % top))) ∨ (root (sq (of (num xs % top))) = 0 ∧ top ≤ num xs)) : dec xs = none := by
  unfold dec
  by_cases h1 : xs.length ≠ 32 ∨ p ≤ num xs % top
  · rw [if_pos h1]
  · rw [if_neg h1, if_pos h]
theorem dec_some {xs : List UInt8} (hl : xs.length = 32) (hp : num xs % top < p) (hs : Sqr (sq (of (num xs % top)))) (h0 : root (sq (of (num xs % top))) = 0 → ¬ top ≤ num xs) :
    dec xs = some (if top ≤ num xs then - root (sq (of (num xs % top))) else root (sq (of (num xs % top))), of (num xs % top)) := by
  unfold dec
  rw [if_neg (by rintro (h | h) <;> omega), if_neg (by rintro (h | ⟨h, k⟩); (· exact h hs); (· exact h0 h k))]
theorem odd_iff {xs : List UInt8} (hl : xs.length = 32) : (xs.getD 31 0).toNat / 128 = 1 ↔ top ≤ num xs := by
  have h := high_bit hl
  have hb := num_lt32 hl
  rw [← h]
  constructor
  · intro e; exact Nat.le_of_not_lt fun hc => by rw [Nat.div_eq_of_lt hc] at e; omega
  · intro e; exact Nat.div_eq_of_lt_le (by omega) (by omega)
theorem num_low {xs : List UInt8} (hl : xs.length = 32) : num (xs.set 31 (UInt8.ofNat ((xs.getD 31 0).toNat % 128))) = num xs % top := by
  rw [num_set31 hl, UInt8.toNat_ofNat', Nat.mod_eq_of_lt (show (xs.getD 31 0).toNat % 128 < 2 ^ 8 by omega), top31, Nat.mod_mul]
  have h1 := num_drop xs 31 (by omega)
  have e : xs.drop 31 = [xs.getD 31 0] := by
    rw [List.drop_eq_getElem_cons (by omega), List.drop_of_length_le (by omega), List.getD_eq_getElem?_getD, List.getElem?_eq_getElem (by omega)]; rfl
  rw [e] at h1
  have h2 : (xs.getD 31 0).toNat = num xs / 256 ^ 31 := by rw [← h1]; simp [num]
  rw [h2]
theorem low_eq {xs : List UInt8} (hl : xs.length = 32) : (le 32 (of (num xs % top)).val = xs.set 31 (UInt8.ofNat ((xs.getD 31 0).toNat % 128))) ↔ num xs % top < p := by
  have h1 := num_low hl
  have hpt := p_top
  have hm : num xs % top % p < p := Nat.mod_lt _ (by unfold p; omega)
  constructor
  · intro e
    have h2 := congrArg num e
    rw [h1, le_num 32 _ (by rw [val_of, ← top2]; omega), val_of] at h2
    omega
  · intro h
    refine num_inj (by rw [le_length, List.length_set, hl]) ?_
    rw [h1, le_num 32 _ (by rw [val_of, ← top2]; omega), val_of, Nat.mod_eq_of_lt h]
theorem ofB_eq {xs : List UInt8} (hl : xs.length = 32) : of (ofB xs) = of (num xs % top) := by
  unfold ofB
  rw [List.take_of_length_le (by omega), of_mod]
  rfl
end Ed
theorem bool_iff {p q : Prop} [Decidable p] [Decidable q] (h : p ↔ q) : Value.bool (decide p) = .bool (decide q) := by congr 1; exact decide_eq_decide.2 h
theorem Pof_any (A : Option Addr) (n c : Nat) (xs : List UInt8) (w : World) (HA : Bs w A n xs) :
    Calls Try.prog 33 #[.slice A n c] w fun e w' => ∃ cs, e = .returned (.tuple #[.agg cs, .bool (Ed.dec xs).isSome]) ∧ PP cs ((Ed.dec xs).getD Ed.O) ∧ Ext w w' := by
  have hl := HA.1
  have E := Ext.refl w
  obtain ⟨y, hy⟩ : ∃ y, y = Fp.of (Fp.num xs % Ed.top) := ⟨_, rfl⟩
  obtain ⟨x, hx⟩ : ∃ x, x = (xs.getD 31 0).toNat := ⟨_, rfl⟩
  have hx8 : x < 256 := hx ▸ (xs.getD 31 0).toNat_lt
  refine vc_enterct (s := 21) 54 Try.func33 rfl rfl rfl Try.underlying64 rfl (by kernel_rfl) rfl ?_
  intro Q hret
  refine wc_seq ?_; intro K1 hK1
  refine wc_region ?_
  refine wl_ef (ef_alloc (Z := pc zf zf zf zf false) (by kernel_rfl)) rfl ?_
  rintro _ w1 ⟨g2, rfl, B2, hg2, ex⟩
  replace E := E.ext ex
  skip
  refine wl_y (y_assign rfl) rfl ?_
  refine wl_nil ?_
  refine wq_then_norm (hK1 ?_)
  refine wc_seq ?_; intro K2 hK2
  refine wc_seq ?_; intro K3 hK3
  refine wc_region ?_
  refine wl_y (y_move rfl) rfl ?_
  refine wl_y (y_len_slice rfl Try.underlying22) rfl ?_
  refine wl_y (y_neq rfl rfl) rfl ?_
  refine wl_nil ?_
  refine wq_then_norm (hK3 ?_)
  refine wc_dec rfl (fun hc1 => ?_) (fun hc1 => ?_)
  · skip
    refine wc_seq ?_; intro K4 hK4
    refine wc_region ?_
    refine wl_y (y_build rfl (cells := pc zf zf zf zf false) (by kernel_rfl)) rfl ?_
    refine wl_ef (ef_storeW rfl rfl (by rw [pc_size]; kernel_rfl) B2 (by simp only [pc_size]) (pc_one _ _ _ _ _)) rfl ?_
    rintro _ w7 ⟨rfl, D2, cg⟩
    replace E := E.chg cg (by omega)
    refine wl_y (y_assign rfl) rfl ?_
    refine wl_nil ?_
    refine wq_then_norm (hK4 ?_)
    refine wc_ret ?_
    refine wq_then_ret ?_
    refine hret rfl rfl D2 (pc_size _ _ _ _ _) ?_
    exact ⟨_, by rw [Ed.dec_len (by omega)]; rfl, by rw [Ed.dec_len (by omega)]; exact PP.zero, E⟩
  · skip
    refine wc_skip ?_
    refine wq_then_norm (hK2 ?_)
    refine wc_seq ?_; intro K5 hK5
    have h32 : xs.length = 32 := by omega
    have hn : n = 32 := by omega
    subst hn
    have hlow := Ed.low_eq h32
    have hodd := Ed.odd_iff h32
    rw [← hx] at hlow hodd
    rw [← hy] at hlow
    obtain ⟨b0, off0, rfl, _, _⟩ := HA.get (k := 0) (by omega)
    refine wc_region ?_
    refine wl_y (y_move rfl) rfl ?_
    refine wl_call Try.func82 rfl rfl rfl (Fof_any _ 32 c xs _ (HA.ext E)) rfl ?_
    rintro e w3 ⟨c3, rfl, FY, ex⟩
    refine ⟨_, rfl, ?_⟩
    replace E := E.ext ex
    replace B2 := B2.ext ex
    rw [Ed.ofB_eq h32, ← hy] at FY; obtain ⟨f3, rfl, FY⟩ := FY.fe
    have hz := E.size; have hl2 := B2.lt
    refine wl_ef (ef_alloc (Z := fe zf) (by kernel_rfl)) rfl ?_
    rintro _ w4 ⟨g4, rfl, B4, hg4, ex⟩
    replace E := E.ext ex
    replace B2 := B2.ext ex
    skip
    refine wl_ef (ef_storeW rfl rfl (by rw [fe_size]; kernel_rfl) B4 (by rw [fe_size, fe_size]) (fe_one _)) rfl ?_
    rintro _ w5 ⟨rfl, D4, cg⟩
    replace E := E.chg cg (by omega); replace B2 := B2.chg cg (by omega)
    refine wl_nil ?_
    refine wq_then_norm (hK5 ?_)
    refine wc_seq ?_; intro K6 hK6
    refine wc_region ?_
    obtain ⟨x', hx', hcx⟩ := (HA.ext E).byteAt (k := 31) (by omega)
    rw [hx'.out, ← hx] at hcx
    refine wl_y (y_move rfl) rfl ?_
    refine wl_y (y_ixs1 rfl rfl Try.underlying22 (by kernel_rfl) (j := 31) rfl (by omega)) rfl ?_
    refine wl_y (y_load1 rfl Try.underlying5 rfl hcx) rfl ?_
    refine wl_y (y_shr rfl rfl (by omega) (show ((x : Nat) : Int) / 2 ^ min (7 : Int).toNat IntKind.u8.bits = ((x / 128 : Nat) : Int) from rfl)) rfl ?_
    refine wl_y (Y.as (y_eql rfl rfl) (bool_iff (show ((x / 128 : Nat) : Int) = 1 ↔ Ed.top ≤ Fp.num xs by rw [← hodd]; omega))) rfl ?_
    refine wl_y (y_assign rfl) rfl ?_
    refine wl_nil ?_
    refine wq_then_norm (hK6 ?_)
    refine wc_seq ?_; intro K7 hK7
    refine wc_region ?_
    refine wl_y (y_move rfl) rfl ?_
    have hl25 := B2.lt; have hl45 := D4.lt; have hz5 := E.size
    refine wl_call Try.func78 rfl rfl rfl (bclone2_any _ 32 c xs _ (HA.ext E) (by omega) (by omega)) rfl ?_
    rintro e w6 ⟨A6, c6, rfl, R6, ex⟩
    refine ⟨_, rfl, ?_⟩
    replace E := E.ext ex
    replace B2 := B2.ext ex
    replace D4 := D4.ext ex
    skip
    refine wl_y (y_assign rfl) rfl ?_
    refine wl_nil ?_
    refine wq_then_norm (hK7 ?_)
    refine wc_seq ?_; intro K8 hK8
    refine wc_region ?_
    obtain ⟨g6, rfl, hcy, hg6, hl6⟩ := R6.byte (i := 31) (by omega)
    rw [← hx] at hcy
    refine wl_y (y_move rfl) rfl ?_
    refine wl_y (y_ixs1 rfl rfl Try.underlying22 (by kernel_rfl) (j := 31) rfl (by omega)) rfl ?_
    refine wl_y (y_load1 rfl Try.underlying5 rfl hcy) rfl ?_
    refine wl_y (y_and rfl rfl (show bits .and .u8 ((x : Nat) : Int) 127 = ((x % 128 : Nat) : Int) from and127 ⟨x, hx8⟩)) rfl ?_
    refine wl_y (y_ixs1 rfl rfl Try.underlying22 (by kernel_rfl) (j := 31) rfl (by omega)) rfl ?_
    rw [← u8_val (n := x % 128) (by omega)]
    refine wl_ef (ef_storeR rfl rfl rfl (by kernel_rfl) R6 (by omega)) rfl ?_
    rintro _ w7 ⟨rfl, R7, cg⟩
    replace E := E.chg cg (by omega); replace B2 := B2.chg cg (by omega); replace D4 := D4.chg cg (by omega); replace R7 := R7.congr rfl (show _ = (xs.set 31 (UInt8.ofNat (x % 128))).map bv by rw [List.map_set]; rfl); have H7 := R7.bs
    refine wl_nil ?_
    refine wq_then_norm (hK8 ?_)
    refine wc_seq ?_; intro K9 hK9
    refine wc_seq ?_; intro K10 hK10
    refine wc_region ?_
    refine wl_y (y_lE rfl D4) rfl ?_
    refine wl_call Try.func83 rfl rfl rfl (fbytes_any FY _) rfl ?_
    rintro e w8 ⟨g8, rfl, hg8, B8, ex⟩
    refine ⟨_, rfl, ?_⟩
    replace E := E.ext ex
    replace B2 := B2.ext ex
    replace D4 := D4.ext ex
    replace H7 := H7.ext ex
    skip
    refine wl_y (y_move rfl) rfl ?_
    refine wl_call Try.func76 rfl rfl rfl (bytesEqual_any _ _ 32 32 32 _ _ _ _ (bs_blk' B8 (Fp.le_length 32 _)) H7) rfl ?_
    rintro e w9 ⟨rfl, ex⟩
    refine ⟨_, rfl, ?_⟩
    replace E := E.ext ex
    replace B2 := B2.ext ex
    replace D4 := D4.ext ex
    replace H7 := H7.ext ex
    replace B8 := B8.ext ex
    skip
    refine wl_y (y_not rfl) rfl ?_
    refine wl_nil ?_
    refine wq_then_norm (hK10 ?_)
    refine wc_cond rfl (fun hc2 => ?_) (fun hc2 => ?_)
    · skip
      refine wc_seq ?_; intro K11 hK11
      refine wc_region ?_
      refine wl_y (y_build rfl (cells := pc zf zf zf zf false) (by kernel_rfl)) rfl ?_
      refine wl_ef (ef_storeW rfl rfl (by rw [pc_size]; kernel_rfl) B2 (by simp only [pc_size]) (pc_one _ _ _ _ _)) rfl ?_
      rintro _ w10 ⟨rfl, D2, cg⟩
      replace E := E.chg cg (by omega); have hd := Ed.dec_big (xs := xs) fun h => by rw [decide_eq_true (hlow.2 h)] at hc2; cases hc2
      refine wl_y (y_assign rfl) rfl ?_
      refine wl_nil ?_
      refine wq_then_norm (hK11 ?_)
      refine wc_ret ?_
      refine wq_then_ret ?_
      refine hret rfl rfl D2 (pc_size _ _ _ _ _) ?_
      exact ⟨_, by rw [hd]; rfl, by rw [hd]; exact PP.zero, E⟩
    · skip
      refine wc_skip ?_
      refine wq_then_norm (hK9 ?_)
      refine wc_seq ?_; intro K12 hK12
      have hp : Fp.num xs % Ed.top < Fp.p := hlow.1 (Classical.byContradiction fun h => by rw [decide_eq_false h] at hc2; cases hc2)
      refine wc_region ?_
      refine wl_y (y_lE rfl D4) rfl ?_
      refine wl_call Try.func84 rfl rfl rfl (pflat_any FY _) rfl ?_
      rintro e w11 ⟨f11, rfl, FX, ex⟩
      refine ⟨_, rfl, ?_⟩
      replace E := E.ext ex
      replace B2 := B2.ext ex
      replace D4 := D4.ext ex
      skip
      refine wl_y (y_move rfl) rfl ?_
      refine wl_y (y_extract rfl rfl) rfl ?_
      refine wl_y (y_extract rfl rfl) rfl ?_
      have hz9 := E.size; have hl29 := B2.lt; have hl49 := D4.lt
      refine wl_ef (ef_alloc (Z := fe zf) (by kernel_rfl)) rfl ?_
      rintro _ w12 ⟨g12, rfl, B12, hg12, ex⟩
      replace E := E.ext ex
      replace B2 := B2.ext ex
      replace D4 := D4.ext ex
      skip
      refine wl_ef (ef_storeW rfl rfl (by rw [fe_size]; kernel_rfl) B12 (by rw [fe_size, fe_size]) (fe_one _)) rfl ?_
      rintro _ w13 ⟨rfl, D12, cg⟩
      replace E := E.chg cg (by omega); replace B2 := B2.chg cg (by omega); replace D4 := D4.chg cg (by omega)
      refine wl_y (y_assign rfl) rfl ?_
      refine wl_nil ?_
      refine wq_then_norm (hK12 ?_)
      refine wc_seq ?_; intro K13 hK13
      refine wc_seq ?_; intro K14 hK14
      refine wc_region ?_
      refine wl_yask (y_move rfl) rfl (fun hs => ?_) (fun hs => ?_)
      · skip
        refine wl_y (y_not rfl) rfl ?_
        refine wl_y (y_move rfl) rfl ?_
        refine wl_gy 40 rfl rfl (y_lE rfl D12) rfl ?_
        rw [if_pos hs] at FX
        refine wl_gcall 40 rfl rfl Try.func85 rfl rfl rfl (Fzero_any FX _) rfl ?_
        rintro e w14 ⟨rfl, ex⟩
        refine ⟨_, rfl, ?_⟩
        replace E := E.ext ex
        replace B2 := B2.ext ex
        replace D4 := D4.ext ex
        replace D12 := D12.ext ex
        skip
        refine wl_gyask 40 rfl rfl (y_move rfl) rfl (fun h0 => ?_) (fun h0 => ?_)
        · skip
          refine wl_gy 43 rfl rfl (y_move rfl) rfl ?_
          refine wl_gy 40 rfl rfl (y_pickt rfl rfl) rfl ?_
          refine wl_y (y_pickf rfl rfl) rfl ?_
          refine wl_nil ?_
          refine wq_then_norm (hK14 ?_)
          refine wc_dec rfl (fun hc3 => ?_) (fun hc3 => ?_)
          · skip
            refine wc_seq ?_; intro K15 hK15
            refine wc_region ?_
            refine wl_y (y_build rfl (cells := pc zf zf zf zf false) (by kernel_rfl)) rfl ?_
            have hd := Ed.dec_root (xs := xs) (.inr ⟨by rw [← hy]; exact h0, hc3⟩)
            refine wl_ef (ef_storeW rfl rfl (by rw [pc_size]; kernel_rfl) B2 (by simp only [pc_size]) (pc_one _ _ _ _ _)) rfl ?_
            rintro _ w10 ⟨rfl, D2, cg⟩
            replace E := E.chg cg (by omega)
            refine wl_y (y_assign rfl) rfl ?_
            refine wl_nil ?_
            refine wq_then_norm (hK15 ?_)
            refine wc_ret ?_
            refine wq_then_ret ?_
            refine hret rfl rfl D2 (pc_size _ _ _ _ _) ?_
            exact ⟨_, by rw [hd]; rfl, by rw [hd]; exact PP.zero, E⟩
          · skip
            refine wc_skip ?_
            refine wq_then_norm (hK13 ?_)
            refine wc_seq ?_; intro K16 hK16
            refine wc_seq ?_; intro K17 hK17
            have hd := Ed.dec_some (xs := xs) h32 hp (by rw [← hy]; exact hs) (fun _ => hc3)
            refine wc_region ?_
            refine wl_y (y_move rfl) rfl ?_
            refine wl_nil ?_
            refine wq_then_norm (hK17 ?_)
            refine wc_no rfl hc3 ?_
            refine wc_skip ?_
            refine wq_then_norm (hK16 ?_)
            refine wc_seq ?_; intro K18 hK18
            rw [if_neg hc3, ← hy] at hd
            refine wc_region ?_
            refine wl_y (y_lE rfl D12) rfl ?_
            refine wl_y (y_lE rfl D4) rfl ?_
            refine wl_call Try.func87 rfl rfl rfl (pof_any FX FY _) rfl ?_
            rintro e w17 ⟨c17, rfl, P17, ex⟩
            refine ⟨_, rfl, ?_⟩
            replace E := E.ext ex
            replace B2 := B2.ext ex
            replace D4 := D4.ext ex
            replace D12 := D12.ext ex
            skip
            refine wl_ef (ef_storeW rfl rfl (by rw [P17.size]; kernel_rfl) B2 (by rw [pc_size, P17.size]) P17.one) rfl ?_
            rintro _ w18 ⟨rfl, D2, cg⟩
            replace E := E.chg cg (by omega)
            refine wl_y (y_assign rfl) rfl ?_
            refine wl_nil ?_
            refine wq_then_norm (hK18 ?_)
            refine wc_ret ?_
            refine hret rfl rfl D2 P17.size ?_
            exact ⟨_, by rw [hd]; rfl, by rw [hd]; exact P17.pp, E⟩
        · skip
          refine wl_gno 43 rfl rfl rfl rfl ?_
          refine wl_gy 40 rfl rfl (y_pickf rfl rfl) rfl ?_
          refine wl_y (y_pickf rfl rfl) rfl ?_
          refine wl_nil ?_
          refine wq_then_norm (hK14 ?_)
          refine wc_false rfl rfl ?_
          refine wc_skip ?_
          refine wq_then_norm (hK13 ?_)
          refine wc_seq ?_; intro K19 hK19
          refine wc_seq ?_; intro K20 hK20
          have hd := Ed.dec_some (xs := xs) h32 hp (by rw [← hy]; exact hs) (fun h => absurd (by rw [hy]; exact h) h0)
          refine wc_region ?_
          refine wl_y (y_move rfl) rfl ?_
          refine wl_nil ?_
          refine wq_then_norm (hK20 ?_)
          refine wc_dec rfl (fun hc4 => ?_) (fun hc4 => ?_)
          · skip
            refine wc_region ?_
            refine wl_y (y_lE rfl D12) rfl ?_
            refine wl_call Try.func86 rfl rfl rfl (Fneg_any FX _) rfl ?_
            rintro e w15 ⟨c15, rfl, FN, ex⟩
            refine ⟨_, rfl, ?_⟩
            replace E := E.ext ex
            replace B2 := B2.ext ex
            replace D4 := D4.ext ex
            replace D12 := D12.ext ex
            obtain ⟨f15, rfl, FN⟩ := FN.fe
            refine wl_ef (ef_storeW rfl rfl (by rw [fe_size]; kernel_rfl) D12 (by rw [fe_size, fe_size]) (fe_one _)) rfl ?_
            rintro _ w16 ⟨rfl, D13, cg⟩
            replace E := E.chg cg (by omega); replace B2 := B2.chg cg (by omega); replace D4 := D4.chg cg (by omega); replace D12 := D13; replace FX := FN; rw [if_pos hc4, ← hy] at hd
            refine wl_nil ?_
            refine wq_then_norm (hK19 ?_)
            refine wc_seq ?_; intro K21 hK21
            refine wc_region ?_
            refine wl_y (y_lE rfl D12) rfl ?_
            refine wl_y (y_lE rfl D4) rfl ?_
            refine wl_call Try.func87 rfl rfl rfl (pof_any FX FY _) rfl ?_
            rintro e w17 ⟨c17, rfl, P17, ex⟩
            refine ⟨_, rfl, ?_⟩
            replace E := E.ext ex
            replace B2 := B2.ext ex
            replace D4 := D4.ext ex
            replace D12 := D12.ext ex
            skip
            refine wl_ef (ef_storeW rfl rfl (by rw [P17.size]; kernel_rfl) B2 (by rw [pc_size, P17.size]) P17.one) rfl ?_
            rintro _ w18 ⟨rfl, D2, cg⟩
            replace E := E.chg cg (by omega)
            refine wl_y (y_assign rfl) rfl ?_
            refine wl_nil ?_
            refine wq_then_norm (hK21 ?_)
            refine wc_ret ?_
            refine hret rfl rfl D2 P17.size ?_
            exact ⟨_, by rw [hd]; rfl, by rw [hd]; exact P17.pp, E⟩
          · skip
            refine wc_skip ?_
            refine wq_then_norm (hK19 ?_)
            refine wc_seq ?_; intro K22 hK22
            rw [if_neg hc4, ← hy] at hd
            refine wc_region ?_
            refine wl_y (y_lE rfl D12) rfl ?_
            refine wl_y (y_lE rfl D4) rfl ?_
            refine wl_call Try.func87 rfl rfl rfl (pof_any FX FY _) rfl ?_
            rintro e w17 ⟨c17, rfl, P17, ex⟩
            refine ⟨_, rfl, ?_⟩
            replace E := E.ext ex
            replace B2 := B2.ext ex
            replace D4 := D4.ext ex
            replace D12 := D12.ext ex
            skip
            refine wl_ef (ef_storeW rfl rfl (by rw [P17.size]; kernel_rfl) B2 (by rw [pc_size, P17.size]) P17.one) rfl ?_
            rintro _ w18 ⟨rfl, D2, cg⟩
            replace E := E.chg cg (by omega)
            refine wl_y (y_assign rfl) rfl ?_
            refine wl_nil ?_
            refine wq_then_norm (hK22 ?_)
            refine wc_ret ?_
            refine hret rfl rfl D2 P17.size ?_
            exact ⟨_, by rw [hd]; rfl, by rw [hd]; exact P17.pp, E⟩
      · skip
        refine wl_y (y_not rfl) rfl ?_
        refine wl_y (y_move rfl) rfl ?_
        refine wl_gno 40 rfl rfl rfl rfl ?_
        refine wl_gno 40 rfl rfl rfl rfl ?_
        refine wl_gno 40 rfl rfl rfl rfl ?_
        refine wl_gun 43 rfl rfl rfl ?_
        refine wl_gno 40 rfl rfl rfl rfl ?_
        refine wl_y (y_pickt rfl rfl) rfl ?_
        refine wl_nil ?_
        refine wq_then_norm (hK14 ?_)
        refine wc_true rfl rfl ?_
        refine wc_seq ?_; intro K23 hK23
        refine wc_region ?_
        refine wl_y (y_build rfl (cells := pc zf zf zf zf false) (by kernel_rfl)) rfl ?_
        have hd := Ed.dec_root (xs := xs) (.inl (by rw [← hy]; exact hs))
        refine wl_ef (ef_storeW rfl rfl (by rw [pc_size]; kernel_rfl) B2 (by simp only [pc_size]) (pc_one _ _ _ _ _)) rfl ?_
        rintro _ w10 ⟨rfl, D2, cg⟩
        replace E := E.chg cg (by omega)
        refine wl_y (y_assign rfl) rfl ?_
        refine wl_nil ?_
        refine wq_then_norm (hK23 ?_)
        refine wc_ret ?_
        refine wq_then_ret ?_
        refine hret rfl rfl D2 (pc_size _ _ _ _ _) ?_
        exact ⟨_, by rw [hd]; rfl, by rw [hd]; exact PP.zero, E⟩
end
section
attribute [local irreducible] Y Ef WL WC WK WQ WM OpM WN WF OpN
theorem dec_onD (xs : List UInt8) : Ed.On ((Ed.dec xs).getD Ed.O) := by
  cases h : Ed.dec xs with
  | none => exact Ed.on_O
  | some P => exact Ed.dec_on h
theorem y_qq {L : List (Nat × Value)} {w : World} {ty e : TypeId} {x : Operand} {g : Nat} {cs : Array Value} {P : Fp.F × Fp.F} (hx : ev L x = some (.pointer (some ⟨g, 0, none⟩))) (h : PP cs P) (B : Blk w g e cs) : Y Try.prog L w (.load 64 x) ty (.agg cs) := y_loadw hx Try.underlying64 rfl (by rw [h.size]; kernel_rfl) B
theorem encB : Ed.enc Ed.B = (88 : UInt8) :: List.replicate 31 (102 : UInt8) := by decide +kernel
end
end Go.Proofs.Ytopimmomkapdoaa
