/- The law FieldTwo: it answers true whatever it is given. -/
import Derived.Test.YtilfjbgjcnijcaaFieldJ
namespace Go.Proofs.Ytilfjbgjcnijcaa
open Go.RowKit
attribute [local irreducible] Y Ef WL WC WK WQ WM OpM
theorem digs_nil (x : Nat) : x = 0 ↔ ((Big.digs x).length : Int) = 0 := by
  constructor
  · rintro rfl; rfl
  · intro h
    rcases Nat.eq_zero_or_pos x with h0 | h0
    · exact h0
    · have := Big.digs_ne h0
      rw [Ne, ← List.length_eq_zero_iff] at this
      omega
theorem alive6_any (w : World) : Calls Try.prog 18 #[] w fun e w' => e = .returned (.bool true) ∧ Ext w w' := by
  have E := Ext.refl w
  obtain ⟨L, hL⟩ : ∃ L, L = Fp.le 32 ((2 + Fp.p - 3) % Fp.p) := ⟨_, rfl⟩
  have b0 : (bys L)[0]? = some (.int .u8 236) := by rw [hL]; kernel_rfl
  have b1 : (bys L)[1]? = some (.int .u8 255) := by rw [hL]; kernel_rfl
  have b31 : (bys L)[31]? = some (.int .u8 127) := by rw [hL]; kernel_rfl
  refine vc_enter1 31 Try.func18 rfl rfl rfl rfl ?_
  intro Q hret
  refine wc_seq ?_; intro K1 hK1
  refine wc_region ?_
  refine wl_y (y_assign rfl) rfl ?_
  refine wl_nil ?_
  refine wq_then_norm (hK1 ?_)
  refine wc_seq ?_; intro K2 hK2
  refine wc_region ?_
  refine wl_call Try.func23 rfl rfl rfl (fnum_any 2 _ (by omega)) rfl ?_
  rintro e w1 ⟨e1, rfl, F1, ex⟩
  refine ⟨_, rfl, ?_⟩
  replace E := E.ext ex
  skip
  refine wl_call Try.func23 rfl rfl rfl (fnum_any 3 _ (by omega)) rfl ?_
  rintro e w2 ⟨e2, rfl, F2, ex⟩
  refine ⟨_, rfl, ?_⟩
  replace E := E.ext ex
  skip
  refine wl_call Try.func27 rfl rfl rfl (fsub_any F1 F2 _) rfl ?_
  rintro e w3 ⟨e3, rfl, F3, ex⟩
  refine ⟨_, rfl, ?_⟩
  replace E := E.ext ex
  skip
  refine wl_call Try.func51 rfl rfl rfl (fbytes_any F3 _) rfl ?_
  rintro e w4 ⟨g, rfl, hg, B, ex⟩
  refine ⟨_, rfl, ?_⟩
  replace E := E.ext ex
  rw [← hL] at B
  refine wl_y (y_assign rfl) rfl ?_
  refine wl_nil ?_
  refine wq_then_norm (hK2 ?_)
  refine wc_seq ?_; intro K3 hK3
  refine wc_region ?_
  refine wl_y (y_move rfl) rfl ?_
  refine wl_y (y_len_slice rfl Try.underlying22) rfl ?_
  refine wl_y (Y.as (y_eql rfl rfl) (congrArg Value.bool (decide_eq_true rfl))) rfl ?_
  refine wl_y (y_move rfl) rfl ?_
  refine wl_gy 9 rfl rfl (y_move rfl) rfl ?_
  refine wl_gy 9 rfl rfl (y_ixs1 rfl rfl Try.underlying22 (by kernel_rfl) (j := 0) rfl (by omega)) rfl ?_
  refine wl_gy 9 rfl rfl (y_load1 rfl Try.underlying5 rfl (B.get (i := 0 + 0) b0)) rfl ?_
  refine wl_gy 9 rfl rfl (Y.as (y_eql rfl rfl) (congrArg Value.bool (decide_eq_true rfl))) rfl ?_
  refine wl_y (y_pickt rfl rfl) rfl ?_
  refine wl_y (y_move rfl) rfl ?_
  refine wl_gy 15 rfl rfl (y_move rfl) rfl ?_
  refine wl_gy 15 rfl rfl (y_ixs1 rfl rfl Try.underlying22 (by kernel_rfl) (j := 1) rfl (by omega)) rfl ?_
  refine wl_gy 15 rfl rfl (y_load1 rfl Try.underlying5 rfl (B.get (i := 0 + 1) b1)) rfl ?_
  refine wl_gy 15 rfl rfl (Y.as (y_eql rfl rfl) (congrArg Value.bool (decide_eq_true rfl))) rfl ?_
  refine wl_y (y_pickt rfl rfl) rfl ?_
  refine wl_y (y_move rfl) rfl ?_
  refine wl_gy 21 rfl rfl (y_move rfl) rfl ?_
  refine wl_gy 21 rfl rfl (y_ixs1 rfl rfl Try.underlying22 (by kernel_rfl) (j := 31) rfl (by omega)) rfl ?_
  refine wl_gy 21 rfl rfl (y_load1 rfl Try.underlying5 rfl (B.get (i := 0 + 31) b31)) rfl ?_
  refine wl_gy 21 rfl rfl (Y.as (y_eql rfl rfl) (congrArg Value.bool (decide_eq_true rfl))) rfl ?_
  refine wl_y (y_pickt rfl rfl) rfl ?_
  refine wl_y (y_move rfl) rfl ?_
  refine wl_gy 27 rfl rfl (y_build rfl (cells := fe (fun _ => 0)) (by kernel_rfl)) rfl ?_
  refine wl_gcall 27 rfl rfl Try.func35 rfl rfl rfl (fzero_any Fe.zero _) rfl ?_
  rintro e w5 ⟨rfl, ex⟩
  refine ⟨_, rfl, ?_⟩
  replace E := E.ext ex
  rw [decide_eq_true rfl]
  refine wl_y (y_pickt rfl rfl) rfl ?_
  refine wl_y (y_assign rfl) rfl ?_
  refine wl_nil ?_
  refine wq_then_norm (hK3 ?_)
  refine wc_ret ?_
  refine hret rfl ?_
  exact ⟨rfl, E⟩
theorem fieldTwo_law (A : Option Addr) (n c : Nat) (xs : List UInt8) (B : Option Addr) (m d : Nat) (ys : List UInt8) (z : Int) (w : World) (HA : Bs w A n xs) (hn : n ≤ maxLen) (HB : Bs w B m ys) (hm : m ≤ maxLen) (hz : (Lit.int .u64 z).wf = true) :
    Calls Try.prog 3 #[.slice A n c, .slice B m d, .int .u64 z] w fun e w' => e = .returned (.bool true) ∧ Below w.heap.size w w' := by
  unfold maxLen at hn hm
  have E := Ext.refl w
  have hz' : 0 ≤ z ∧ z ≤ 18446744073709551615 := by simpa [Lit.wf, IntKind.min, IntKind.max, IntKind.bits, IntKind.signed] using hz
  obtain ⟨N, rfl⟩ : ∃ N : Nat, z = N := Int.eq_ofNat_of_zero_le hz'.1
  obtain ⟨x, hx⟩ : ∃ x, x = Fp.ofB xs := ⟨_, rfl⟩
  obtain ⟨y, hy⟩ : ∃ y, y = Fp.ofB ys := ⟨_, rfl⟩
  have hlen : ∀ v, v < Fp.p → (Big.digs v).length ≤ 17 := fun v hv => by have := p_len; have := Big.length_le (Nat.le_of_lt hv); omega
  refine vc_enter1 114 Try.func3 rfl rfl rfl rfl ?_
  intro Q hret
  refine wc_seq ?_; intro K1 hK1
  have HA0 := HA; have HB0 := HB
  refine wc_region ?_
  refine wl_y (y_assign rfl) rfl ?_
  refine wl_nil ?_
  refine wq_then_norm (hK1 ?_)
  refine wc_seq ?_; intro K2 hK2
  refine wc_seq ?_; intro K3 hK3
  refine wc_region ?_
  refine wl_call Try.func18 rfl rfl rfl (alive6_any _) rfl ?_
  rintro e w1 ⟨rfl, ex⟩
  refine ⟨_, rfl, ?_⟩
  replace HA := HA.ext ex
  replace HB := HB.ext ex
  replace E := E.ext ex
  refine wl_y (y_not rfl) rfl ?_
  refine wl_nil ?_
  refine wq_then_norm (hK3 ?_)
  refine wc_false rfl rfl ?_
  refine wc_skip ?_
  refine wq_then_norm (hK2 ?_)
  refine wc_seq ?_; intro K4 hK4
  refine wc_seq ?_; intro K5 hK5
  refine wc_region ?_
  refine wl_y (y_move rfl) rfl ?_
  refine wl_y (y_len_slice rfl Try.underlying22) rfl ?_
  refine wl_yask (y_gtr rfl rfl) rfl (fun h1 => ?_) (fun h1 => ?_)
  · skip
    refine wl_y (y_move rfl) rfl ?_
    refine wl_gno 17 rfl rfl rfl rfl ?_
    refine wl_gno 17 rfl rfl rfl rfl ?_
    refine wl_gno 17 rfl rfl rfl rfl ?_
    refine wl_y (y_pickt rfl rfl) rfl ?_
    refine wl_nil ?_
    refine wq_then_norm (hK5 ?_)
    refine wc_true rfl rfl ?_
    refine wc_seq ?_; intro K6 hK6
    refine wc_region ?_
    refine wl_y (y_assign rfl) rfl ?_
    refine wl_nil ?_
    refine wq_then_norm (hK6 ?_)
    refine wc_ret ?_
    refine wq_then_ret ?_
    refine hret rfl ?_
    exact ⟨rfl, E⟩
  · skip
    refine wl_y (y_move rfl) rfl ?_
    refine wl_gy 17 rfl rfl (y_move rfl) rfl ?_
    refine wl_gy 17 rfl rfl (y_len_slice rfl Try.underlying22) rfl ?_
    refine wl_gyask 17 rfl rfl (y_gtr rfl rfl) rfl (fun h2 => ?_) (fun h2 => ?_)
    · skip
      refine wl_y (y_pickf rfl rfl) rfl ?_
      refine wl_nil ?_
      refine wq_then_norm (hK5 ?_)
      refine wc_true rfl rfl ?_
      refine wc_seq ?_; intro K7 hK7
      refine wc_region ?_
      refine wl_y (y_assign rfl) rfl ?_
      refine wl_nil ?_
      refine wq_then_norm (hK7 ?_)
      refine wc_ret ?_
      refine wq_then_ret ?_
      refine hret rfl ?_
      exact ⟨rfl, E⟩
    · skip
      refine wl_y (y_pickf rfl rfl) rfl ?_
      refine wl_nil ?_
      refine wq_then_norm (hK5 ?_)
      refine wc_false rfl rfl ?_
      refine wc_skip ?_
      refine wq_then_norm (hK4 ?_)
      refine wc_seq ?_; intro K8 hK8
      refine wc_region ?_
      refine wl_y (y_move rfl) rfl ?_
      refine wl_call Try.func19 rfl rfl rfl (fof_any A n c xs _ HA) rfl ?_
      rintro e w2 ⟨cx, rfl, FX, ex⟩
      refine ⟨_, rfl, ?_⟩
      replace HA := HA.ext ex
      replace HB := HB.ext ex
      replace E := E.ext ex
      rw [← hx] at FX
      refine wl_y (y_move rfl) rfl ?_
      refine wl_call Try.func19 rfl rfl rfl (fof_any B m d ys _ HB) rfl ?_
      rintro e w3 ⟨cy, rfl, FY, ex⟩
      refine ⟨_, rfl, ?_⟩
      replace HA := HA.ext ex
      replace HB := HB.ext ex
      replace E := E.ext ex
      rw [← hy] at FY
      have hs0 := E
      refine wl_ef (ef_alloc (Z := fe (fun _ => 0)) (by kernel_rfl)) rfl ?_
      rintro _ w4 ⟨g4, rfl, B4, hg4, ex⟩
      replace HA := HA.ext ex
      replace HB := HB.ext ex
      replace E := E.ext ex
      have hg4' : w.heap.size ≤ g4 := by have := hs0.size; omega
      have hs0 := E; have hl4 := B4.lt
      refine wl_ef (ef_alloc (Z := fe (fun _ => 0)) (by kernel_rfl)) rfl ?_
      rintro _ w5 ⟨g5, rfl, B5, hg5, ex⟩
      replace HA := HA.ext ex
      replace HB := HB.ext ex
      replace E := E.ext ex
      replace B4 := B4.ext ex; have hg5' : w.heap.size ≤ g5 := by have := hs0.size; omega
      refine wl_ef (ef_storeW rfl rfl (by rw [FX.size]; kernel_rfl) B4 (by rw [fe_size, FX.size]) FX.one) rfl ?_
      rintro _ w6 ⟨rfl, B6, cg⟩
      replace B5 := B5.chg cg (by omega); have E6 := E.chg cg hg4'
      refine wl_ef (ef_storeW rfl rfl (by rw [FY.size]; kernel_rfl) B5 (by rw [fe_size, FY.size]) FY.one) rfl ?_
      rintro _ w7 ⟨rfl, B7, cg⟩
      replace B6 := B6.chg cg (by omega); have E7 := E6.chg cg hg5'; have HA7 := HA0.wk E7; have HB7 := HB0.wk E7
      refine wl_nil ?_
      refine wq_then_norm (hK8 ?_)
      refine wc_seq ?_; intro K9 hK9
      refine wc_region ?_
      refine wl_y (y_move rfl) rfl ?_
      refine wl_call Try.func20 rfl rfl rfl (rfirst_any A n c xs _ HA7 (by omega)) rfl ?_
      rintro e w8 ⟨A8, n8, c8, rfl, H8, _, ex⟩
      refine ⟨_, rfl, ?_⟩
      replace HA7 := HA7.ext ex
      replace HB7 := HB7.ext ex
      replace E7 := E7.ext ex
      replace B6 := B6.ext ex
      replace B7 := B7.ext ex
      rw [← hx] at H8; have hl8 := H8.len; have hx17 := hlen x FX.lt
      refine wl_y (y_move rfl) rfl ?_
      refine wl_call Try.func20 rfl rfl rfl (rfirst_any B m d ys _ HB7 (by omega)) rfl ?_
      rintro e w9 ⟨A9, n9, c9, rfl, H9, _, ex⟩
      refine ⟨_, rfl, ?_⟩
      replace HA7 := HA7.ext ex
      replace HB7 := HB7.ext ex
      replace E7 := E7.ext ex
      replace B6 := B6.ext ex
      replace B7 := B7.ext ex
      replace H8 := H8.ext ex
      rw [← hy] at H9; have hl9 := H9.len; have hy17 := hlen y FY.lt
      refine wl_y (y_assign rfl) rfl ?_
      refine wl_y (y_assign rfl) rfl ?_
      refine wl_nil ?_
      refine wq_then_norm (hK9 ?_)
      refine wc_seq ?_; intro K10 hK10
      refine wc_region ?_
      refine wl_y (y_move rfl) rfl ?_
      refine wl_call Try.func21 rfl rfl rfl (low_any A8 n8 c8 x _ H8 (by omega)) rfl ?_
      rintro e w10 ⟨rfl, ex⟩
      refine ⟨_, rfl, ?_⟩
      replace HA7 := HA7.ext ex
      replace HB7 := HB7.ext ex
      replace E7 := E7.ext ex
      replace B6 := B6.ext ex
      replace B7 := B7.ext ex
      replace H8 := H8.ext ex
      replace H9 := H9.ext ex
      skip
      refine wl_y (y_rem rfl rfl (by omega) (IntWalk.rem_in _ _ (by omega))) rfl ?_
      refine wl_y (y_eql rfl rfl) rfl ?_
      refine wl_y (y_assign rfl) rfl ?_
      refine wl_nil ?_
      refine wq_then_norm (hK10 ?_)
      refine wc_seq ?_; intro K11 hK11
      refine wc_region ?_
      refine wl_y ((y_loadw rfl Try.underlying27 rfl (by rw [FX.size]; kernel_rfl) B6)) rfl ?_
      refine wl_y (y_move rfl) rfl ?_
      refine wl_call Try.func22 rfl rfl rfl (is_any FX A8 n8 c8 x _ H8 (by omega)) rfl ?_
      rintro e w11 ⟨rfl, ex⟩
      refine ⟨_, rfl, ?_⟩
      replace HA7 := HA7.ext ex
      replace HB7 := HB7.ext ex
      replace E7 := E7.ext ex
      replace B6 := B6.ext ex
      replace B7 := B7.ext ex
      replace H8 := H8.ext ex
      replace H9 := H9.ext ex
      rw [decide_eq_true rfl]
      refine wl_y (y_move rfl) rfl ?_
      refine wl_gy 37 rfl rfl ((y_loadw rfl Try.underlying27 rfl (by rw [FY.size]; kernel_rfl) B7)) rfl ?_
      refine wl_gy 37 rfl rfl (y_move rfl) rfl ?_
      refine wl_gcall 37 rfl rfl Try.func22 rfl rfl rfl (is_any FY A9 n9 c9 y _ H9 (by omega)) rfl ?_
      rintro e w12 ⟨rfl, ex⟩
      refine ⟨_, rfl, ?_⟩
      replace HA7 := HA7.ext ex
      replace HB7 := HB7.ext ex
      replace E7 := E7.ext ex
      replace B6 := B6.ext ex
      replace B7 := B7.ext ex
      replace H8 := H8.ext ex
      replace H9 := H9.ext ex
      rw [decide_eq_true rfl]
      refine wl_y (y_pickt rfl rfl) rfl ?_
      refine wl_y (y_move rfl) rfl ?_
      refine wl_gy 42 rfl rfl (y_move rfl) rfl ?_
      refine wl_gcall 42 rfl rfl Try.func23 rfl rfl rfl (fnum_any N _ (by omega)) rfl ?_
      rintro e w13 ⟨c13, rfl, F13, ex⟩
      refine ⟨_, rfl, ?_⟩
      replace HA7 := HA7.ext ex
      replace HB7 := HB7.ext ex
      replace E7 := E7.ext ex
      replace B6 := B6.ext ex
      replace B7 := B7.ext ex
      replace H8 := H8.ext ex
      replace H9 := H9.ext ex
      skip
      refine wl_gy 42 rfl rfl (y_move rfl) rfl ?_
      refine wl_gcall 42 rfl rfl Try.func24 rfl rfl rfl (num_any N _ (by omega)) rfl ?_
      rintro e w14 ⟨A14, n14, c14, rfl, H14, _, ex⟩
      refine ⟨_, rfl, ?_⟩
      replace HA7 := HA7.ext ex
      replace HB7 := HB7.ext ex
      replace E7 := E7.ext ex
      replace B6 := B6.ext ex
      replace B7 := B7.ext ex
      replace H8 := H8.ext ex
      replace H9 := H9.ext ex
      have hl14 := H14.len; have h14 := Big.digs_length_le N 5 (by omega)
      refine wl_gcall 42 rfl rfl Try.func22 rfl rfl rfl (is_any F13 A14 n14 c14 N _ H14 (by omega)) rfl ?_
      rintro e w15 ⟨rfl, ex⟩
      refine ⟨_, rfl, ?_⟩
      replace HA7 := HA7.ext ex
      replace HB7 := HB7.ext ex
      replace E7 := E7.ext ex
      replace B6 := B6.ext ex
      replace B7 := B7.ext ex
      replace H8 := H8.ext ex
      replace H9 := H9.ext ex
      rw [decide_eq_true rfl]
      refine wl_y (y_pickt rfl rfl) rfl ?_
      refine wl_y (y_move rfl) rfl ?_
      refine wl_gy 49 rfl rfl ((y_loadw rfl Try.underlying27 rfl (by rw [FX.size]; kernel_rfl) B6)) rfl ?_
      refine wl_gy 49 rfl rfl ((y_loadw rfl Try.underlying27 rfl (by rw [FY.size]; kernel_rfl) B7)) rfl ?_
      refine wl_gcall 49 rfl rfl Try.func25 rfl rfl rfl (fadd_any FX FY _) rfl ?_
      rintro e w16 ⟨c16, rfl, F16, ex⟩
      refine ⟨_, rfl, ?_⟩
      replace HA7 := HA7.ext ex
      replace HB7 := HB7.ext ex
      replace E7 := E7.ext ex
      replace B6 := B6.ext ex
      replace B7 := B7.ext ex
      replace H8 := H8.ext ex
      replace H9 := H9.ext ex
      have hl16 := hlen _ F16.lt
      refine wl_gy 49 rfl rfl (y_move rfl) rfl ?_
      refine wl_gy 49 rfl rfl (y_move rfl) rfl ?_
      refine wl_gcall 49 rfl rfl Try.func26 rfl rfl rfl (radd_any A8 A9 n8 c8 n9 c9 x y _ H8 H9 (by omega) (by omega)) rfl ?_
      rintro e w17 ⟨A17, n17, c17, rfl, H17, _, ex⟩
      refine ⟨_, rfl, ?_⟩
      replace HA7 := HA7.ext ex
      replace HB7 := HB7.ext ex
      replace E7 := E7.ext ex
      replace B6 := B6.ext ex
      replace B7 := B7.ext ex
      replace H8 := H8.ext ex
      replace H9 := H9.ext ex
      have hl17 := H17.len
      refine wl_gcall 49 rfl rfl Try.func22 rfl rfl rfl (is_any F16 A17 n17 c17 _ _ H17 (by omega)) rfl ?_
      rintro e w18 ⟨rfl, ex⟩
      refine ⟨_, rfl, ?_⟩
      replace HA7 := HA7.ext ex
      replace HB7 := HB7.ext ex
      replace E7 := E7.ext ex
      replace B6 := B6.ext ex
      replace B7 := B7.ext ex
      replace H8 := H8.ext ex
      replace H9 := H9.ext ex
      rw [decide_eq_true rfl]
      refine wl_y (y_pickt rfl rfl) rfl ?_
      refine wl_y (y_move rfl) rfl ?_
      refine wl_gy 58 rfl rfl ((y_loadw rfl Try.underlying27 rfl (by rw [FX.size]; kernel_rfl) B6)) rfl ?_
      refine wl_gy 58 rfl rfl ((y_loadw rfl Try.underlying27 rfl (by rw [FY.size]; kernel_rfl) B7)) rfl ?_
      refine wl_gcall 58 rfl rfl Try.func27 rfl rfl rfl (fsub_any FX FY _) rfl ?_
      rintro e w19 ⟨c19, rfl, F19, ex⟩
      refine ⟨_, rfl, ?_⟩
      replace HA7 := HA7.ext ex
      replace HB7 := HB7.ext ex
      replace E7 := E7.ext ex
      replace B6 := B6.ext ex
      replace B7 := B7.ext ex
      replace H8 := H8.ext ex
      replace H9 := H9.ext ex
      have hl19 := hlen _ F19.lt; have hyp := FY.lt
      refine wl_gy 58 rfl rfl (y_move rfl) rfl ?_
      refine wl_gy 58 rfl rfl (y_move rfl) rfl ?_
      refine wl_gcall 58 rfl rfl Try.func28 rfl rfl rfl (rsub_any A8 A9 n8 c8 n9 c9 x y _ H8 H9 (by omega) (by omega) (by omega)) rfl ?_
      rintro e w20 ⟨A20, n20, c20, rfl, H20, _, ex⟩
      refine ⟨_, rfl, ?_⟩
      replace HA7 := HA7.ext ex
      replace HB7 := HB7.ext ex
      replace E7 := E7.ext ex
      replace B6 := B6.ext ex
      replace B7 := B7.ext ex
      replace H8 := H8.ext ex
      replace H9 := H9.ext ex
      have hl20 := H20.len
      refine wl_gcall 58 rfl rfl Try.func22 rfl rfl rfl (is_any F19 A20 n20 c20 _ _ H20 (by omega)) rfl ?_
      rintro e w21 ⟨rfl, ex⟩
      refine ⟨_, rfl, ?_⟩
      replace HA7 := HA7.ext ex
      replace HB7 := HB7.ext ex
      replace E7 := E7.ext ex
      replace B6 := B6.ext ex
      replace B7 := B7.ext ex
      replace H8 := H8.ext ex
      replace H9 := H9.ext ex
      rw [decide_eq_true rfl]
      refine wl_y (y_pickt rfl rfl) rfl ?_
      refine wl_y (y_move rfl) rfl ?_
      refine wl_gy 67 rfl rfl ((y_loadw rfl Try.underlying27 rfl (by rw [FX.size]; kernel_rfl) B6)) rfl ?_
      refine wl_gcall 67 rfl rfl Try.func29 rfl rfl rfl (fneg_any FX _) rfl ?_
      rintro e w22 ⟨c22, rfl, F22, ex⟩
      refine ⟨_, rfl, ?_⟩
      replace HA7 := HA7.ext ex
      replace HB7 := HB7.ext ex
      replace E7 := E7.ext ex
      replace B6 := B6.ext ex
      replace B7 := B7.ext ex
      replace H8 := H8.ext ex
      replace H9 := H9.ext ex
      have hl22 := hlen _ F22.lt; have hxp := FX.lt
      refine wl_gy 67 rfl rfl (y_move rfl) rfl ?_
      refine wl_gcall 67 rfl rfl Try.func28 rfl rfl rfl (rsub_any none A8 0 0 n8 c8 0 x _ (Ns.nil _ _) H8 (by omega) (by omega) (by omega)) rfl ?_
      rintro e w23 ⟨A23, n23, c23, rfl, H23, _, ex⟩
      refine ⟨_, rfl, ?_⟩
      replace HA7 := HA7.ext ex
      replace HB7 := HB7.ext ex
      replace E7 := E7.ext ex
      replace B6 := B6.ext ex
      replace B7 := B7.ext ex
      replace H8 := H8.ext ex
      replace H9 := H9.ext ex
      rw [Nat.zero_add] at H23; have hl23 := H23.len
      refine wl_gcall 67 rfl rfl Try.func22 rfl rfl rfl (is_any F22 A23 n23 c23 _ _ H23 (by omega)) rfl ?_
      rintro e w24 ⟨rfl, ex⟩
      refine ⟨_, rfl, ?_⟩
      replace HA7 := HA7.ext ex
      replace HB7 := HB7.ext ex
      replace E7 := E7.ext ex
      replace B6 := B6.ext ex
      replace B7 := B7.ext ex
      replace H8 := H8.ext ex
      replace H9 := H9.ext ex
      rw [decide_eq_true rfl]
      refine wl_y (y_pickt rfl rfl) rfl ?_
      refine wl_y (y_move rfl) rfl ?_
      refine wl_gy 74 rfl rfl ((y_loadw rfl Try.underlying27 rfl (by rw [FX.size]; kernel_rfl) B6)) rfl ?_
      refine wl_gy 74 rfl rfl ((y_loadw rfl Try.underlying27 rfl (by rw [FY.size]; kernel_rfl) B7)) rfl ?_
      refine wl_gcall 74 rfl rfl Try.func30 rfl rfl rfl (fmul_any FX FY _) rfl ?_
      rintro e w25 ⟨c25, rfl, F25, ex⟩
      refine ⟨_, rfl, ?_⟩
      replace HA7 := HA7.ext ex
      replace HB7 := HB7.ext ex
      replace E7 := E7.ext ex
      replace B6 := B6.ext ex
      replace B7 := B7.ext ex
      replace H8 := H8.ext ex
      replace H9 := H9.ext ex
      have hl25 := hlen _ F25.lt
      refine wl_gy 74 rfl rfl (y_move rfl) rfl ?_
      refine wl_gy 74 rfl rfl (y_move rfl) rfl ?_
      refine wl_gcall 74 rfl rfl Try.func31 rfl rfl rfl (rmul_any A8 A9 n8 c8 n9 c9 x y _ H8 H9 (by omega) (by omega)) rfl ?_
      rintro e w26 ⟨A26, n26, c26, rfl, H26, _, ex⟩
      refine ⟨_, rfl, ?_⟩
      replace HA7 := HA7.ext ex
      replace HB7 := HB7.ext ex
      replace E7 := E7.ext ex
      replace B6 := B6.ext ex
      replace B7 := B7.ext ex
      replace H8 := H8.ext ex
      replace H9 := H9.ext ex
      have hl26 := H26.len
      refine wl_gcall 74 rfl rfl Try.func22 rfl rfl rfl (is_any F25 A26 n26 c26 _ _ H26 (by omega)) rfl ?_
      rintro e w27 ⟨rfl, ex⟩
      refine ⟨_, rfl, ?_⟩
      replace HA7 := HA7.ext ex
      replace HB7 := HB7.ext ex
      replace E7 := E7.ext ex
      replace B6 := B6.ext ex
      replace B7 := B7.ext ex
      replace H8 := H8.ext ex
      replace H9 := H9.ext ex
      rw [decide_eq_true rfl]
      refine wl_y (y_pickt rfl rfl) rfl ?_
      refine wl_y (y_move rfl) rfl ?_
      refine wl_gy 83 rfl rfl ((y_loadw rfl Try.underlying27 rfl (by rw [FX.size]; kernel_rfl) B6)) rfl ?_
      refine wl_gcall 83 rfl rfl Try.func32 rfl rfl rfl (fsquare_any FX _) rfl ?_
      rintro e w28 ⟨c28, rfl, F28, ex⟩
      refine ⟨_, rfl, ?_⟩
      replace HA7 := HA7.ext ex
      replace HB7 := HB7.ext ex
      replace E7 := E7.ext ex
      replace B6 := B6.ext ex
      replace B7 := B7.ext ex
      replace H8 := H8.ext ex
      replace H9 := H9.ext ex
      have hl28 := hlen _ F28.lt
      refine wl_gy 83 rfl rfl (y_move rfl) rfl ?_
      refine wl_gy 83 rfl rfl (y_move rfl) rfl ?_
      refine wl_gcall 83 rfl rfl Try.func31 rfl rfl rfl (rmul_any A8 A8 n8 c8 n8 c8 x x _ H8 H8 (by omega) (by omega)) rfl ?_
      rintro e w29 ⟨A29, n29, c29, rfl, H29, _, ex⟩
      refine ⟨_, rfl, ?_⟩
      replace HA7 := HA7.ext ex
      replace HB7 := HB7.ext ex
      replace E7 := E7.ext ex
      replace B6 := B6.ext ex
      replace B7 := B7.ext ex
      replace H8 := H8.ext ex
      replace H9 := H9.ext ex
      have hl29 := H29.len
      refine wl_gcall 83 rfl rfl Try.func22 rfl rfl rfl (is_any F28 A29 n29 c29 _ _ H29 (by omega)) rfl ?_
      rintro e w30 ⟨rfl, ex⟩
      refine ⟨_, rfl, ?_⟩
      replace HA7 := HA7.ext ex
      replace HB7 := HB7.ext ex
      replace E7 := E7.ext ex
      replace B6 := B6.ext ex
      replace B7 := B7.ext ex
      replace H8 := H8.ext ex
      replace H9 := H9.ext ex
      rw [decide_eq_true rfl]
      refine wl_y (y_pickt rfl rfl) rfl ?_
      refine wl_y (y_move rfl) rfl ?_
      refine wl_gy 91 rfl rfl ((y_loadw rfl Try.underlying27 rfl (by rw [FX.size]; kernel_rfl) B6)) rfl ?_
      refine wl_gy 91 rfl rfl ((y_loadw rfl Try.underlying27 rfl (by rw [FY.size]; kernel_rfl) B7)) rfl ?_
      refine wl_gcall 91 rfl rfl Try.func33 rfl rfl rfl (fsame_any FX FY _) rfl ?_
      rintro e w31 ⟨rfl, ex⟩
      refine ⟨_, rfl, ?_⟩
      replace HA7 := HA7.ext ex
      replace HB7 := HB7.ext ex
      replace E7 := E7.ext ex
      replace B6 := B6.ext ex
      replace B7 := B7.ext ex
      replace H8 := H8.ext ex
      replace H9 := H9.ext ex
      skip
      refine wl_gy 91 rfl rfl (y_move rfl) rfl ?_
      refine wl_gy 91 rfl rfl (y_move rfl) rfl ?_
      refine wl_gcall 91 rfl rfl Try.func34 rfl rfl rfl (rsame_any A8 A9 n8 c8 n9 c9 x y _ H8 H9 (by omega) (by omega)) rfl ?_
      rintro e w32 ⟨rfl, ex⟩
      refine ⟨_, rfl, ?_⟩
      replace HA7 := HA7.ext ex
      replace HB7 := HB7.ext ex
      replace E7 := E7.ext ex
      replace B6 := B6.ext ex
      replace B7 := B7.ext ex
      replace H8 := H8.ext ex
      replace H9 := H9.ext ex
      skip
      refine wl_gy 91 rfl rfl (Y.as (y_eqlb rfl rfl Try.underlying4) (congrArg Value.bool (show _ = true from by simp))) rfl ?_
      refine wl_y (y_pickt rfl rfl) rfl ?_
      refine wl_y (y_move rfl) rfl ?_
      refine wl_gy 100 rfl rfl ((y_loadw rfl Try.underlying27 rfl (by rw [FX.size]; kernel_rfl) B6)) rfl ?_
      refine wl_gcall 100 rfl rfl Try.func35 rfl rfl rfl (fzero_any FX _) rfl ?_
      rintro e w33 ⟨rfl, ex⟩
      refine ⟨_, rfl, ?_⟩
      replace HA7 := HA7.ext ex
      replace HB7 := HB7.ext ex
      replace E7 := E7.ext ex
      replace B6 := B6.ext ex
      replace B7 := B7.ext ex
      replace H8 := H8.ext ex
      replace H9 := H9.ext ex
      skip
      refine wl_gy 100 rfl rfl (y_move rfl) rfl ?_
      refine wl_gy 100 rfl rfl (y_len_slice rfl Try.underlying30) rfl ?_
      refine wl_gy 100 rfl rfl (y_eql rfl rfl) rfl ?_
      refine wl_gy 100 rfl rfl (Y.as (y_eqlb rfl rfl Try.underlying4) (congrArg Value.bool (show _ = true from by rw [beq_iff_eq]; exact decide_eq_decide.2 (by rw [← hl8]; exact digs_nil x)))) rfl ?_
      refine wl_y (y_pickt rfl rfl) rfl ?_
      refine wl_y (y_move rfl) rfl ?_
      refine wl_gy 108 rfl rfl ((y_loadw rfl Try.underlying27 rfl (by rw [FX.size]; kernel_rfl) B6)) rfl ?_
      refine wl_gcall 108 rfl rfl Try.func36 rfl rfl rfl (fodd_any FX _) rfl ?_
      rintro e w34 ⟨rfl, ex⟩
      refine ⟨_, rfl, ?_⟩
      replace HA7 := HA7.ext ex
      replace HB7 := HB7.ext ex
      replace E7 := E7.ext ex
      replace B6 := B6.ext ex
      replace B7 := B7.ext ex
      replace H8 := H8.ext ex
      replace H9 := H9.ext ex
      skip
      refine wl_gy 108 rfl rfl (y_move rfl) rfl ?_
      refine wl_gy 108 rfl rfl (Y.as (y_eqlb rfl rfl Try.underlying4) (congrArg Value.bool (show _ = true from by rw [beq_iff_eq]; exact decide_eq_decide.2 (by omega)))) rfl ?_
      refine wl_y (y_pickt rfl rfl) rfl ?_
      refine wl_y (y_assign rfl) rfl ?_
      refine wl_nil ?_
      refine wq_then_norm (hK11 ?_)
      refine wc_ret ?_
      refine hret rfl ?_
      exact ⟨rfl, E7⟩
end Go.Proofs.Ytilfjbgjcnijcaa
