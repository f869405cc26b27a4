/- Leaves, parents and nodes that are taken of bytes: what node hands back. -/
import Derived.Test.YtpgalbgonmclaaaGreatNdB
namespace Go.Proofs.YtpgalbgonmclaaaGreat
open Go.RowKit
attribute [local irreducible] Y Ef WL WC WK WQ WM OpM WN WF OpN WJ OpJ
open Wire
namespace Nd
def lf1 (s : St) : St := (vecX s).2
def lf2 (s : St) : St := (vecX (lf1 s)).2
def lf3 (s : St) : St := (vecX (lf2 s)).2
def lf4 (s : St) : St := (numX 1 (lf3 s)).2
def src (s : St) : Nat := (numX 1 (lf3 s)).1
def leafP (s : St) : List UInt8 × St := if src s = 3 then vecX (lf4 s) else ([], lf4 s)
def leafQ (s : St) : List UInt8 × St := vecX (leafP s).2
def leafL (s : St) : Leaf := ⟨(vecX s).1, (vecX (lf1 s)).1, (vecX (lf2 s)).1, src s, (leafP s).1, (leafQ s).1⟩
/-- A leaf that stands next, or an error. -/
def leafX (s : St) : (Leaf × Nat) × St :=
  if ecode (lf4 s) ≠ 0 then ((Leaf.zero, ecode (lf4 s)), lf4 s)
  else if src s < 1 ∨ 3 < src s then ((Leaf.zero, 3), lf4 s)
  else if ecode (leafQ s).2 ≠ 0 then ((Leaf.zero, ecode (leafQ s).2), (leafQ s).2)
  else if okLeaf (leafL s) then ((leafL s, 0), (leafQ s).2) else ((Leaf.zero, 3), (leafQ s).2)
end Nd
open Nd
theorem takeLeaf_any {N : Nat} {S : List Nat} {g : Nat} {s : St} (w : World) (H0 : Rs N S w g s) :
    Calls Tryz.prog 116 #[.pointer (some ⟨g, 0, none⟩)] w fun e w' => ∃ cs, e = .returned (.tuple #[.agg cs, .int .u8 (((leafX s).1.2 : Nat) : Int)]) ∧ LeafF w.heap.size w' cs (leafX s).1.1 ∧ Rs N S w' g (leafX s).2 ∧ Chs [g] w w' := by
  have hgl := H0.lt
  have hgS := H0.mem
  have F := Chs.refl [g] w
  have H := H0
  have hsrc : src s < 256 := numX_lt 1 _
  refine vc_enterct (s := 6) 52 Tryz.func116 rfl rfl rfl Tryz.underlying25 rfl (by kernel_rfl) rfl ?_
  intro Q hret
  refine wc_seq ?_; intro K1 hK1
  refine wc_region ?_
  refine wl_ef (ef_alloc (Z := #[.slice none 0 0, .slice none 0 0, .slice none 0 0, .int .u8 0, .slice none 0 0, .slice none 0 0]) (by kernel_rfl)) rfl ?_
  rintro _ wB2 ⟨gB2, rfl, B2, hgB2, ex⟩
  have lB2 := B2.lt; have zB2 := ex.size
  replace F := F.grow ex hgB2
  replace H := H.grow ex hgB2
  refine wl_y (y_assign rfl) rfl ?_
  refine wl_nil ?_
  refine wq_then_norm (hK1 ?_)
  refine wc_seq ?_; intro K2 hK2
  refine wc_region ?_
  refine wl_y (y_move rfl) rfl ?_
  refine wl_call Tryz.func114 rfl rfl rfl (rVec_any _ H) rfl ?_
  rintro e w1 ⟨A1, n1, c1, rfl, hc1, V1, H1, ex⟩
  refine ⟨_, rfl, ?_⟩
  replace F := F.chs ex
  replace B2 := B2.chs ex
  have J1 := V1.kk (S := [gB2, g]) (by simp; omega)
  refine wl_y (y_move rfl) rfl ?_
  have q2 := B2.lt; have q3 := F.size
  refine wl_call Tryz.func114 rfl rfl rfl (rVec_any _ H1) rfl ?_
  rintro e w2 ⟨A2, n2, c2, rfl, hc2, V2, H2, ex⟩
  refine ⟨_, rfl, ?_⟩
  replace F := F.chs ex
  replace B2 := B2.chs ex
  replace J1 := J1.chs ex
  have J2 := V2.kk (S := [gB2, g]) (by simp; omega)
  refine wl_y (y_move rfl) rfl ?_
  have q4 := B2.lt; have q5 := F.size
  refine wl_call Tryz.func114 rfl rfl rfl (rVec_any _ H2) rfl ?_
  rintro e w3 ⟨A3, n3, c3, rfl, hc3, V3, H3, ex⟩
  refine ⟨_, rfl, ?_⟩
  replace F := F.chs ex
  replace B2 := B2.chs ex
  replace J1 := J1.chs ex
  replace J2 := J2.chs ex
  have J3 := V3.kk (S := [gB2, g]) (by simp; omega)
  refine wl_y (y_move rfl) rfl ?_
  have q6 := F.size
  refine wl_call Tryz.func118 rfl rfl rfl (rnum_any 1 1 rfl _ (by omega) H3) rfl ?_
  rintro e w4 ⟨rfl, H4, ex⟩
  refine ⟨_, rfl, ?_⟩
  replace F := F.chs ex
  replace B2 := B2.chs ex
  replace J1 := J1.chs ex
  replace J2 := J2.chs ex
  replace J3 := J3.chs ex
  refine wl_y (y_conv rfl Tryz.underlying53 Tryz.underlying5 (show IntKind.u8.wrap ((src s : Nat) : Int) = ((src s : Nat) : Int) from IntWalk.u8_in _ ⟨by omega, by omega⟩)) rfl ?_
  refine wl_y (y_build rfl (cells := leafV ⟨A1, n1, c1⟩ ⟨A2, n2, c2⟩ ⟨A3, n3, c3⟩ (src s) nilH nilH) (by kernel_rfl)) rfl ?_
  refine wl_ef (ef_alloc (Z := #[.slice none 0 0, .slice none 0 0, .slice none 0 0, .int .u8 0, .slice none 0 0, .slice none 0 0]) (by kernel_rfl)) rfl ?_
  rintro _ wB4 ⟨gB4, rfl, B4, hgB4, ex⟩
  have lB4 := B4.lt; have zB4 := ex.size
  have nB2_4 : gB2 < gB4 := Nat.lt_of_lt_of_le B2.lt hgB4
  replace F := F.grow ex hgB4
  replace B2 := B2.grow ex hgB4
  replace J1 := J1.grow ex hgB4
  replace J2 := J2.grow ex hgB4
  replace J3 := J3.grow ex hgB4
  replace H4 := H4.grow ex hgB4
  refine wl_ef (ef_storeP (o := 0) rfl rfl (by kernel_rfl) B4 (Nat.le_of_ble_eq_true rfl) (all_ones rfl)) rfl ?_
  rintro _ wS1_11 ⟨rfl, D, cg⟩
  have ex := Chs.one cg
  clear cg
  replace F := F.chs ex
  replace B2 := B2.chs ex
  replace J1 := J1.chs ex
  replace J2 := J2.chs ex
  replace J3 := J3.chs ex
  replace H4 := H4.chs ex
  replace B4 := D; clear D
  replace B4 := B4.congr (cs' := leafV ⟨A1, n1, c1⟩ ⟨A2, n2, c2⟩ ⟨A3, n3, c3⟩ (src s) nilH nilH) rfl
  have q7 := F.size; have q8 := B4.lt; have q9 := B2.lt
  refine wl_nil ?_
  refine wq_then_norm (hK2 ?_)
  refine wc_seq ?_; intro K3 hK3
  refine wc_seq ?_; intro K4 hK4
  refine wc_region ?_
  refine wl_y (y_move rfl) rfl ?_
  refine wl_call Tryz.func115 rfl rfl rfl (rErr_any _ H4) rfl ?_
  rintro e w5 ⟨rfl, ex⟩
  refine ⟨_, rfl, ?_⟩
  replace F := F.ext ex
  replace B2 := B2.ext ex
  replace J1 := J1.ext ex
  replace J2 := J2.ext ex
  replace J3 := J3.ext ex
  replace H4 := H4.ext ex
  replace B4 := B4.ext ex
  skip
  refine wl_y (y_assign rfl) rfl ?_
  refine wl_nil ?_
  refine wq_then_norm (hK4 ?_)
  refine wc_seq ?_; intro K5 hK5
  refine wc_region ?_
  refine wl_y (y_move rfl) rfl ?_
  refine wl_y (y_neq rfl rfl) rfl ?_
  refine wl_nil ?_
  refine wq_then_norm (hK5 ?_)
  refine wc_dec rfl (fun hc1 => ?_) (fun hc1 => ?_)
  · skip
    have e1 : leafX s = ((Leaf.zero, ecode (lf4 s)), lf4 s) := by unfold leafX; rw [if_pos (fun h => hc1 (by rw [show ecode (numX 1 (vecX (vecX (vecX s).2).2).2).2 = 0 from h]; rfl))]
    refine wc_seq ?_; intro K6 hK6
    refine wc_region ?_
    refine wl_y (y_build rfl (cells := zLeafV) (by kernel_rfl)) rfl ?_
    refine wl_y (y_move rfl) rfl ?_
    refine wl_ef (ef_storeP (o := 0) rfl rfl (by kernel_rfl) B2 (Nat.le_of_ble_eq_true rfl) (all_ones rfl)) rfl ?_
    rintro _ wS4_2 ⟨rfl, D, cg⟩
    have ex := Chs.one cg
    clear cg
    replace F := F.chs ex
    replace J1 := J1.chs ex
    replace J2 := J2.chs ex
    replace J3 := J3.chs ex
    replace H4 := H4.chs ex
    replace B4 := B4.chs ex
    replace B2 := D; clear D
    replace B2 := B2.congr (cs' := zLeafV) rfl
    refine wl_y (y_assign rfl) rfl ?_
    refine wl_nil ?_
    refine wq_then_norm (hK6 ?_)
    refine wc_ret ?_
    refine wq_then_ret ?_
    refine hret rfl rfl B2 rfl ?_
    rw [e1]; exact ⟨zLeafV, rfl, LeafF.zero _ _, H4.mono (fun k hk => by simp [hk]) hgS, (F.drop (by omega)).drop (by omega)⟩
  · skip
    have e1 : ecode (lf4 s) = 0 := by have : ¬ ((ecode (lf4 s) : Nat) : Int) ≠ 0 := hc1; omega
    refine wc_skip ?_
    refine wq_then_norm (hK3 ?_)
    refine wc_seq ?_; intro K7 hK7
    refine wc_seq ?_; intro K8 hK8
    refine wc_region ?_
    refine wl_y (y_fieldAddr (o := 3) (s := 1) (off := 0) (o' := 3) rfl Tryz.underlying25 rfl (by kernel_rfl) rfl rfl) rfl ?_
    refine wl_y (y_load1 rfl Tryz.underlying5 rfl (B4.get (i := 3) rfl)) rfl ?_
    refine wl_yask (y_lss rfl rfl) rfl (fun u1 => ?_) (fun u1 => ?_)
    · skip
      refine wl_y (y_move rfl) rfl ?_
      refine wl_gno 26 rfl rfl rfl rfl ?_
      refine wl_gno 26 rfl rfl rfl rfl ?_
      refine wl_gno 26 rfl rfl rfl rfl ?_
      refine wl_y (y_pickt rfl rfl) rfl ?_
      refine wl_nil ?_
      refine wq_then_norm (hK8 ?_)
      refine wc_true rfl rfl ?_
      refine wc_seq ?_; intro K9 hK9
      have e2 : leafX s = ((Leaf.zero, 3), lf4 s) := by unfold leafX; rw [if_neg (by omega), if_pos (by omega)]
      refine wc_region ?_
      refine wl_y (y_build rfl (cells := zLeafV) (by kernel_rfl)) rfl ?_
      refine wl_ef (ef_storeP (o := 0) rfl rfl (by kernel_rfl) B2 (Nat.le_of_ble_eq_true rfl) (all_ones rfl)) rfl ?_
      rintro _ wS6_1 ⟨rfl, D, cg⟩
      have ex := Chs.one cg
      clear cg
      replace F := F.chs ex
      replace J1 := J1.chs ex
      replace J2 := J2.chs ex
      replace J3 := J3.chs ex
      replace H4 := H4.chs ex
      replace B4 := B4.chs ex
      replace B2 := D; clear D
      replace B2 := B2.congr (cs' := zLeafV) rfl
      refine wl_y (y_assign rfl) rfl ?_
      refine wl_nil ?_
      refine wq_then_norm (hK9 ?_)
      refine wc_ret ?_
      refine wq_then_ret ?_
      refine hret rfl rfl B2 rfl ?_
      rw [e2]; exact ⟨zLeafV, rfl, LeafF.zero _ _, H4.mono (fun k hk => by simp [hk]) hgS, (F.drop (by omega)).drop (by omega)⟩
    · skip
      refine wl_y (y_move rfl) rfl ?_
      refine wl_gy 26 rfl rfl (y_fieldAddr (o := 3) (s := 1) (off := 0) (o' := 3) rfl Tryz.underlying25 rfl (by kernel_rfl) rfl rfl) rfl ?_
      refine wl_gy 26 rfl rfl (y_load1 rfl Tryz.underlying5 rfl (B4.get (i := 3) rfl)) rfl ?_
      refine wl_gyask 26 rfl rfl (y_gtr rfl rfl) rfl (fun u2 => ?_) (fun u2 => ?_)
      · skip
        refine wl_y (y_pickf rfl rfl) rfl ?_
        refine wl_nil ?_
        refine wq_then_norm (hK8 ?_)
        refine wc_true rfl rfl ?_
        refine wc_seq ?_; intro K10 hK10
        have e2 : leafX s = ((Leaf.zero, 3), lf4 s) := by unfold leafX; rw [if_neg (by omega), if_pos (by omega)]
        refine wc_region ?_
        refine wl_y (y_build rfl (cells := zLeafV) (by kernel_rfl)) rfl ?_
        refine wl_ef (ef_storeP (o := 0) rfl rfl (by kernel_rfl) B2 (Nat.le_of_ble_eq_true rfl) (all_ones rfl)) rfl ?_
        rintro _ wS6_1 ⟨rfl, D, cg⟩
        have ex := Chs.one cg
        clear cg
        replace F := F.chs ex
        replace J1 := J1.chs ex
        replace J2 := J2.chs ex
        replace J3 := J3.chs ex
        replace H4 := H4.chs ex
        replace B4 := B4.chs ex
        replace B2 := D; clear D
        replace B2 := B2.congr (cs' := zLeafV) rfl
        refine wl_y (y_assign rfl) rfl ?_
        refine wl_nil ?_
        refine wq_then_norm (hK10 ?_)
        refine wc_ret ?_
        refine wq_then_ret ?_
        refine hret rfl rfl B2 rfl ?_
        rw [e2]; exact ⟨zLeafV, rfl, LeafF.zero _ _, H4.mono (fun k hk => by simp [hk]) hgS, (F.drop (by omega)).drop (by omega)⟩
      · skip
        refine wl_y (y_pickf rfl rfl) rfl ?_
        refine wl_nil ?_
        refine wq_then_norm (hK8 ?_)
        refine wc_false rfl rfl ?_
        refine wc_skip ?_
        refine wq_then_norm (hK7 ?_)
        refine wc_seq ?_; intro K11 hK11
        refine wc_seq ?_; intro K12 hK12
        refine wc_region ?_
        refine wl_y (y_fieldAddr (o := 3) (s := 1) (off := 0) (o' := 3) rfl Tryz.underlying25 rfl (by kernel_rfl) rfl rfl) rfl ?_
        refine wl_y (y_load1 rfl Tryz.underlying5 rfl (B4.get (i := 3) rfl)) rfl ?_
        refine wl_y (y_eql rfl rfl) rfl ?_
        refine wl_nil ?_
        refine wq_then_norm (hK12 ?_)
        refine wc_dec rfl (fun hc3 => ?_) (fun hc3 => ?_)
        · skip
          have e3 : leafP s = vecX (lf4 s) := by unfold leafP; rw [if_pos (by omega)]
          refine wc_region ?_
          refine wl_y (y_move rfl) rfl ?_
          have q13 := F.size; have q14 := B4.lt; have q15 := B2.lt
          refine wl_call Tryz.func114 rfl rfl rfl (rVec_any _ H4) rfl ?_
          rintro e w6 ⟨A5, n5, c5, rfl, hc5, V5, H5, ex⟩
          refine ⟨_, rfl, ?_⟩
          replace F := F.chs ex
          replace B2 := B2.chs ex
          replace J1 := J1.chs ex
          replace J2 := J2.chs ex
          replace J3 := J3.chs ex
          replace B4 := B4.chs ex
          have J5 := V5.kk (S := [gB4, gB2, g]) (by simp; omega)
          refine wl_y (y_fieldAddr (o := 4) (s := 1) (off := 0) (o' := 4) rfl Tryz.underlying25 rfl (by kernel_rfl) rfl rfl) rfl ?_
          refine wl_ef (ef_storeB (i := 4) rfl rfl rfl (by kernel_rfl) B4 (Nat.le_of_ble_eq_true rfl)) rfl ?_
          rintro _ wS8_3 ⟨rfl, D, cg⟩
          have ex := Chs.one cg
          clear cg
          replace F := F.chs ex
          replace B2 := B2.chs ex
          replace J1 := J1.chs ex
          replace J2 := J2.chs ex
          replace J3 := J3.chs ex
          replace H5 := H5.chs ex
          replace J5 := J5.chs ex
          replace B4 := D; clear D
          replace B4 := B4.congr (cs' := leafV ⟨A1, n1, c1⟩ ⟨A2, n2, c2⟩ ⟨A3, n3, c3⟩ (src s) ⟨A5, n5, c5⟩ nilH) rfl
          refine wl_nil ?_
          refine wq_then_norm (hK11 ?_)
          refine wc_seq ?_; intro K13 hK13
          have q10 := F.size; have q11 := B4.lt; have q12 := B2.lt
          refine wc_region ?_
          refine wl_y (y_move rfl) rfl ?_
          refine wl_call Tryz.func114 rfl rfl rfl (rVec_any _ H5) rfl ?_
          rintro e w7 ⟨A6, n6, c6, rfl, hc6, V6, H6, ex⟩
          refine ⟨_, rfl, ?_⟩
          replace F := F.chs ex
          replace B2 := B2.chs ex
          replace J1 := J1.chs ex
          replace J2 := J2.chs ex
          replace J3 := J3.chs ex
          replace B4 := B4.chs ex
          replace J5 := J5.chs ex
          have J6 := V6.kk (S := [gB4, gB2, g]) (by simp; omega)
          refine wl_y (y_fieldAddr (o := 5) (s := 1) (off := 0) (o' := 5) rfl Tryz.underlying25 rfl (by kernel_rfl) rfl rfl) rfl ?_
          refine wl_ef (ef_storeB (i := 5) rfl rfl rfl (by kernel_rfl) B4 (Nat.le_of_ble_eq_true rfl)) rfl ?_
          rintro _ wS9_3 ⟨rfl, D, cg⟩
          have ex := Chs.one cg
          clear cg
          replace F := F.chs ex
          replace B2 := B2.chs ex
          replace J1 := J1.chs ex
          replace J2 := J2.chs ex
          replace J3 := J3.chs ex
          replace J5 := J5.chs ex
          replace H6 := H6.chs ex
          replace J6 := J6.chs ex
          replace B4 := D; clear D
          replace B4 := B4.congr (cs' := leafV ⟨A1, n1, c1⟩ ⟨A2, n2, c2⟩ ⟨A3, n3, c3⟩ (src s) ⟨A5, n5, c5⟩ ⟨A6, n6, c6⟩) rfl
          refine wl_nil ?_
          refine wq_then_norm (hK13 ?_)
          refine wc_seq ?_; intro K14 hK14
          refine wc_seq ?_; intro K15 hK15
          refine wc_region ?_
          refine wl_y (y_move rfl) rfl ?_
          have e4 : leafQ s = vecX ((vecX (lf4 s)).2) := by unfold leafQ; rw [e3]
          replace H6 : Rs N _ _ g (vecX ((vecX (lf4 s)).2)).2 := H6
          rw [← e4] at H6
          refine wl_call Tryz.func115 rfl rfl rfl (rErr_any _ H6) rfl ?_
          rintro e w8 ⟨rfl, ex⟩
          refine ⟨_, rfl, ?_⟩
          replace F := F.ext ex
          replace B2 := B2.ext ex
          replace J1 := J1.ext ex
          replace J2 := J2.ext ex
          replace J3 := J3.ext ex
          replace B4 := B4.ext ex
          replace J5 := J5.ext ex
          replace H6 := H6.ext ex
          replace J6 := J6.ext ex
          skip
          refine wl_y (y_assign rfl) rfl ?_
          refine wl_nil ?_
          refine wq_then_norm (hK15 ?_)
          refine wc_seq ?_; intro K16 hK16
          refine wc_region ?_
          refine wl_y (y_move rfl) rfl ?_
          refine wl_y (y_neq rfl rfl) rfl ?_
          refine wl_nil ?_
          refine wq_then_norm (hK16 ?_)
          refine wc_dec rfl (fun hc4 => ?_) (fun hc4 => ?_)
          · skip
            have e5 : leafX s = ((Leaf.zero, ecode (leafQ s).2), (leafQ s).2) := by unfold leafX; rw [if_neg (by omega), if_neg (by omega), if_pos (by omega)]
            refine wc_seq ?_; intro K17 hK17
            refine wc_region ?_
            refine wl_y (y_build rfl (cells := zLeafV) (by kernel_rfl)) rfl ?_
            refine wl_y (y_move rfl) rfl ?_
            refine wl_ef (ef_storeP (o := 0) rfl rfl (by kernel_rfl) B2 (Nat.le_of_ble_eq_true rfl) (all_ones rfl)) rfl ?_
            rintro _ wS12_2 ⟨rfl, D, cg⟩
            have ex := Chs.one cg
            clear cg
            replace F := F.chs ex
            replace J1 := J1.chs ex
            replace J2 := J2.chs ex
            replace J3 := J3.chs ex
            replace B4 := B4.chs ex
            replace J5 := J5.chs ex
            replace H6 := H6.chs ex
            replace J6 := J6.chs ex
            replace B2 := D; clear D
            replace B2 := B2.congr (cs' := zLeafV) rfl
            refine wl_y (y_assign rfl) rfl ?_
            refine wl_nil ?_
            refine wq_then_norm (hK17 ?_)
            refine wc_ret ?_
            refine wq_then_ret ?_
            refine hret rfl rfl B2 rfl ?_
            rw [e5]; exact ⟨zLeafV, rfl, LeafF.zero _ _, H6.mono (fun k hk => by simp [hk]) hgS, (F.drop (by omega)).drop (by omega)⟩
          · skip
            have e5 : ecode (leafQ s).2 = 0 := by omega
            refine wc_skip ?_
            refine wq_then_norm (hK14 ?_)
            refine wc_seq ?_; intro K18 hK18
            refine wc_seq ?_; intro K19 hK19
            have HL : ∀ wx, Chs [gB2] w8 wx → LeafF w.heap.size wx (leafV ⟨A1, n1, c1⟩ ⟨A2, n2, c2⟩ ⟨A3, n3, c3⟩ (src s) ⟨A5, n5, c5⟩ ⟨A6, n6, c6⟩) (leafL s) := fun wx cx => ⟨_, _, _, _, _, rfl, hsrc, (J1.chs cx).out.mono (by omega), (J2.chs cx).out.mono (by omega), (J3.chs cx).out.mono (by omega), by show Fb _ _ _ _ (leafP s).1; rw [e3]; exact (J5.chs cx).out.mono (by omega), by show Fb _ _ _ _ (leafQ s).1; rw [e4]; exact (J6.chs cx).out.mono (by omega)⟩
            refine wc_region ?_
            refine wl_y (y_loadw rfl Tryz.underlying25 rfl (by kernel_rfl) B4) rfl ?_
            refine wl_call Tryz.func136 rfl rfl rfl (rightLeaf_any _ (HL _ (Chs.refl _ _)).at) rfl ?_
            rintro e w9 ⟨rfl, ex9⟩
            have ex := ex9
            refine ⟨_, rfl, ?_⟩
            replace F := F.ext ex
            replace B2 := B2.ext ex
            replace J1 := J1.ext ex
            replace J2 := J2.ext ex
            replace J3 := J3.ext ex
            replace B4 := B4.ext ex
            replace J5 := J5.ext ex
            replace H6 := H6.ext ex
            replace J6 := J6.ext ex
            skip
            refine wl_y (y_not rfl) rfl ?_
            refine wl_nil ?_
            refine wq_then_norm (hK19 ?_)
            refine wc_cond rfl (fun hc5 => ?_) (fun hc5 => ?_)
            · skip
              refine wc_seq ?_; intro K20 hK20
              have hno : ¬ okLeaf (leafL s) := by simpa using hc5
              have e6 : leafX s = ((Leaf.zero, 3), (leafQ s).2) := by unfold leafX; rw [if_neg (by omega), if_neg (by omega), if_neg (by omega), if_neg hno]
              refine wc_region ?_
              refine wl_y (y_build rfl (cells := zLeafV) (by kernel_rfl)) rfl ?_
              refine wl_ef (ef_storeP (o := 0) rfl rfl (by kernel_rfl) B2 (Nat.le_of_ble_eq_true rfl) (all_ones rfl)) rfl ?_
              rintro _ wS14_1 ⟨rfl, D, cg⟩
              have ex := Chs.one cg
              clear cg
              replace F := F.chs ex
              replace J1 := J1.chs ex
              replace J2 := J2.chs ex
              replace J3 := J3.chs ex
              replace B4 := B4.chs ex
              replace J5 := J5.chs ex
              replace H6 := H6.chs ex
              replace J6 := J6.chs ex
              replace B2 := D; clear D
              replace B2 := B2.congr (cs' := zLeafV) rfl
              refine wl_y (y_assign rfl) rfl ?_
              refine wl_nil ?_
              refine wq_then_norm (hK20 ?_)
              refine wc_ret ?_
              refine wq_then_ret ?_
              refine hret rfl rfl B2 rfl ?_
              rw [e6]; exact ⟨zLeafV, rfl, LeafF.zero _ _, H6.mono (fun k hk => by simp [hk]) hgS, (F.drop (by omega)).drop (by omega)⟩
            · skip
              refine wc_skip ?_
              refine wq_then_norm (hK18 ?_)
              refine wc_seq ?_; intro K21 hK21
              have hyes : okLeaf (leafL s) := by simpa using hc5
              have e6 : leafX s = ((leafL s, 0), (leafQ s).2) := by unfold leafX; rw [if_neg (by omega), if_neg (by omega), if_neg (by omega), if_pos hyes]
              refine wc_region ?_
              refine wl_y (y_loadw rfl Tryz.underlying25 rfl (by kernel_rfl) B4) rfl ?_
              refine wl_ef (ef_storeP (o := 0) rfl rfl (by kernel_rfl) B2 (Nat.le_of_ble_eq_true rfl) (all_ones rfl)) rfl ?_
              rintro _ wS15_1 ⟨rfl, D, cg⟩
              have ex := Chs.one cg
              clear cg
              replace F := F.chs ex
              replace J1 := J1.chs ex
              replace J2 := J2.chs ex
              replace J3 := J3.chs ex
              replace B4 := B4.chs ex
              replace J5 := J5.chs ex
              replace H6 := H6.chs ex
              replace J6 := J6.chs ex
              replace B2 := D; clear D
              replace B2 := B2.congr (cs' := leafV ⟨A1, n1, c1⟩ ⟨A2, n2, c2⟩ ⟨A3, n3, c3⟩ (src s) ⟨A5, n5, c5⟩ ⟨A6, n6, c6⟩) rfl
              refine wl_y (y_assign rfl) rfl ?_
              refine wl_nil ?_
              refine wq_then_norm (hK21 ?_)
              refine wc_ret ?_
              refine hret rfl rfl B2 rfl ?_
              rw [e6]; exact ⟨_, rfl, HL _ ((Chs.of ex9 _).tr ex), H6.mono (fun k hk => by simp [hk]) hgS, (F.drop (by omega)).drop (by omega)⟩
        · skip
          have e3 : leafP s = ([], lf4 s) := by unfold leafP; rw [if_neg (by omega)]
          have q13 := F.size; have q14 := B4.lt; have q15 := B2.lt
          have J5 : Kp _ [gB4, gB2, g] (fun w => Fb w5.heap.size w nilH.A nilH.n []) w5 := (Fb.nil _ _ _).kk (by simp; omega)
          refine wc_skip ?_
          refine wq_then_norm (hK11 ?_)
          refine wc_seq ?_; intro K22 hK22
          have q10 := F.size; have q11 := B4.lt; have q12 := B2.lt
          refine wc_region ?_
          refine wl_y (y_move rfl) rfl ?_
          refine wl_call Tryz.func114 rfl rfl rfl (rVec_any _ H4) rfl ?_
          rintro e w7 ⟨A6, n6, c6, rfl, hc6, V6, H6, ex⟩
          refine ⟨_, rfl, ?_⟩
          replace J5 := J5.chs ex
          replace F := F.chs ex
          replace B2 := B2.chs ex
          replace J1 := J1.chs ex
          replace J2 := J2.chs ex
          replace J3 := J3.chs ex
          replace B4 := B4.chs ex
          have J6 := V6.kk (S := [gB4, gB2, g]) (by simp; omega)
          refine wl_y (y_fieldAddr (o := 5) (s := 1) (off := 0) (o' := 5) rfl Tryz.underlying25 rfl (by kernel_rfl) rfl rfl) rfl ?_
          refine wl_ef (ef_storeB (i := 5) rfl rfl rfl (by kernel_rfl) B4 (Nat.le_of_ble_eq_true rfl)) rfl ?_
          rintro _ wS9_3 ⟨rfl, D, cg⟩
          have ex := Chs.one cg
          clear cg
          replace F := F.chs ex
          replace B2 := B2.chs ex
          replace J1 := J1.chs ex
          replace J2 := J2.chs ex
          replace J3 := J3.chs ex
          replace H6 := H6.chs ex
          replace J5 := J5.chs ex
          replace J6 := J6.chs ex
          replace B4 := D; clear D
          replace B4 := B4.congr (cs' := leafV ⟨A1, n1, c1⟩ ⟨A2, n2, c2⟩ ⟨A3, n3, c3⟩ (src s) nilH ⟨A6, n6, c6⟩) rfl
          refine wl_nil ?_
          refine wq_then_norm (hK22 ?_)
          refine wc_seq ?_; intro K23 hK23
          refine wc_seq ?_; intro K24 hK24
          refine wc_region ?_
          refine wl_y (y_move rfl) rfl ?_
          have e4 : leafQ s = vecX (lf4 s) := by unfold leafQ; rw [e3]
          replace H6 : Rs N _ _ g (vecX (lf4 s)).2 := H6
          rw [← e4] at H6
          refine wl_call Tryz.func115 rfl rfl rfl (rErr_any _ H6) rfl ?_
          rintro e w8 ⟨rfl, ex⟩
          refine ⟨_, rfl, ?_⟩
          replace F := F.ext ex
          replace B2 := B2.ext ex
          replace J1 := J1.ext ex
          replace J2 := J2.ext ex
          replace J3 := J3.ext ex
          replace B4 := B4.ext ex
          replace H6 := H6.ext ex
          replace J5 := J5.ext ex
          replace J6 := J6.ext ex
          skip
          refine wl_y (y_assign rfl) rfl ?_
          refine wl_nil ?_
          refine wq_then_norm (hK24 ?_)
          refine wc_seq ?_; intro K25 hK25
          refine wc_region ?_
          refine wl_y (y_move rfl) rfl ?_
          refine wl_y (y_neq rfl rfl) rfl ?_
          refine wl_nil ?_
          refine wq_then_norm (hK25 ?_)
          refine wc_dec rfl (fun hc4 => ?_) (fun hc4 => ?_)
          · skip
            have e5 : leafX s = ((Leaf.zero, ecode (leafQ s).2), (leafQ s).2) := by unfold leafX; rw [if_neg (by omega), if_neg (by omega), if_pos (by omega)]
            refine wc_seq ?_; intro K26 hK26
            refine wc_region ?_
            refine wl_y (y_build rfl (cells := zLeafV) (by kernel_rfl)) rfl ?_
            refine wl_y (y_move rfl) rfl ?_
            refine wl_ef (ef_storeP (o := 0) rfl rfl (by kernel_rfl) B2 (Nat.le_of_ble_eq_true rfl) (all_ones rfl)) rfl ?_
            rintro _ wS12_2 ⟨rfl, D, cg⟩
            have ex := Chs.one cg
            clear cg
            replace F := F.chs ex
            replace J1 := J1.chs ex
            replace J2 := J2.chs ex
            replace J3 := J3.chs ex
            replace B4 := B4.chs ex
            replace H6 := H6.chs ex
            replace J5 := J5.chs ex
            replace J6 := J6.chs ex
            replace B2 := D; clear D
            replace B2 := B2.congr (cs' := zLeafV) rfl
            refine wl_y (y_assign rfl) rfl ?_
            refine wl_nil ?_
            refine wq_then_norm (hK26 ?_)
            refine wc_ret ?_
            refine wq_then_ret ?_
            refine hret rfl rfl B2 rfl ?_
            rw [e5]; exact ⟨zLeafV, rfl, LeafF.zero _ _, H6.mono (fun k hk => by simp [hk]) hgS, (F.drop (by omega)).drop (by omega)⟩
          · skip
            have e5 : ecode (leafQ s).2 = 0 := by omega
            refine wc_skip ?_
            refine wq_then_norm (hK23 ?_)
            refine wc_seq ?_; intro K27 hK27
            refine wc_seq ?_; intro K28 hK28
            have HL : ∀ wx, Chs [gB2] w8 wx → LeafF w.heap.size wx (leafV ⟨A1, n1, c1⟩ ⟨A2, n2, c2⟩ ⟨A3, n3, c3⟩ (src s) nilH ⟨A6, n6, c6⟩) (leafL s) := fun wx cx => ⟨_, _, _, _, _, rfl, hsrc, (J1.chs cx).out.mono (by omega), (J2.chs cx).out.mono (by omega), (J3.chs cx).out.mono (by omega), by show Fb _ _ _ _ (leafP s).1; rw [e3]; exact (J5.chs cx).out.mono (by omega), by show Fb _ _ _ _ (leafQ s).1; rw [e4]; exact (J6.chs cx).out.mono (by omega)⟩
            refine wc_region ?_
            refine wl_y (y_loadw rfl Tryz.underlying25 rfl (by kernel_rfl) B4) rfl ?_
            refine wl_call Tryz.func136 rfl rfl rfl (rightLeaf_any _ (HL _ (Chs.refl _ _)).at) rfl ?_
            rintro e w9 ⟨rfl, ex9⟩
            have ex := ex9
            refine ⟨_, rfl, ?_⟩
            replace F := F.ext ex
            replace B2 := B2.ext ex
            replace J1 := J1.ext ex
            replace J2 := J2.ext ex
            replace J3 := J3.ext ex
            replace B4 := B4.ext ex
            replace H6 := H6.ext ex
            replace J5 := J5.ext ex
            replace J6 := J6.ext ex
            skip
            refine wl_y (y_not rfl) rfl ?_
            refine wl_nil ?_
            refine wq_then_norm (hK28 ?_)
            refine wc_cond rfl (fun hc5 => ?_) (fun hc5 => ?_)
            · skip
              refine wc_seq ?_; intro K29 hK29
              have hno : ¬ okLeaf (leafL s) := by simpa using hc5
              have e6 : leafX s = ((Leaf.zero, 3), (leafQ s).2) := by unfold leafX; rw [if_neg (by omega), if_neg (by omega), if_neg (by omega), if_neg hno]
              refine wc_region ?_
              refine wl_y (y_build rfl (cells := zLeafV) (by kernel_rfl)) rfl ?_
              refine wl_ef (ef_storeP (o := 0) rfl rfl (by kernel_rfl) B2 (Nat.le_of_ble_eq_true rfl) (all_ones rfl)) rfl ?_
              rintro _ wS14_1 ⟨rfl, D, cg⟩
              have ex := Chs.one cg
              clear cg
              replace F := F.chs ex
              replace J1 := J1.chs ex
              replace J2 := J2.chs ex
              replace J3 := J3.chs ex
              replace B4 := B4.chs ex
              replace H6 := H6.chs ex
              replace J5 := J5.chs ex
              replace J6 := J6.chs ex
              replace B2 := D; clear D
              replace B2 := B2.congr (cs' := zLeafV) rfl
              refine wl_y (y_assign rfl) rfl ?_
              refine wl_nil ?_
              refine wq_then_norm (hK29 ?_)
              refine wc_ret ?_
              refine wq_then_ret ?_
              refine hret rfl rfl B2 rfl ?_
              rw [e6]; exact ⟨zLeafV, rfl, LeafF.zero _ _, H6.mono (fun k hk => by simp [hk]) hgS, (F.drop (by omega)).drop (by omega)⟩
            · skip
              refine wc_skip ?_
              refine wq_then_norm (hK27 ?_)
              refine wc_seq ?_; intro K30 hK30
              have hyes : okLeaf (leafL s) := by simpa using hc5
              have e6 : leafX s = ((leafL s, 0), (leafQ s).2) := by unfold leafX; rw [if_neg (by omega), if_neg (by omega), if_neg (by omega), if_pos hyes]
              refine wc_region ?_
              refine wl_y (y_loadw rfl Tryz.underlying25 rfl (by kernel_rfl) B4) rfl ?_
              refine wl_ef (ef_storeP (o := 0) rfl rfl (by kernel_rfl) B2 (Nat.le_of_ble_eq_true rfl) (all_ones rfl)) rfl ?_
              rintro _ wS15_1 ⟨rfl, D, cg⟩
              have ex := Chs.one cg
              clear cg
              replace F := F.chs ex
              replace J1 := J1.chs ex
              replace J2 := J2.chs ex
              replace J3 := J3.chs ex
              replace B4 := B4.chs ex
              replace H6 := H6.chs ex
              replace J5 := J5.chs ex
              replace J6 := J6.chs ex
              replace B2 := D; clear D
              replace B2 := B2.congr (cs' := leafV ⟨A1, n1, c1⟩ ⟨A2, n2, c2⟩ ⟨A3, n3, c3⟩ (src s) nilH ⟨A6, n6, c6⟩) rfl
              refine wl_y (y_assign rfl) rfl ?_
              refine wl_nil ?_
              refine wq_then_norm (hK30 ?_)
              refine wc_ret ?_
              refine hret rfl rfl B2 rfl ?_
              rw [e6]; exact ⟨_, rfl, HL _ ((Chs.of ex9 _).tr ex), H6.mono (fun k hk => by simp [hk]) hgS, (F.drop (by omega)).drop (by omega)⟩
theorem hd_eq {h i : Hd} (e : Value.slice h.A h.n h.c = .slice i.A i.n i.c) : h = i := by
  obtain ⟨a, b, c⟩ := h
  obtain ⟨a', b', c'⟩ := i
  simp only [Value.slice.injEq] at e
  obtain ⟨e1, e2, e3⟩ := e
  subst e1; subst e2; subst e3; rfl
theorem leafV_inj {h0 h1 h2 h4 h5 i0 i1 i2 i4 i5 : Hd} {s t : Nat} (e : leafV h0 h1 h2 s h4 h5 = leafV i0 i1 i2 t i4 i5) : h0 = i0 ∧ h1 = i1 ∧ h2 = i2 ∧ h4 = i4 ∧ h5 = i5 := by
  have e' := congrArg Array.toList e
  simp only [leafV, List.cons.injEq, and_true] at e'
  obtain ⟨a0, a1, a2, _, a4, a5⟩ := e'
  exact ⟨hd_eq a0, hd_eq a1, hd_eq a2, hd_eq a4, hd_eq a5⟩
theorem vecX_lt (s : St) : (vecX s).1.length < 1073741824 := by
  cases h : (lenX s).1.2 with
  | false => rw [vecX_len s h]; simp
  | true =>
    obtain ⟨n, r, _, hn, e⟩ := vecX_yes h
    rw [e]
    split
    · simp
    · simp; omega
end Go.Proofs.YtpgalbgonmclaaaGreat
