/- Leaves, parents and nodes that are taken of bytes: what node hands back. -/
import Derived.Test.YtopimmomkapdoaaGreatNdB
namespace Go.Proofs.YtopimmomkapdoaaGreat
open Go.RowKit
attribute [local irreducible] Y Ef WL WC WK WQ WM OpM WN WF OpN WJ OpJ
open Wire
namespace Nd
def lf1 (s : St) : St := (vecX s).2
def lf2 (s : St) : St := (vecX (lf1 s)).2
def lf3 (s : St) : St := (vecX (lf2 s)).2
def lf4 (s : St) : St := (numX 1 (lf3 s)).2
def src (s : St) : Nat := (numX 1 (lf3 s)).1
def leafP (s : St) : List UInt8 × St := if src s = 3 then vecX (lf4 s) else ([], lf4 s)
def leafQ (s : St) : List UInt8 × St := vecX (leafP s).2
def leafL (s : St) : Leaf := ⟨(vecX s).1, (vecX (lf1 s)).1, (vecX (lf2 s)).1, src s, (leafP s).1, (leafQ s).1⟩
/-- A leaf that stands next, or an error. -/
def leafX (s : St) : (Leaf × Nat) × St :=
  if ecode (lf4 s) ≠ 0 then ((Leaf.zero, ecode (lf4 s)), lf4 s)
  else if src s < 1 ∨ 3 < src s then ((Leaf.zero, 3), lf4 s)
  else if ecode (leafQ s).2 ≠ 0 then ((Leaf.zero, ecode (leafQ s).2), (leafQ s).2)
  else if okLeaf (leafL s) then ((leafL s, 0), (leafQ s).2) else ((Leaf.zero, 3), (leafQ s).2)
/-- Numbers of four bytes. -/
def fours : List UInt8 → List Int
  | a :: b :: c :: d :: r => (nb [a, b, c, d] : Int) :: fours r
  | _ => []
def parX (s : St) : (Par × Nat) × St :=
  if ecode (lf3 s) ≠ 0 then ((Par.zero, ecode (lf3 s)), lf3 s)
  else
    if (vecX (lf2 s)).1.length % 4 ≠ 0 ∨ ¬ okPar ⟨(vecX s).1, (vecX (lf1 s)).1, fours (vecX (lf2 s)).1⟩ then ((Par.zero, 3), lf3 s)
    else ((⟨(vecX s).1, (vecX (lf1 s)).1, fours (vecX (lf2 s)).1⟩, 0), lf3 s)
def nodeX (s : St) : (Node × Nat) × St :=
  if ecode (numX 1 s).2 ≠ 0 then ((Node.zero, ecode (numX 1 s).2), (numX 1 s).2)
  else if (numX 1 s).1 = 0 then ((Node.zero, 0), (numX 1 s).2)
  else if (numX 1 s).1 = 1 then
    (if (leafX (numX 1 s).2).1.2 ≠ 0 then ((Node.zero, (leafX (numX 1 s).2).1.2), (leafX (numX 1 s).2).2) else ((⟨1, (leafX (numX 1 s).2).1.1, Par.zero⟩, 0), (leafX (numX 1 s).2).2))
  else if (numX 1 s).1 = 2 then
    (if (parX (numX 1 s).2).1.2 ≠ 0 then ((Node.zero, (parX (numX 1 s).2).1.2), (parX (numX 1 s).2).2) else ((⟨2, Leaf.zero, (parX (numX 1 s).2).1.1⟩, 0), (parX (numX 1 s).2).2))
  else ((Node.zero, 3), (numX 1 s).2)
end Nd
open Nd
theorem takeLeaf_any {N : Nat} {S : List Nat} {g : Nat} {s : St} (w : World) (H0 : Rs N S w g s) :
    Calls Tryz.prog 73 #[.pointer (some ⟨g, 0, none⟩)] w fun e w' => ∃ cs, e = .returned (.tuple #[.agg cs, .int .u8 (((leafX s).1.2 : Nat) : Int)]) ∧ LeafF w.heap.size w' cs (leafX s).1.1 ∧ Rs N S w' g (leafX s).2 ∧ Chs [g] w w' := by
  have hgl := H0.lt
  have hgS := H0.mem
  have F := Chs.refl [g] w
  have H := H0
  have hsrc : src s < 256 := numX_lt 1 _
  refine vc_enterct (s := 6) 52 Tryz.func73 rfl rfl rfl Tryz.underlying24 rfl (by kernel_rfl) rfl ?_
  intro Q hret
  refine wc_seq ?_; intro K1 hK1
  refine wc_region ?_
  refine wl_ef (ef_alloc (Z := #[.slice none 0 0, .slice none 0 0, .slice none 0 0, .int .u8 0, .slice none 0 0, .slice none 0 0]) (by kernel_rfl)) rfl ?_
  rintro _ wB2 ⟨gB2, rfl, B2, hgB2, ex⟩
  have lB2 := B2.lt; have zB2 := ex.size
  replace F := F.grow ex hgB2
  replace H := H.grow ex hgB2
  refine wl_y (y_assign rfl) rfl ?_
  refine wl_nil ?_
  refine wq_then_norm (hK1 ?_)
  refine wc_seq ?_; intro K2 hK2
  refine wc_region ?_
  refine wl_y (y_move rfl) rfl ?_
  refine wl_call Tryz.func103 rfl rfl rfl (rVec_any _ H) rfl ?_
  rintro e w1 ⟨A1, n1, c1, rfl, hc1, V1, H1, ex⟩
  refine ⟨_, rfl, ?_⟩
  replace F := F.chs ex
  replace B2 := B2.chs ex
  have J1 := V1.kk (S := [gB2, g]) (by simp; omega)
  refine wl_y (y_move rfl) rfl ?_
  have q2 := B2.lt; have q3 := F.size
  refine wl_call Tryz.func103 rfl rfl rfl (rVec_any _ H1) rfl ?_
  rintro e w2 ⟨A2, n2, c2, rfl, hc2, V2, H2, ex⟩
  refine ⟨_, rfl, ?_⟩
  replace F := F.chs ex
  replace B2 := B2.chs ex
  replace J1 := J1.chs ex
  have J2 := V2.kk (S := [gB2, g]) (by simp; omega)
  refine wl_y (y_move rfl) rfl ?_
  have q4 := B2.lt; have q5 := F.size
  refine wl_call Tryz.func103 rfl rfl rfl (rVec_any _ H2) rfl ?_
  rintro e w3 ⟨A3, n3, c3, rfl, hc3, V3, H3, ex⟩
  refine ⟨_, rfl, ?_⟩
  replace F := F.chs ex
  replace B2 := B2.chs ex
  replace J1 := J1.chs ex
  replace J2 := J2.chs ex
  have J3 := V3.kk (S := [gB2, g]) (by simp; omega)
  refine wl_y (y_move rfl) rfl ?_
  have q6 := F.size
  refine wl_call Tryz.func71 rfl rfl rfl (rnum_any 1 1 rfl _ (by omega) H3) rfl ?_
  rintro e w4 ⟨rfl, H4, ex⟩
  refine ⟨_, rfl, ?_⟩
  replace F := F.chs ex
  replace B2 := B2.chs ex
  replace J1 := J1.chs ex
  replace J2 := J2.chs ex
  replace J3 := J3.chs ex
  refine wl_y (y_conv rfl Tryz.underlying58 Tryz.underlying5 (show IntKind.u8.wrap ((src s : Nat) : Int) = ((src s : Nat) : Int) from IntWalk.u8_in _ ⟨by omega, by omega⟩)) rfl ?_
  refine wl_y (y_build rfl (cells := leafV ⟨A1, n1, c1⟩ ⟨A2, n2, c2⟩ ⟨A3, n3, c3⟩ (src s) nilH nilH) (by kernel_rfl)) rfl ?_
  refine wl_ef (ef_alloc (Z := #[.slice none 0 0, .slice none 0 0, .slice none 0 0, .int .u8 0, .slice none 0 0, .slice none 0 0]) (by kernel_rfl)) rfl ?_
  rintro _ wB4 ⟨gB4, rfl, B4, hgB4, ex⟩
  have lB4 := B4.lt; have zB4 := ex.size
  have nB2_4 : gB2 < gB4 := Nat.lt_of_lt_of_le B2.lt hgB4
  replace F := F.grow ex hgB4
  replace B2 := B2.grow ex hgB4
  replace J1 := J1.grow ex hgB4
  replace J2 := J2.grow ex hgB4
  replace J3 := J3.grow ex hgB4
  replace H4 := H4.grow ex hgB4
  refine wl_ef (ef_storeP (o := 0) rfl rfl (by kernel_rfl) B4 (Nat.le_of_ble_eq_true rfl) (all_ones rfl)) rfl ?_
  rintro _ wS1_11 ⟨rfl, D, cg⟩
  have ex := Chs.one cg
  clear cg
  replace F := F.chs ex
  replace B2 := B2.chs ex
  replace J1 := J1.chs ex
  replace J2 := J2.chs ex
  replace J3 := J3.chs ex
  replace H4 := H4.chs ex
  replace B4 := D; clear D
  replace B4 := B4.congr (cs' := leafV ⟨A1, n1, c1⟩ ⟨A2, n2, c2⟩ ⟨A3, n3, c3⟩ (src s) nilH nilH) rfl
  have q7 := F.size; have q8 := B4.lt; have q9 := B2.lt
  refine wl_nil ?_
  refine wq_then_norm (hK2 ?_)
  refine wc_seq ?_; intro K3 hK3
  refine wc_seq ?_; intro K4 hK4
  refine wc_region ?_
  refine wl_y (y_move rfl) rfl ?_
  refine wl_call Tryz.func72 rfl rfl rfl (rErr_any _ H4) rfl ?_
  rintro e w5 ⟨rfl, ex⟩
  refine ⟨_, rfl, ?_⟩
  replace F := F.ext ex
  replace B2 := B2.ext ex
  replace J1 := J1.ext ex
  replace J2 := J2.ext ex
  replace J3 := J3.ext ex
  replace H4 := H4.ext ex
  replace B4 := B4.ext ex
  skip
  refine wl_y (y_assign rfl) rfl ?_
  refine wl_nil ?_
  refine wq_then_norm (hK4 ?_)
  refine wc_seq ?_; intro K5 hK5
  refine wc_region ?_
  refine wl_y (y_move rfl) rfl ?_
  refine wl_y (y_neq rfl rfl) rfl ?_
  refine wl_nil ?_
  refine wq_then_norm (hK5 ?_)
  refine wc_dec rfl (fun hc1 => ?_) (fun hc1 => ?_)
  · skip
    have e1 : leafX s = ((Leaf.zero, ecode (lf4 s)), lf4 s) := by unfold leafX; rw [if_pos (fun h => hc1 (by rw [show ecode (numX 1 (vecX (vecX (vecX s).2).2).2).2 = 0 from h]; rfl))]
    refine wc_seq ?_; intro K6 hK6
    refine wc_region ?_
    refine wl_y (y_build rfl (cells := zLeafV) (by kernel_rfl)) rfl ?_
    refine wl_y (y_move rfl) rfl ?_
    refine wl_ef (ef_storeP (o := 0) rfl rfl (by kernel_rfl) B2 (Nat.le_of_ble_eq_true rfl) (all_ones rfl)) rfl ?_
    rintro _ wS4_2 ⟨rfl, D, cg⟩
    have ex := Chs.one cg
    clear cg
    replace F := F.chs ex
    replace J1 := J1.chs ex
    replace J2 := J2.chs ex
    replace J3 := J3.chs ex
    replace H4 := H4.chs ex
    replace B4 := B4.chs ex
    replace B2 := D; clear D
    replace B2 := B2.congr (cs' := zLeafV) rfl
    refine wl_y (y_assign rfl) rfl ?_
    refine wl_nil ?_
    refine wq_then_norm (hK6 ?_)
    refine wc_ret ?_
    refine wq_then_ret ?_
    refine hret rfl rfl B2 rfl ?_
    rw [e1]; exact ⟨zLeafV, rfl, LeafF.zero _ _, H4.mono (fun k hk => by simp [hk]) hgS, (F.drop (by omega)).drop (by omega)⟩
  · skip
    have e1 : ecode (lf4 s) = 0 := by have : ¬ ((ecode (lf4 s) : Nat) : Int) ≠ 0 := hc1; omega
    refine wc_skip ?_
    refine wq_then_norm (hK3 ?_)
    refine wc_seq ?_; intro K7 hK7
    refine wc_seq ?_; intro K8 hK8
    refine wc_region ?_
    refine wl_y (y_fieldAddr (o := 3) (s := 1) (off := 0) (o' := 3) rfl Tryz.underlying24 rfl (by kernel_rfl) rfl rfl) rfl ?_
    refine wl_y (y_load1 rfl Tryz.underlying5 rfl (B4.get (i := 3) rfl)) rfl ?_
    refine wl_yask (y_lss rfl rfl) rfl (fun u1 => ?_) (fun u1 => ?_)
    · skip
      refine wl_y (y_move rfl) rfl ?_
      refine wl_gno 26 rfl rfl rfl rfl ?_
      refine wl_gno 26 rfl rfl rfl rfl ?_
      refine wl_gno 26 rfl rfl rfl rfl ?_
      refine wl_y (y_pickt rfl rfl) rfl ?_
      refine wl_nil ?_
      refine wq_then_norm (hK8 ?_)
      refine wc_true rfl rfl ?_
      refine wc_seq ?_; intro K9 hK9
      have e2 : leafX s = ((Leaf.zero, 3), lf4 s) := by unfold leafX; rw [if_neg (by omega), if_pos (by omega)]
      refine wc_region ?_
      refine wl_y (y_build rfl (cells := zLeafV) (by kernel_rfl)) rfl ?_
      refine wl_ef (ef_storeP (o := 0) rfl rfl (by kernel_rfl) B2 (Nat.le_of_ble_eq_true rfl) (all_ones rfl)) rfl ?_
      rintro _ wS6_1 ⟨rfl, D, cg⟩
      have ex := Chs.one cg
      clear cg
      replace F := F.chs ex
      replace J1 := J1.chs ex
      replace J2 := J2.chs ex
      replace J3 := J3.chs ex
      replace H4 := H4.chs ex
      replace B4 := B4.chs ex
      replace B2 := D; clear D
      replace B2 := B2.congr (cs' := zLeafV) rfl
      refine wl_y (y_assign rfl) rfl ?_
      refine wl_nil ?_
      refine wq_then_norm (hK9 ?_)
      refine wc_ret ?_
      refine wq_then_ret ?_
      refine hret rfl rfl B2 rfl ?_
      rw [e2]; exact ⟨zLeafV, rfl, LeafF.zero _ _, H4.mono (fun k hk => by simp [hk]) hgS, (F.drop (by omega)).drop (by omega)⟩
    · skip
      refine wl_y (y_move rfl) rfl ?_
      refine wl_gy 26 rfl rfl (y_fieldAddr (o := 3) (s := 1) (off := 0) (o' := 3) rfl Tryz.underlying24 rfl (by kernel_rfl) rfl rfl) rfl ?_
      refine wl_gy 26 rfl rfl (y_load1 rfl Tryz.underlying5 rfl (B4.get (i := 3) rfl)) rfl ?_
      refine wl_gyask 26 rfl rfl (y_gtr rfl rfl) rfl (fun u2 => ?_) (fun u2 => ?_)
      · skip
        refine wl_y (y_pickf rfl rfl) rfl ?_
        refine wl_nil ?_
        refine wq_then_norm (hK8 ?_)
        refine wc_true rfl rfl ?_
        refine wc_seq ?_; intro K10 hK10
        have e2 : leafX s = ((Leaf.zero, 3), lf4 s) := by unfold leafX; rw [if_neg (by omega), if_pos (by omega)]
        refine wc_region ?_
        refine wl_y (y_build rfl (cells := zLeafV) (by kernel_rfl)) rfl ?_
        refine wl_ef (ef_storeP (o := 0) rfl rfl (by kernel_rfl) B2 (Nat.le_of_ble_eq_true rfl) (all_ones rfl)) rfl ?_
        rintro _ wS6_1 ⟨rfl, D, cg⟩
        have ex := Chs.one cg
        clear cg
        replace F := F.chs ex
        replace J1 := J1.chs ex
        replace J2 := J2.chs ex
        replace J3 := J3.chs ex
        replace H4 := H4.chs ex
        replace B4 := B4.chs ex
        replace B2 := D; clear D
        replace B2 := B2.congr (cs' := zLeafV) rfl
        refine wl_y (y_assign rfl) rfl ?_
        refine wl_nil ?_
        refine wq_then_norm (hK10 ?_)
        refine wc_ret ?_
        refine wq_then_ret ?_
        refine hret rfl rfl B2 rfl ?_
        rw [e2]; exact ⟨zLeafV, rfl, LeafF.zero _ _, H4.mono (fun k hk => by simp [hk]) hgS, (F.drop (by omega)).drop (by omega)⟩
      · skip
        refine wl_y (y_pickf rfl rfl) rfl ?_
        refine wl_nil ?_
        refine wq_then_norm (hK8 ?_)
        refine wc_false rfl rfl ?_
        refine wc_skip ?_
        refine wq_then_norm (hK7 ?_)
        refine wc_seq ?_; intro K11 hK11
        refine wc_seq ?_; intro K12 hK12
        refine wc_region ?_
        refine wl_y (y_fieldAddr (o := 3) (s := 1) (off := 0) (o' := 3) rfl Tryz.underlying24 rfl (by kernel_rfl) rfl rfl) rfl ?_
        refine wl_y (y_load1 rfl Tryz.underlying5 rfl (B4.get (i := 3) rfl)) rfl ?_
        refine wl_y (y_eql rfl rfl) rfl ?_
        refine wl_nil ?_
        refine wq_then_norm (hK12 ?_)
        refine wc_dec rfl (fun hc3 => ?_) (fun hc3 => ?_)
        · skip
          have e3 : leafP s = vecX (lf4 s) := by unfold leafP; rw [if_pos (by omega)]
          refine wc_region ?_
          refine wl_y (y_move rfl) rfl ?_
          have q13 := F.size; have q14 := B4.lt; have q15 := B2.lt
          refine wl_call Tryz.func103 rfl rfl rfl (rVec_any _ H4) rfl ?_
          rintro e w6 ⟨A5, n5, c5, rfl, hc5, V5, H5, ex⟩
          refine ⟨_, rfl, ?_⟩
          replace F := F.chs ex
          replace B2 := B2.chs ex
          replace J1 := J1.chs ex
          replace J2 := J2.chs ex
          replace J3 := J3.chs ex
          replace B4 := B4.chs ex
          have J5 := V5.kk (S := [gB4, gB2, g]) (by simp; omega)
          refine wl_y (y_fieldAddr (o := 4) (s := 1) (off := 0) (o' := 4) rfl Tryz.underlying24 rfl (by kernel_rfl) rfl rfl) rfl ?_
          refine wl_ef (ef_storeB (i := 4) rfl rfl rfl (by kernel_rfl) B4 (Nat.le_of_ble_eq_true rfl)) rfl ?_
          rintro _ wS8_3 ⟨rfl, D, cg⟩
          have ex := Chs.one cg
          clear cg
          replace F := F.chs ex
          replace B2 := B2.chs ex
          replace J1 := J1.chs ex
          replace J2 := J2.chs ex
          replace J3 := J3.chs ex
          replace H5 := H5.chs ex
          replace J5 := J5.chs ex
          replace B4 := D; clear D
          replace B4 := B4.congr (cs' := leafV ⟨A1, n1, c1⟩ ⟨A2, n2, c2⟩ ⟨A3, n3, c3⟩ (src s) ⟨A5, n5, c5⟩ nilH) rfl
          refine wl_nil ?_
          refine wq_then_norm (hK11 ?_)
          refine wc_seq ?_; intro K13 hK13
          have q10 := F.size; have q11 := B4.lt; have q12 := B2.lt
          refine wc_region ?_
          refine wl_y (y_move rfl) rfl ?_
          refine wl_call Tryz.func103 rfl rfl rfl (rVec_any _ H5) rfl ?_
          rintro e w7 ⟨A6, n6, c6, rfl, hc6, V6, H6, ex⟩
          refine ⟨_, rfl, ?_⟩
          replace F := F.chs ex
          replace B2 := B2.chs ex
          replace J1 := J1.chs ex
          replace J2 := J2.chs ex
          replace J3 := J3.chs ex
          replace B4 := B4.chs ex
          replace J5 := J5.chs ex
          have J6 := V6.kk (S := [gB4, gB2, g]) (by simp; omega)
          refine wl_y (y_fieldAddr (o := 5) (s := 1) (off := 0) (o' := 5) rfl Tryz.underlying24 rfl (by kernel_rfl) rfl rfl) rfl ?_
          refine wl_ef (ef_storeB (i := 5) rfl rfl rfl (by kernel_rfl) B4 (Nat.le_of_ble_eq_true rfl)) rfl ?_
          rintro _ wS9_3 ⟨rfl, D, cg⟩
          have ex := Chs.one cg
          clear cg
          replace F := F.chs ex
          replace B2 := B2.chs ex
          replace J1 := J1.chs ex
          replace J2 := J2.chs ex
          replace J3 := J3.chs ex
          replace J5 := J5.chs ex
          replace H6 := H6.chs ex
          replace J6 := J6.chs ex
          replace B4 := D; clear D
          replace B4 := B4.congr (cs' := leafV ⟨A1, n1, c1⟩ ⟨A2, n2, c2⟩ ⟨A3, n3, c3⟩ (src s) ⟨A5, n5, c5⟩ ⟨A6, n6, c6⟩) rfl
          refine wl_nil ?_
          refine wq_then_norm (hK13 ?_)
          refine wc_seq ?_; intro K14 hK14
          refine wc_seq ?_; intro K15 hK15
          refine wc_region ?_
          refine wl_y (y_move rfl) rfl ?_
          have e4 : leafQ s = vecX ((vecX (lf4 s)).2) := by unfold leafQ; rw [e3]
          replace H6 : Rs N _ _ g (vecX ((vecX (lf4 s)).2)).2 := H6
          rw [← e4] at H6
          refine wl_call Tryz.func72 rfl rfl rfl (rErr_any _ H6) rfl ?_
          rintro e w8 ⟨rfl, ex⟩
          refine ⟨_, rfl, ?_⟩
          replace F := F.ext ex
          replace B2 := B2.ext ex
          replace J1 := J1.ext ex
          replace J2 := J2.ext ex
          replace J3 := J3.ext ex
          replace B4 := B4.ext ex
          replace J5 := J5.ext ex
          replace H6 := H6.ext ex
          replace J6 := J6.ext ex
          skip
          refine wl_y (y_assign rfl) rfl ?_
          refine wl_nil ?_
          refine wq_then_norm (hK15 ?_)
          refine wc_seq ?_; intro K16 hK16
          refine wc_region ?_
          refine wl_y (y_move rfl) rfl ?_
          refine wl_y (y_neq rfl rfl) rfl ?_
          refine wl_nil ?_
          refine wq_then_norm (hK16 ?_)
          refine wc_dec rfl (fun hc4 => ?_) (fun hc4 => ?_)
          · skip
            have e5 : leafX s = ((Leaf.zero, ecode (leafQ s).2), (leafQ s).2) := by unfold leafX; rw [if_neg (by omega), if_neg (by omega), if_pos (by omega)]
            refine wc_seq ?_; intro K17 hK17
            refine wc_region ?_
            refine wl_y (y_build rfl (cells := zLeafV) (by kernel_rfl)) rfl ?_
            refine wl_y (y_move rfl) rfl ?_
            refine wl_ef (ef_storeP (o := 0) rfl rfl (by kernel_rfl) B2 (Nat.le_of_ble_eq_true rfl) (all_ones rfl)) rfl ?_
            rintro _ wS12_2 ⟨rfl, D, cg⟩
            have ex := Chs.one cg
            clear cg
            replace F := F.chs ex
            replace J1 := J1.chs ex
            replace J2 := J2.chs ex
            replace J3 := J3.chs ex
            replace B4 := B4.chs ex
            replace J5 := J5.chs ex
            replace H6 := H6.chs ex
            replace J6 := J6.chs ex
            replace B2 := D; clear D
            replace B2 := B2.congr (cs' := zLeafV) rfl
            refine wl_y (y_assign rfl) rfl ?_
            refine wl_nil ?_
            refine wq_then_norm (hK17 ?_)
            refine wc_ret ?_
            refine wq_then_ret ?_
            refine hret rfl rfl B2 rfl ?_
            rw [e5]; exact ⟨zLeafV, rfl, LeafF.zero _ _, H6.mono (fun k hk => by simp [hk]) hgS, (F.drop (by omega)).drop (by omega)⟩
          · skip
            have e5 : ecode (leafQ s).2 = 0 := by omega
            refine wc_skip ?_
            refine wq_then_norm (hK14 ?_)
            refine wc_seq ?_; intro K18 hK18
            refine wc_seq ?_; intro K19 hK19
            have HL : ∀ wx, Chs [gB2] w8 wx → LeafF w.heap.size wx (leafV ⟨A1, n1, c1⟩ ⟨A2, n2, c2⟩ ⟨A3, n3, c3⟩ (src s) ⟨A5, n5, c5⟩ ⟨A6, n6, c6⟩) (leafL s) := fun wx cx => ⟨_, _, _, _, _, rfl, hsrc, (J1.chs cx).out.mono (by omega), (J2.chs cx).out.mono (by omega), (J3.chs cx).out.mono (by omega), by show Fb _ _ _ _ (leafP s).1; rw [e3]; exact (J5.chs cx).out.mono (by omega), by show Fb _ _ _ _ (leafQ s).1; rw [e4]; exact (J6.chs cx).out.mono (by omega)⟩
            refine wc_region ?_
            refine wl_y (y_loadw rfl Tryz.underlying24 rfl (by kernel_rfl) B4) rfl ?_
            refine wl_call Tryz.func20 rfl rfl rfl (rightLeaf_any _ (HL _ (Chs.refl _ _)).at) rfl ?_
            rintro e w9 ⟨rfl, ex9⟩
            have ex := ex9
            refine ⟨_, rfl, ?_⟩
            replace F := F.ext ex
            replace B2 := B2.ext ex
            replace J1 := J1.ext ex
            replace J2 := J2.ext ex
            replace J3 := J3.ext ex
            replace B4 := B4.ext ex
            replace J5 := J5.ext ex
            replace H6 := H6.ext ex
            replace J6 := J6.ext ex
            skip
            refine wl_y (y_not rfl) rfl ?_
            refine wl_nil ?_
            refine wq_then_norm (hK19 ?_)
            refine wc_cond rfl (fun hc5 => ?_) (fun hc5 => ?_)
            · skip
              refine wc_seq ?_; intro K20 hK20
              have hno : ¬ okLeaf (leafL s) := by simpa using hc5
              have e6 : leafX s = ((Leaf.zero, 3), (leafQ s).2) := by unfold leafX; rw [if_neg (by omega), if_neg (by omega), if_neg (by omega), if_neg hno]
              refine wc_region ?_
              refine wl_y (y_build rfl (cells := zLeafV) (by kernel_rfl)) rfl ?_
              refine wl_ef (ef_storeP (o := 0) rfl rfl (by kernel_rfl) B2 (Nat.le_of_ble_eq_true rfl) (all_ones rfl)) rfl ?_
              rintro _ wS14_1 ⟨rfl, D, cg⟩
              have ex := Chs.one cg
              clear cg
              replace F := F.chs ex
              replace J1 := J1.chs ex
              replace J2 := J2.chs ex
              replace J3 := J3.chs ex
              replace B4 := B4.chs ex
              replace J5 := J5.chs ex
              replace H6 := H6.chs ex
              replace J6 := J6.chs ex
              replace B2 := D; clear D
              replace B2 := B2.congr (cs' := zLeafV) rfl
              refine wl_y (y_assign rfl) rfl ?_
              refine wl_nil ?_
              refine wq_then_norm (hK20 ?_)
              refine wc_ret ?_
              refine wq_then_ret ?_
              refine hret rfl rfl B2 rfl ?_
              rw [e6]; exact ⟨zLeafV, rfl, LeafF.zero _ _, H6.mono (fun k hk => by simp [hk]) hgS, (F.drop (by omega)).drop (by omega)⟩
            · skip
              refine wc_skip ?_
              refine wq_then_norm (hK18 ?_)
              refine wc_seq ?_; intro K21 hK21
              have hyes : okLeaf (leafL s) := by simpa using hc5
              have e6 : leafX s = ((leafL s, 0), (leafQ s).2) := by unfold leafX; rw [if_neg (by omega), if_neg (by omega), if_neg (by omega), if_pos hyes]
              refine wc_region ?_
              refine wl_y (y_loadw rfl Tryz.underlying24 rfl (by kernel_rfl) B4) rfl ?_
              refine wl_ef (ef_storeP (o := 0) rfl rfl (by kernel_rfl) B2 (Nat.le_of_ble_eq_true rfl) (all_ones rfl)) rfl ?_
              rintro _ wS15_1 ⟨rfl, D, cg⟩
              have ex := Chs.one cg
              clear cg
              replace F := F.chs ex
              replace J1 := J1.chs ex
              replace J2 := J2.chs ex
              replace J3 := J3.chs ex
              replace B4 := B4.chs ex
              replace J5 := J5.chs ex
              replace H6 := H6.chs ex
              replace J6 := J6.chs ex
              replace B2 := D; clear D
              replace B2 := B2.congr (cs' := leafV ⟨A1, n1, c1⟩ ⟨A2, n2, c2⟩ ⟨A3, n3, c3⟩ (src s) ⟨A5, n5, c5⟩ ⟨A6, n6, c6⟩) rfl
              refine wl_y (y_assign rfl) rfl ?_
              refine wl_nil ?_
              refine wq_then_norm (hK21 ?_)
              refine wc_ret ?_
              refine hret rfl rfl B2 rfl ?_
              rw [e6]; exact ⟨_, rfl, HL _ ((Chs.of ex9 _).tr ex), H6.mono (fun k hk => by simp [hk]) hgS, (F.drop (by omega)).drop (by omega)⟩
        · skip
          have e3 : leafP s = ([], lf4 s) := by unfold leafP; rw [if_neg (by omega)]
          have q13 := F.size; have q14 := B4.lt; have q15 := B2.lt
          have J5 : Kp _ [gB4, gB2, g] (fun w => Fb w5.heap.size w nilH.A nilH.n []) w5 := (Fb.nil _ _ _).kk (by simp; omega)
          refine wc_skip ?_
          refine wq_then_norm (hK11 ?_)
          refine wc_seq ?_; intro K22 hK22
          have q10 := F.size; have q11 := B4.lt; have q12 := B2.lt
          refine wc_region ?_
          refine wl_y (y_move rfl) rfl ?_
          refine wl_call Tryz.func103 rfl rfl rfl (rVec_any _ H4) rfl ?_
          rintro e w7 ⟨A6, n6, c6, rfl, hc6, V6, H6, ex⟩
          refine ⟨_, rfl, ?_⟩
          replace J5 := J5.chs ex
          replace F := F.chs ex
          replace B2 := B2.chs ex
          replace J1 := J1.chs ex
          replace J2 := J2.chs ex
          replace J3 := J3.chs ex
          replace B4 := B4.chs ex
          have J6 := V6.kk (S := [gB4, gB2, g]) (by simp; omega)
          refine wl_y (y_fieldAddr (o := 5) (s := 1) (off := 0) (o' := 5) rfl Tryz.underlying24 rfl (by kernel_rfl) rfl rfl) rfl ?_
          refine wl_ef (ef_storeB (i := 5) rfl rfl rfl (by kernel_rfl) B4 (Nat.le_of_ble_eq_true rfl)) rfl ?_
          rintro _ wS9_3 ⟨rfl, D, cg⟩
          have ex := Chs.one cg
          clear cg
          replace F := F.chs ex
          replace B2 := B2.chs ex
          replace J1 := J1.chs ex
          replace J2 := J2.chs ex
          replace J3 := J3.chs ex
          replace H6 := H6.chs ex
          replace J5 := J5.chs ex
          replace J6 := J6.chs ex
          replace B4 := D; clear D
          replace B4 := B4.congr (cs' := leafV ⟨A1, n1, c1⟩ ⟨A2, n2, c2⟩ ⟨A3, n3, c3⟩ (src s) nilH ⟨A6, n6, c6⟩) rfl
          refine wl_nil ?_
          refine wq_then_norm (hK22 ?_)
          refine wc_seq ?_; intro K23 hK23
          refine wc_seq ?_; intro K24 hK24
          refine wc_region ?_
          refine wl_y (y_move rfl) rfl ?_
          have e4 : leafQ s = vecX (lf4 s) := by unfold leafQ; rw [e3]
          replace H6 : Rs N _ _ g (vecX (lf4 s)).2 := H6
          rw [← e4] at H6
          refine wl_call Tryz.func72 rfl rfl rfl (rErr_any _ H6) rfl ?_
          rintro e w8 ⟨rfl, ex⟩
          refine ⟨_, rfl, ?_⟩
          replace F := F.ext ex
          replace B2 := B2.ext ex
          replace J1 := J1.ext ex
          replace J2 := J2.ext ex
          replace J3 := J3.ext ex
          replace B4 := B4.ext ex
          replace H6 := H6.ext ex
          replace J5 := J5.ext ex
          replace J6 := J6.ext ex
          skip
          refine wl_y (y_assign rfl) rfl ?_
          refine wl_nil ?_
          refine wq_then_norm (hK24 ?_)
          refine wc_seq ?_; intro K25 hK25
          refine wc_region ?_
          refine wl_y (y_move rfl) rfl ?_
          refine wl_y (y_neq rfl rfl) rfl ?_
          refine wl_nil ?_
          refine wq_then_norm (hK25 ?_)
          refine wc_dec rfl (fun hc4 => ?_) (fun hc4 => ?_)
          · skip
            have e5 : leafX s = ((Leaf.zero, ecode (leafQ s).2), (leafQ s).2) := by unfold leafX; rw [if_neg (by omega), if_neg (by omega), if_pos (by omega)]
            refine wc_seq ?_; intro K26 hK26
            refine wc_region ?_
            refine wl_y (y_build rfl (cells := zLeafV) (by kernel_rfl)) rfl ?_
            refine wl_y (y_move rfl) rfl ?_
            refine wl_ef (ef_storeP (o := 0) rfl rfl (by kernel_rfl) B2 (Nat.le_of_ble_eq_true rfl) (all_ones rfl)) rfl ?_
            rintro _ wS12_2 ⟨rfl, D, cg⟩
            have ex := Chs.one cg
            clear cg
            replace F := F.chs ex
            replace J1 := J1.chs ex
            replace J2 := J2.chs ex
            replace J3 := J3.chs ex
            replace B4 := B4.chs ex
            replace H6 := H6.chs ex
            replace J5 := J5.chs ex
            replace J6 := J6.chs ex
            replace B2 := D; clear D
            replace B2 := B2.congr (cs' := zLeafV) rfl
            refine wl_y (y_assign rfl) rfl ?_
            refine wl_nil ?_
            refine wq_then_norm (hK26 ?_)
            refine wc_ret ?_
            refine wq_then_ret ?_
            refine hret rfl rfl B2 rfl ?_
            rw [e5]; exact ⟨zLeafV, rfl, LeafF.zero _ _, H6.mono (fun k hk => by simp [hk]) hgS, (F.drop (by omega)).drop (by omega)⟩
          · skip
            have e5 : ecode (leafQ s).2 = 0 := by omega
            refine wc_skip ?_
            refine wq_then_norm (hK23 ?_)
            refine wc_seq ?_; intro K27 hK27
            refine wc_seq ?_; intro K28 hK28
            have HL : ∀ wx, Chs [gB2] w8 wx → LeafF w.heap.size wx (leafV ⟨A1, n1, c1⟩ ⟨A2, n2, c2⟩ ⟨A3, n3, c3⟩ (src s) nilH ⟨A6, n6, c6⟩) (leafL s) := fun wx cx => ⟨_, _, _, _, _, rfl, hsrc, (J1.chs cx).out.mono (by omega), (J2.chs cx).out.mono (by omega), (J3.chs cx).out.mono (by omega), by show Fb _ _ _ _ (leafP s).1; rw [e3]; exact (J5.chs cx).out.mono (by omega), by show Fb _ _ _ _ (leafQ s).1; rw [e4]; exact (J6.chs cx).out.mono (by omega)⟩
            refine wc_region ?_
            refine wl_y (y_loadw rfl Tryz.underlying24 rfl (by kernel_rfl) B4) rfl ?_
            refine wl_call Tryz.func20 rfl rfl rfl (rightLeaf_any _ (HL _ (Chs.refl _ _)).at) rfl ?_
            rintro e w9 ⟨rfl, ex9⟩
            have ex := ex9
            refine ⟨_, rfl, ?_⟩
            replace F := F.ext ex
            replace B2 := B2.ext ex
            replace J1 := J1.ext ex
            replace J2 := J2.ext ex
            replace J3 := J3.ext ex
            replace B4 := B4.ext ex
            replace H6 := H6.ext ex
            replace J5 := J5.ext ex
            replace J6 := J6.ext ex
            skip
            refine wl_y (y_not rfl) rfl ?_
            refine wl_nil ?_
            refine wq_then_norm (hK28 ?_)
            refine wc_cond rfl (fun hc5 => ?_) (fun hc5 => ?_)
            · skip
              refine wc_seq ?_; intro K29 hK29
              have hno : ¬ okLeaf (leafL s) := by simpa using hc5
              have e6 : leafX s = ((Leaf.zero, 3), (leafQ s).2) := by unfold leafX; rw [if_neg (by omega), if_neg (by omega), if_neg (by omega), if_neg hno]
              refine wc_region ?_
              refine wl_y (y_build rfl (cells := zLeafV) (by kernel_rfl)) rfl ?_
              refine wl_ef (ef_storeP (o := 0) rfl rfl (by kernel_rfl) B2 (Nat.le_of_ble_eq_true rfl) (all_ones rfl)) rfl ?_
              rintro _ wS14_1 ⟨rfl, D, cg⟩
              have ex := Chs.one cg
              clear cg
              replace F := F.chs ex
              replace J1 := J1.chs ex
              replace J2 := J2.chs ex
              replace J3 := J3.chs ex
              replace B4 := B4.chs ex
              replace H6 := H6.chs ex
              replace J5 := J5.chs ex
              replace J6 := J6.chs ex
              replace B2 := D; clear D
              replace B2 := B2.congr (cs' := zLeafV) rfl
              refine wl_y (y_assign rfl) rfl ?_
              refine wl_nil ?_
              refine wq_then_norm (hK29 ?_)
              refine wc_ret ?_
              refine wq_then_ret ?_
              refine hret rfl rfl B2 rfl ?_
              rw [e6]; exact ⟨zLeafV, rfl, LeafF.zero _ _, H6.mono (fun k hk => by simp [hk]) hgS, (F.drop (by omega)).drop (by omega)⟩
            · skip
              refine wc_skip ?_
              refine wq_then_norm (hK27 ?_)
              refine wc_seq ?_; intro K30 hK30
              have hyes : okLeaf (leafL s) := by simpa using hc5
              have e6 : leafX s = ((leafL s, 0), (leafQ s).2) := by unfold leafX; rw [if_neg (by omega), if_neg (by omega), if_neg (by omega), if_pos hyes]
              refine wc_region ?_
              refine wl_y (y_loadw rfl Tryz.underlying24 rfl (by kernel_rfl) B4) rfl ?_
              refine wl_ef (ef_storeP (o := 0) rfl rfl (by kernel_rfl) B2 (Nat.le_of_ble_eq_true rfl) (all_ones rfl)) rfl ?_
              rintro _ wS15_1 ⟨rfl, D, cg⟩
              have ex := Chs.one cg
              clear cg
              replace F := F.chs ex
              replace J1 := J1.chs ex
              replace J2 := J2.chs ex
              replace J3 := J3.chs ex
              replace B4 := B4.chs ex
              replace H6 := H6.chs ex
              replace J5 := J5.chs ex
              replace J6 := J6.chs ex
              replace B2 := D; clear D
              replace B2 := B2.congr (cs' := leafV ⟨A1, n1, c1⟩ ⟨A2, n2, c2⟩ ⟨A3, n3, c3⟩ (src s) nilH ⟨A6, n6, c6⟩) rfl
              refine wl_y (y_assign rfl) rfl ?_
              refine wl_nil ?_
              refine wq_then_norm (hK30 ?_)
              refine wc_ret ?_
              refine hret rfl rfl B2 rfl ?_
              rw [e6]; exact ⟨_, rfl, HL _ ((Chs.of ex9 _).tr ex), H6.mono (fun k hk => by simp [hk]) hgS, (F.drop (by omega)).drop (by omega)⟩
theorem hd_eq {h i : Hd} (e : Value.slice h.A h.n h.c = .slice i.A i.n i.c) : h = i := by
  obtain ⟨a, b, c⟩ := h
  obtain ⟨a', b', c'⟩ := i
  simp only [Value.slice.injEq] at e
  obtain ⟨e1, e2, e3⟩ := e
  subst e1; subst e2; subst e3; rfl
theorem leafV_inj {h0 h1 h2 h4 h5 i0 i1 i2 i4 i5 : Hd} {s t : Nat} (e : leafV h0 h1 h2 s h4 h5 = leafV i0 i1 i2 t i4 i5) : h0 = i0 ∧ h1 = i1 ∧ h2 = i2 ∧ h4 = i4 ∧ h5 = i5 := by
  have e' := congrArg Array.toList e
  simp only [leafV, List.cons.injEq, and_true] at e'
  obtain ⟨a0, a1, a2, _, a4, a5⟩ := e'
  exact ⟨hd_eq a0, hd_eq a1, hd_eq a2, hd_eq a4, hd_eq a5⟩
theorem parV_inj {h0 h1 h2 i0 i1 i2 : Hd} (e : parV h0 h1 h2 = parV i0 i1 i2) : h0 = i0 ∧ h1 = i1 ∧ h2 = i2 := by
  have e' := congrArg Array.toList e
  simp only [parV, List.cons.injEq, and_true] at e'
  obtain ⟨a0, a1, a2⟩ := e'
  exact ⟨hd_eq a0, hd_eq a1, hd_eq a2⟩
theorem eltZ : Elt Tryz.prog 27 3 8 := Elt.of Tryz.underlying27 (z := .int .i64 0) (by kernel_rfl) rfl
theorem fours_cons {ys : List UInt8} (h : 4 ≤ ys.length) : fours ys = ((nb (ys.take 4) : Nat) : Int) :: fours (ys.drop 4) := by
  match ys, h with
  | a :: b :: c :: d :: r, _ => rfl
theorem fours_nil {ys : List UInt8} (h : ys.length < 4) : fours ys = [] := by
  match ys, h with
  | [], _ => rfl
  | [_], _ => rfl
  | [_, _], _ => rfl
  | [_, _, _], _ => rfl
  | a :: b :: c :: d :: r, h => simp at h; omega
theorem vecX_lt (s : St) : (vecX s).1.length < 1073741824 := by
  cases h : (lenX s).1.2 with
  | false => rw [vecX_len s h]; simp
  | true =>
    obtain ⟨n, r, _, hn, e⟩ := vecX_yes h
    rw [e]
    split
    · simp
    · simp; omega
theorem takeParent_any {N : Nat} {S : List Nat} {g : Nat} {s : St} (w : World) (H0 : Rs N S w g s) :
    Calls Tryz.prog 74 #[.pointer (some ⟨g, 0, none⟩)] w fun e w' => ∃ cs, e = .returned (.tuple #[.agg cs, .int .u8 (((parX s).1.2 : Nat) : Int)]) ∧ ParF w.heap.size w' cs (parX s).1.1 ∧ Rs N S w' g (parX s).2 ∧ Chs [g] w w' := by
  have hgl := H0.lt
  have hgS := H0.mem
  have F := Chs.refl [g] w
  have H := H0
  obtain ⟨late, hlate⟩ : ∃ l, l = (vecX (lf2 s)).1 := ⟨_, rfl⟩
  have hll : late.length < 1073741824 := by rw [hlate]; exact vecX_lt _
  refine vc_enterct (s := 3) 44 Tryz.func74 rfl rfl rfl Tryz.underlying29 rfl (by kernel_rfl) rfl ?_
  intro Q hret
  refine wc_seq ?_; intro K1 hK1
  refine wc_region ?_
  refine wl_ef (ef_alloc (Z := #[.slice none 0 0, .slice none 0 0, .slice none 0 0]) (by kernel_rfl)) rfl ?_
  rintro _ wB2 ⟨gB2, rfl, B2, hgB2, ex⟩
  have lB2 := B2.lt; have zB2 := ex.size
  replace F := F.grow ex hgB2
  replace H := H.grow ex hgB2
  refine wl_y (y_assign rfl) rfl ?_
  refine wl_nil ?_
  refine wq_then_norm (hK1 ?_)
  refine wc_seq ?_; intro K2 hK2
  refine wc_region ?_
  refine wl_y (y_move rfl) rfl ?_
  refine wl_call Tryz.func103 rfl rfl rfl (rVec_any _ H) rfl ?_
  rintro e w1 ⟨A1, n1, c1, rfl, hc1, V1, H1, ex⟩
  refine ⟨_, rfl, ?_⟩
  replace F := F.chs ex
  replace B2 := B2.chs ex
  have J1 := V1.kk (S := [gB2, g]) (by simp; omega)
  refine wl_y (y_move rfl) rfl ?_
  have q2 := B2.lt; have q3 := F.size
  refine wl_call Tryz.func103 rfl rfl rfl (rVec_any _ H1) rfl ?_
  rintro e w2 ⟨A2, n2, c2, rfl, hc2, V2, H2, ex⟩
  refine ⟨_, rfl, ?_⟩
  replace F := F.chs ex
  replace B2 := B2.chs ex
  replace J1 := J1.chs ex
  have J2 := V2.kk (S := [gB2, g]) (by simp; omega)
  refine wl_y (y_build rfl (cells := parV ⟨A1, n1, c1⟩ ⟨A2, n2, c2⟩ nilH) (by kernel_rfl)) rfl ?_
  refine wl_ef (ef_alloc (Z := #[.slice none 0 0, .slice none 0 0, .slice none 0 0]) (by kernel_rfl)) rfl ?_
  rintro _ wB4 ⟨gB4, rfl, B4, hgB4, ex⟩
  have lB4 := B4.lt; have zB4 := ex.size
  have nB2_4 : gB2 < gB4 := Nat.lt_of_lt_of_le B2.lt hgB4
  replace F := F.grow ex hgB4
  replace B2 := B2.grow ex hgB4
  replace J1 := J1.grow ex hgB4
  replace H2 := H2.grow ex hgB4
  replace J2 := J2.grow ex hgB4
  refine wl_ef (ef_storeP (o := 0) rfl rfl (by kernel_rfl) B4 (Nat.le_of_ble_eq_true rfl) (all_ones rfl)) rfl ?_
  rintro _ wS1_6 ⟨rfl, D, cg⟩
  have ex := Chs.one cg
  clear cg
  replace F := F.chs ex
  replace B2 := B2.chs ex
  replace J1 := J1.chs ex
  replace H2 := H2.chs ex
  replace J2 := J2.chs ex
  replace B4 := D; clear D
  replace B4 := B4.congr (cs' := parV ⟨A1, n1, c1⟩ ⟨A2, n2, c2⟩ nilH) rfl
  have q7 := F.size; have q8 := B4.lt; have q9 := B2.lt
  refine wl_nil ?_
  refine wq_then_norm (hK2 ?_)
  refine wc_seq ?_; intro K3 hK3
  refine wc_region ?_
  refine wl_y (y_move rfl) rfl ?_
  refine wl_call Tryz.func103 rfl rfl rfl (rVec_any _ H2) rfl ?_
  rintro e w3 ⟨A3, n3, c3, rfl, hc3, V3, H3, ex⟩
  refine ⟨_, rfl, ?_⟩
  replace F := F.chs ex
  replace B2 := B2.chs ex
  replace J1 := J1.chs ex
  replace J2 := J2.chs ex
  replace B4 := B4.chs ex
  have J3 := V3.kk (S := [gB4, gB2, g]) (by simp; omega)
  refine wl_y (y_assign rfl) rfl ?_
  refine wl_nil ?_
  refine wq_then_norm (hK3 ?_)
  refine wc_seq ?_; intro K4 hK4
  refine wc_seq ?_; intro K5 hK5
  refine wc_region ?_
  refine wl_y (y_move rfl) rfl ?_
  refine wl_call Tryz.func72 rfl rfl rfl (rErr_any _ H3) rfl ?_
  rintro e w4 ⟨rfl, ex⟩
  refine ⟨_, rfl, ?_⟩
  replace F := F.ext ex
  replace B2 := B2.ext ex
  replace J1 := J1.ext ex
  replace J2 := J2.ext ex
  replace B4 := B4.ext ex
  replace H3 := H3.ext ex
  replace J3 := J3.ext ex
  skip
  refine wl_y (y_assign rfl) rfl ?_
  refine wl_nil ?_
  refine wq_then_norm (hK5 ?_)
  refine wc_seq ?_; intro K6 hK6
  refine wc_region ?_
  refine wl_y (y_move rfl) rfl ?_
  refine wl_y (y_neq rfl rfl) rfl ?_
  refine wl_nil ?_
  refine wq_then_norm (hK6 ?_)
  refine wc_dec rfl (fun hc1 => ?_) (fun hc1 => ?_)
  · skip
    have e1 : parX s = ((Par.zero, ecode (lf3 s)), lf3 s) := by unfold parX; rw [if_pos (show ecode (lf3 s) ≠ 0 from fun h => hc1 (by rw [show ecode (vecX (vecX (vecX s).2).2).2 = 0 from h]; rfl))]
    refine wc_seq ?_; intro K7 hK7
    refine wc_region ?_
    refine wl_y (y_build rfl (cells := zParV) (by kernel_rfl)) rfl ?_
    refine wl_y (y_move rfl) rfl ?_
    refine wl_ef (ef_storeP (o := 0) rfl rfl (by kernel_rfl) B2 (Nat.le_of_ble_eq_true rfl) (all_ones rfl)) rfl ?_
    rintro _ wS5_2 ⟨rfl, D, cg⟩
    have ex := Chs.one cg
    clear cg
    replace F := F.chs ex
    replace J1 := J1.chs ex
    replace J2 := J2.chs ex
    replace B4 := B4.chs ex
    replace H3 := H3.chs ex
    replace J3 := J3.chs ex
    replace B2 := D; clear D
    replace B2 := B2.congr (cs' := zParV) rfl
    refine wl_y (y_assign rfl) rfl ?_
    refine wl_nil ?_
    refine wq_then_norm (hK7 ?_)
    refine wc_ret ?_
    refine wq_then_ret ?_
    refine hret rfl rfl B2 rfl ?_
    rw [e1]; exact ⟨zParV, rfl, ParF.zero _ _, H3.mono (fun k hk => by simp [hk]) hgS, (F.drop (by omega)).drop (by omega)⟩
  · skip
    have e1 : ecode (lf3 s) = 0 := by have : ¬ ((ecode (lf3 s) : Nat) : Int) ≠ 0 := hc1; omega
    refine wc_skip ?_
    refine wq_then_norm (hK4 ?_)
    refine wc_seq ?_; intro K8 hK8
    have q10 := F.size; have q11 := B4.lt; have q12 := B2.lt
    refine wc_region ?_
    refine wl_y (y_move rfl) rfl ?_
    refine wl_call Tryz.func37 rfl rfl rfl (newReader_any A3 n3 c3 late _ hc3 (J3.map fun _ h => (by rw [hlate]; exact h.1))) rfl ?_
    rintro e w5 ⟨g7, rfl, hg7, R, ex⟩
    refine ⟨_, rfl, ?_⟩
    replace F := F.grow ex hg7
    replace B2 := B2.grow ex hg7
    replace J1 := J1.grow ex hg7
    replace J2 := J2.grow ex hg7
    replace B4 := B4.grow ex hg7
    replace H3 := H3.grow ex hg7
    replace J3 := J3.grow ex hg7
    have l7 := R.lt
    refine wl_y (y_assign rfl) rfl ?_
    refine wl_nil ?_
    refine wq_then_norm (hK8 ?_)
    refine wc_seq ?_; intro K9 hK9
    refine wc_block ?_
    have F0 := F; have B20 := B2; have H30 := H3; have J10 := J1; have J20 := J2; have z5 := F.size; have m4 := B4.lt; have m2 := B2.lt
    have G := Chs.refl [g7, gB4] w5
    have R0 : Row w5 w5.heap.size 3 none 0 0 [] := Row.empty _ _ _
    have z53 : w3.heap.size ≤ w5.heap.size := J3.1
    refine wc_loop (fun n' L wr => ∃ (ys : List UInt8) (zs : List Int) (A : Option Addr) (n c : Nat), L = [(2, .pointer (some ⟨gB2, 0, none⟩)), (4, .pointer (some ⟨gB4, 0, none⟩)), (7, .pointer (some ⟨g7, 0, none⟩)), (0, .pointer (some ⟨g, 0, none⟩))] ∧ n' = ys.length ∧ (Chs [g7, gB4] w5 wr ∧ Rs w3.heap.size [g7, gB4, gB2, g] wr g7 (.ok ys) ∧ Blk wr gB4 29 (parV ⟨A1, n1, c1⟩ ⟨A2, n2, c2⟩ ⟨A, n, c⟩) ∧ Row wr w5.heap.size 3 A n c (zs.map zv) ∧ zs.length = n ∧ fours late = zs ++ fours ys ∧ late.length % 4 = ys.length % 4 ∧ n + ys.length ≤ late.length ∧ (∀ z ∈ zs, 0 ≤ z ∧ z < 4294967296))) _ _ ⟨late, [], none, 0, 0, rfl, rfl, G, R, B4, R0, rfl, (by simp), rfl, (by omega), (by simp)⟩ ⟨rfl, rfl, rfl, rfl, trivial⟩ ?_
    rintro KL1 n' L wr ⟨ys, zs, A, n, c, rfl, rfl, G, R, B4, RW, hzn, hF, hM, hL, hZ⟩ hL1
    refine wc_seq ?_; intro K10 hK10
    refine wc_seq ?_; intro K11 hK11
    skip
    refine wc_region ?_
    refine wl_y (y_move rfl) rfl ?_
    refine wl_call Tryz.func104 rfl rfl rfl (rLeft_any _ R) rfl ?_
    rintro e w6 ⟨rfl, ex⟩
    refine ⟨_, rfl, ?_⟩
    replace G := G.ext ex
    replace R := R.ext ex
    replace B4 := B4.ext ex
    replace RW := RW.ext ex
    skip
    refine wl_y (y_geq rfl rfl) rfl ?_
    refine wl_nil ?_
    refine wq_then_norm (hK11 ?_)
    refine wc_dec rfl (fun hc2 => ?_) (fun hc2 => ?_)
    · skip
      refine wc_skip ?_
      refine wq_then_norm (hK10 ?_)
      refine wc_block ?_
      have hn' : (⟨A, n, c⟩ : Hd).n = n := rfl
      have hdl : (ys.drop 4).length = ys.length - 4 := List.length_drop
      have hn4 := nb_lt (ys.take 4)
      rw [List.length_take, Nat.min_eq_left (by omega)] at hn4
      refine wc_drawJ [(3, [g7]), (6, (Value.slice A (n + 1) c).ownBlock.toList), (8, [gB4])] (by kernel_rfl) 9 rfl ?_; intro wd8 ex hd8
      replace G := G.ext ex
      replace R := R.ext ex
      replace B4 := B4.ext ex
      replace RW := RW.ext ex
      refine wj_y 0 [3] rfl (by kernel_rfl) (fun wr (cr : Chs ([g7]) _ wr) => y_fieldAddr (o := 2) (s := 1) (off := 0) (o' := 2) rfl Tryz.underlying29 rfl (by kernel_rfl) rfl rfl) rfl ?_
      refine wj_y 1 [3] rfl (by kernel_rfl) (fun wr (cr : Chs ([g7]) _ wr) => y_load1 rfl Tryz.underlying27 rfl ((B4.chs cr).get (i := 2) rfl)) rfl ?_
      refine wj_y 2 [] rfl (by kernel_rfl) (fun wr (cr : Chs ([]) _ wr) => y_move rfl) rfl ?_
      refine wj_one 3 (by kernel_rfl) ?_; refine oj_call rfl Tryz.func71 rfl rfl rfl (rnum_any 4 4 rfl _ (by omega) R) rfl ?_
      rintro e w7 ⟨rfl, R7, ex⟩
      refine ⟨_, rfl, ex, ?_⟩
      rw [numX_ok, if_neg (by omega)] at R7 ⊢
      replace G := G.chs ex
      replace B4 := B4.chs ex
      replace RW := RW.chs ex
      refine wj_y 4 [] rfl (by kernel_rfl) (fun wr (cr : Chs ([]) _ wr) => y_conv rfl Tryz.underlying58 Tryz.underlying3 (i64_ok (by omega) (by omega))) rfl ?_
      refine wj_one 5 (by kernel_rfl) ?_; refine oj_ef rfl (ef_lit (z := .int .i64 0) Tryz.underlying27 (by kernel_rfl) rfl rfl rfl rfl rfl) rfl ?_
      rintro _ w8 ⟨g31, rfl, B31, hg31, ex⟩
      refine ⟨Chs.of ex _, ?_⟩
      replace G := G.ext ex
      replace B4 := B4.ext ex
      replace RW := RW.ext ex
      replace R7 := R7.ext ex
      have z8 := G.size
      refine wj_one 6 (by kernel_rfl) ?_; refine oj_ef rfl (ef_app rfl rfl eltZ RW (At.blk (vs := [zv ((nb (ys.take 4) : Nat) : Int)]) B31) rfl (by intro u hu; simp only [List.mem_singleton] at hu; subst hu; rfl) (by omega) (by omega) z8) rfl ?_
      rintro _ w9 ⟨A9, c9, rfl, R9, be, gr, hgl⟩
      refine ⟨Chs.own gr, ?_⟩
      replace G := G.below be (Nat.le_refl _); replace R7 := R7.below be z53 l7; replace B4 := B4.below be m4; clear be hgl
      refine wj_y 7 [] rfl (by kernel_rfl) (fun wr (cr : Chs ([]) _ wr) => y_fieldAddr (o := 2) (s := 1) (off := 0) (o' := 2) rfl Tryz.underlying29 rfl (by kernel_rfl) rfl rfl) rfl ?_
      refine wj_one 8 (by kernel_rfl) ?_; refine oj_ef rfl (ef_storeB (i := 2) rfl rfl rfl (by kernel_rfl) B4 (Nat.le_of_ble_eq_true rfl)) rfl ?_
      rintro _ wS8_8 ⟨rfl, D, cg⟩
      have ex := Chs.one cg
      clear cg
      refine ⟨ex, ?_⟩
      replace G := G.chs ex
      replace R7 := R7.chs ex
      replace R9 := R9.chs ex
      replace B4 := D; clear D
      replace B4 := B4.congr (cs' := parV ⟨A1, n1, c1⟩ ⟨A2, n2, c2⟩ ⟨A9, n + 1, c9⟩) rfl
      refine wj_done (by kernel_rfl) ?_
      refine wq_nop ?_
      refine wq_blk_norm ?_
      refine wq_then_norm ?_
      refine hL1 _ _ ⟨ys.drop 4, zs ++ [((nb (ys.take 4) : Nat) : Int)], A9, n + 1, c9, rfl, rfl, G, R7, B4, R9.congr rfl (by simp), by simp [hzn], by rw [hF, fours_cons (by omega)]; simp, by rw [List.length_drop]; omega, by rw [List.length_drop]; omega, fun z hz => by rcases List.mem_append.1 hz with h | h; exact hZ z h; simp only [List.mem_singleton] at h; subst h; omega⟩ (by omega) ⟨rfl, rfl, rfl, rfl, trivial⟩
    · skip
      refine wc_exit ?_
      refine wq_then_exit ?_
      refine wq_then_exit ?_
      refine wq_blk_hit ?_
      refine wq_then_norm (hK9 ?_)
      refine wc_seq ?_; intro K12 hK12
      refine wc_seq ?_; intro K13 hK13
      have hys : ys.length < 4 := by omega
      rw [fours_nil hys, List.append_nil] at hF
      refine wc_region ?_
      refine wl_y (y_move rfl) rfl ?_
      refine wl_call Tryz.func104 rfl rfl rfl (rLeft_any _ R) rfl ?_
      rintro e w10 ⟨rfl, ex⟩
      refine ⟨_, rfl, ?_⟩
      replace G := G.ext ex
      replace R := R.ext ex
      replace B4 := B4.ext ex
      replace RW := RW.ext ex
      skip
      refine wl_yask (y_gtr rfl rfl) rfl (fun v1 => ?_) (fun v1 => ?_)
      · skip
        refine wl_y (y_move rfl) rfl ?_
        refine wl_gno 37 rfl rfl rfl rfl ?_
        refine wl_gno 37 rfl rfl rfl rfl ?_
        refine wl_gno 37 rfl rfl rfl rfl ?_
        refine wl_y (y_pickt rfl rfl) rfl ?_
        refine wl_nil ?_
        refine wq_then_norm (hK13 ?_)
        refine wc_true rfl rfl ?_
        refine wc_seq ?_; intro K14 hK14
        have e2 : parX s = ((Par.zero, 3), lf3 s) := by unfold parX; rw [if_neg (by omega), if_pos (.inl (by rw [← hlate]; omega))]
        refine wc_region ?_
        refine wl_y (y_build rfl (cells := zParV) (by kernel_rfl)) rfl ?_
        have B2 := B20.chs G
        refine wl_ef (ef_storeP (o := 0) rfl rfl (by kernel_rfl) B2 (Nat.le_of_ble_eq_true rfl) (all_ones rfl)) rfl ?_
        rintro _ w12 ⟨rfl, D2, cg⟩
        have F := (F0.chs G).chs (Chs.one cg); have H4 := (H30.chs G).chs (Chs.one cg)
        refine wl_y (y_assign rfl) rfl ?_
        refine wl_nil ?_
        refine wq_then_norm (hK14 ?_)
        refine wc_ret ?_
        refine wq_then_ret ?_
        refine hret rfl rfl (D2.congr (cs' := zParV) rfl) rfl ?_
        rw [e2]; exact ⟨zParV, rfl, ParF.zero _ _, H4.mono (fun k hk => by simp [hk]) hgS, ((F.drop (by omega)).drop (by omega)).drop (by omega)⟩
      · skip
        refine wl_y (y_move rfl) rfl ?_
        refine wl_gy 37 rfl rfl (y_loadw rfl Tryz.underlying29 rfl (by kernel_rfl) B4) rfl ?_
        have HP : ∀ wx, Chs [gB2] _ wx → ParF w.heap.size wx (parV ⟨A1, n1, c1⟩ ⟨A2, n2, c2⟩ ⟨A, n, c⟩) ⟨(vecX s).1, (vecX (lf1 s)).1, zs⟩ := fun wx (cx : Chs [gB2] w10 wx) => ⟨_, _, _, rfl, ((J10.chs G).chs cx).out.mono (by omega), ((J20.chs G).chs cx).out.mono (by omega), ⟨⟨hzn, (RW.chs cx).at, fun z hz => by have := hZ z hz; omega⟩, fun _ b o e => by subst e; exact Nat.le_trans z5 (Row.lt RW).1⟩⟩
        refine wl_gcall 37 rfl rfl Tryz.func69 rfl rfl rfl (rightParent_any _ (HP _ (Chs.refl _ _)).at (show zs.length ≤ 1100000000 by omega)) rfl ?_
        rintro e w11 ⟨rfl, ex11⟩
        have ex := ex11
        refine ⟨_, rfl, ?_⟩
        replace G := G.ext ex
        replace R := R.ext ex
        replace B4 := B4.ext ex
        replace RW := RW.ext ex
        skip
        refine wl_gy 37 rfl rfl (y_not rfl) rfl ?_
        refine wl_y (y_pickf rfl rfl) rfl ?_
        refine wl_nil ?_
        refine wq_then_norm (hK13 ?_)
        refine wc_cond rfl (fun hc3 => ?_) (fun hc3 => ?_)
        · skip
          refine wc_seq ?_; intro K15 hK15
          have hno : ¬ okPar ⟨(vecX s).1, (vecX (lf1 s)).1, zs⟩ := by simpa using hc3
          have e2 : parX s = ((Par.zero, 3), lf3 s) := by unfold parX; rw [if_neg (by omega), if_pos (.inr (by rw [← hlate, hF]; exact hno))]
          refine wc_region ?_
          refine wl_y (y_build rfl (cells := zParV) (by kernel_rfl)) rfl ?_
          have B2 := B20.chs G
          refine wl_ef (ef_storeP (o := 0) rfl rfl (by kernel_rfl) B2 (Nat.le_of_ble_eq_true rfl) (all_ones rfl)) rfl ?_
          rintro _ w12 ⟨rfl, D2, cg⟩
          have F := (F0.chs G).chs (Chs.one cg); have H4 := (H30.chs G).chs (Chs.one cg)
          refine wl_y (y_assign rfl) rfl ?_
          refine wl_nil ?_
          refine wq_then_norm (hK15 ?_)
          refine wc_ret ?_
          refine wq_then_ret ?_
          refine hret rfl rfl (D2.congr (cs' := zParV) rfl) rfl ?_
          rw [e2]; exact ⟨zParV, rfl, ParF.zero _ _, H4.mono (fun k hk => by simp [hk]) hgS, ((F.drop (by omega)).drop (by omega)).drop (by omega)⟩
        · skip
          refine wc_skip ?_
          refine wq_then_norm (hK12 ?_)
          refine wc_seq ?_; intro K16 hK16
          have hyes : okPar ⟨(vecX s).1, (vecX (lf1 s)).1, zs⟩ := by simpa using hc3
          have e2 : parX s = ((⟨(vecX s).1, (vecX (lf1 s)).1, zs⟩, 0), lf3 s) := by unfold parX; rw [if_neg (by omega), ← hlate, hF, if_neg (fun h => h.elim (fun h => absurd h (by omega)) (fun h => h hyes))]
          refine wc_region ?_
          refine wl_y (y_loadw rfl Tryz.underlying29 rfl (by kernel_rfl) B4) rfl ?_
          have B2 := B20.chs G
          refine wl_ef (ef_storeP (o := 0) rfl rfl (by kernel_rfl) B2 (Nat.le_of_ble_eq_true rfl) (all_ones rfl)) rfl ?_
          rintro _ w12 ⟨rfl, D2, cg⟩
          have F := (F0.chs G).chs (Chs.one cg); have H4 := (H30.chs G).chs (Chs.one cg)
          refine wl_y (y_assign rfl) rfl ?_
          refine wl_nil ?_
          refine wq_then_norm (hK16 ?_)
          refine wc_ret ?_
          refine hret rfl rfl (D2.congr (cs' := parV ⟨A1, n1, c1⟩ ⟨A2, n2, c2⟩ ⟨A, n, c⟩) rfl) rfl ?_
          rw [e2]; exact ⟨_, rfl, HP _ ((Chs.of ex11 _).tr (Chs.one cg)), H4.mono (fun k hk => by simp [hk]) hgS, ((F.drop (by omega)).drop (by omega)).drop (by omega)⟩
theorem NodeF.ofLeaf {base : Nat} {w : World} {l : Leaf} {h0 h1 h2 h4 h5 : Hd} (h : LeafF base w (leafV h0 h1 h2 l.src h4 h5) l) : NodeF base w (nodeV 1 h0 h1 h2 l.src h4 h5 nilH nilH nilH) ⟨1, l, Par.zero⟩ := by
  obtain ⟨i0, i1, i2, i4, i5, e, hs, b0, b1, b2, b4, b5⟩ := h
  obtain ⟨rfl, rfl, rfl, rfl, rfl⟩ := leafV_inj e
  exact ⟨_, _, _, _, _, nilH, nilH, nilH, rfl, (show 1 < 256 by omega), hs, b0, b1, b2, b4, b5, Fb.nil _ _ _, Fb.nil _ _ _, Fz.nil _ _ _⟩
theorem NodeF.ofPar {base : Nat} {w : World} {p : Par} {h0 h1 h2 : Hd} (h : ParF base w (parV h0 h1 h2) p) : NodeF base w (nodeV 2 nilH nilH nilH 0 nilH nilH h0 h1 h2) ⟨2, Leaf.zero, p⟩ := by
  obtain ⟨i0, i1, i2, e, b0, b1, b2⟩ := h
  obtain ⟨rfl, rfl, rfl⟩ := parV_inj e
  exact ⟨nilH, nilH, nilH, nilH, nilH, _, _, _, rfl, (show 2 < 256 by omega), (show 0 < 256 by omega), Fb.nil _ _ _, Fb.nil _ _ _, Fb.nil _ _ _, Fb.nil _ _ _, Fb.nil _ _ _, b0, b1, b2⟩
theorem take16_any {N : Nat} {S : List Nat} {g : Nat} {s : St} (w : World) (H0 : Rs N S w g s) :
    Calls Tryz.prog 38 #[.pointer (some ⟨g, 0, none⟩)] w fun e w' => ∃ cs, e = .returned (.tuple #[.agg cs, .int .u8 (((nodeX s).1.2 : Nat) : Int)]) ∧ NodeF w.heap.size w' cs (nodeX s).1.1 ∧ Rs N S w' g (nodeX s).2 ∧ Chs [g] w w' := by
  have hgl := H0.lt
  have hgS := H0.mem
  have F := Chs.refl [g] w
  have H := H0
  obtain ⟨k, hk⟩ : ∃ k, k = (numX 1 s).1 := ⟨_, rfl⟩
  obtain ⟨t, ht⟩ : ∃ t, t = (numX 1 s).2 := ⟨_, rfl⟩
  have hk8 : k < 256 := by rw [hk]; exact numX_lt 1 _
  refine vc_enterct (s := 10) 42 Tryz.func38 rfl rfl rfl Tryz.underlying31 rfl (by kernel_rfl) rfl ?_
  intro Q hret
  refine wc_seq ?_; intro K1 hK1
  refine wc_region ?_
  refine wl_ef (ef_alloc (Z := #[.int .u8 0, .slice none 0 0, .slice none 0 0, .slice none 0 0, .int .u8 0, .slice none 0 0, .slice none 0 0, .slice none 0 0, .slice none 0 0, .slice none 0 0]) (by kernel_rfl)) rfl ?_
  rintro _ wB2 ⟨gB2, rfl, B2, hgB2, ex⟩
  have lB2 := B2.lt; have zB2 := ex.size
  replace F := F.grow ex hgB2
  replace H := H.grow ex hgB2
  refine wl_y (y_assign rfl) rfl ?_
  refine wl_nil ?_
  refine wq_then_norm (hK1 ?_)
  refine wc_seq ?_; intro K2 hK2
  refine wc_region ?_
  refine wl_y (y_move rfl) rfl ?_
  refine wl_call Tryz.func71 rfl rfl rfl (rnum_any 1 1 rfl _ (by omega) H) rfl ?_
  rintro e w1 ⟨rfl, H1, ex⟩
  refine ⟨_, rfl, ?_⟩
  rw [← ht] at H1; rw [← hk]
  replace F := F.chs ex
  replace B2 := B2.chs ex
  refine wl_y (y_conv rfl Tryz.underlying58 Tryz.underlying5 (show IntKind.u8.wrap ((k : Nat) : Int) = ((k : Nat) : Int) from IntWalk.u8_in _ ⟨by omega, by omega⟩)) rfl ?_
  refine wl_y (y_build rfl (cells := nodeV k nilH nilH nilH 0 nilH nilH nilH nilH nilH) (by kernel_rfl)) rfl ?_
  refine wl_ef (ef_alloc (Z := #[.int .u8 0, .slice none 0 0, .slice none 0 0, .slice none 0 0, .int .u8 0, .slice none 0 0, .slice none 0 0, .slice none 0 0, .slice none 0 0, .slice none 0 0]) (by kernel_rfl)) rfl ?_
  rintro _ wB4 ⟨gB4, rfl, B4, hgB4, ex⟩
  have lB4 := B4.lt; have zB4 := ex.size
  have nB2_4 : gB2 < gB4 := Nat.lt_of_lt_of_le B2.lt hgB4
  replace F := F.grow ex hgB4
  replace B2 := B2.grow ex hgB4
  replace H1 := H1.grow ex hgB4
  refine wl_ef (ef_storeP (o := 0) rfl rfl (by kernel_rfl) B4 (Nat.le_of_ble_eq_true rfl) (all_ones rfl)) rfl ?_
  rintro _ wS1_5 ⟨rfl, D, cg⟩
  have ex := Chs.one cg
  clear cg
  replace F := F.chs ex
  replace B2 := B2.chs ex
  replace H1 := H1.chs ex
  replace B4 := D; clear D
  replace B4 := B4.congr (cs' := nodeV k nilH nilH nilH 0 nilH nilH nilH nilH nilH) rfl
  have q7 := F.size; have q8 := B4.lt; have q9 := B2.lt
  refine wl_nil ?_
  refine wq_then_norm (hK2 ?_)
  refine wc_seq ?_; intro K3 hK3
  refine wc_region ?_
  refine wl_y (y_move rfl) rfl ?_
  refine wl_call Tryz.func72 rfl rfl rfl (rErr_any _ H1) rfl ?_
  rintro e w5 ⟨rfl, ex⟩
  refine ⟨_, rfl, ?_⟩
  replace F := F.ext ex
  replace B2 := B2.ext ex
  replace H1 := H1.ext ex
  replace B4 := B4.ext ex
  skip
  refine wl_y (y_assign rfl) rfl ?_
  refine wl_nil ?_
  refine wq_then_norm (hK3 ?_)
  refine wc_seq ?_; intro K4 hK4
  refine wc_seq ?_; intro K5 hK5
  refine wc_region ?_
  refine wl_y (y_move rfl) rfl ?_
  refine wl_y (y_neq rfl rfl) rfl ?_
  refine wl_nil ?_
  refine wq_then_norm (hK5 ?_)
  refine wc_dec rfl (fun hc1 => ?_) (fun hc1 => ?_)
  · skip
    have e1 : nodeX s = ((Node.zero, ecode t), t) := by unfold nodeX; rw [← ht, if_pos (by omega)]
    refine wc_seq ?_; intro K6 hK6
    refine wc_region ?_
    refine wl_y (y_build rfl (cells := zNodeV) (by kernel_rfl)) rfl ?_
    refine wl_y (y_move rfl) rfl ?_
    refine wl_ef (ef_storeP (o := 0) rfl rfl (by kernel_rfl) B2 (Nat.le_of_ble_eq_true rfl) (all_ones rfl)) rfl ?_
    rintro _ wS4_2 ⟨rfl, D, cg⟩
    have ex := Chs.one cg
    clear cg
    replace F := F.chs ex
    replace H1 := H1.chs ex
    replace B4 := B4.chs ex
    replace B2 := D; clear D
    replace B2 := B2.congr (cs' := zNodeV) rfl
    refine wl_y (y_assign rfl) rfl ?_
    refine wl_nil ?_
    refine wq_then_norm (hK6 ?_)
    refine wc_ret ?_
    refine wq_then_ret ?_
    refine hret rfl rfl B2 rfl ?_
    rw [e1]; exact ⟨zNodeV, rfl, NodeF.zero _ _, H1.mono (fun k hk => by simp [hk]) hgS, (F.drop (by omega)).drop (by omega)⟩
  · skip
    have e1 : ecode t = 0 := by omega
    refine wc_skip ?_
    refine wq_then_norm (hK4 ?_)
    refine wc_seq ?_; intro K7 hK7
    refine wc_seq ?_; intro K8 hK8
    refine wc_region ?_
    refine wl_y (y_fieldAddr (o := 0) (s := 1) (off := 0) (o' := 0) rfl Tryz.underlying31 rfl (by kernel_rfl) rfl rfl) rfl ?_
    refine wl_y (y_load1 rfl Tryz.underlying5 rfl (B4.get (i := 0) rfl)) rfl ?_
    refine wl_nil ?_
    refine wq_then_norm (hK8 ?_)
    refine wc_block ?_
    refine wc_seq ?_; intro K9 hK9
    refine wc_region ?_
    refine wl_yask (y_eql rfl rfl) rfl (fun k0 => ?_) (fun k0 => ?_)
    · skip
      refine wl_y (y_assign rfl) rfl ?_
      refine wl_nil ?_
      refine wq_then_norm (hK9 ?_)
      refine wc_true rfl rfl ?_
      refine wc_seq ?_; intro K10 hK10
      have e2 : nodeX s = ((Node.zero, 0), t) := by unfold nodeX; rw [← ht, ← hk, if_neg (by omega), if_pos (by omega)]
      obtain rfl : k = 0 := by omega
      refine wc_region ?_
      refine wl_y (y_loadw rfl Tryz.underlying31 rfl (by kernel_rfl) B4) rfl ?_
      refine wl_ef (ef_storeP (o := 0) rfl rfl (by kernel_rfl) B2 (Nat.le_of_ble_eq_true rfl) (all_ones rfl)) rfl ?_
      rintro _ wS8_1 ⟨rfl, D, cg⟩
      have ex := Chs.one cg
      clear cg
      replace F := F.chs ex
      replace H1 := H1.chs ex
      replace B4 := B4.chs ex
      replace B2 := D; clear D
      replace B2 := B2.congr (cs' := zNodeV) rfl
      refine wl_y (y_assign rfl) rfl ?_
      refine wl_nil ?_
      refine wq_then_norm (hK10 ?_)
      refine wc_ret ?_
      refine wq_blk_ret ?_
      refine wq_then_ret ?_
      refine hret rfl rfl B2 rfl ?_
      rw [e2]; exact ⟨zNodeV, rfl, NodeF.zero _ _, H1.mono (fun k hk => by simp [hk]) hgS, (F.drop (by omega)).drop (by omega)⟩
    · skip
      refine wl_y (y_assign rfl) rfl ?_
      refine wl_nil ?_
      refine wq_then_norm (hK9 ?_)
      refine wc_false rfl rfl ?_
      refine wc_seq ?_; intro K11 hK11
      refine wc_region ?_
      refine wl_yask (y_eql rfl rfl) rfl (fun k1 => ?_) (fun k1 => ?_)
      · skip
        refine wl_y (y_assign rfl) rfl ?_
        refine wl_nil ?_
        refine wq_then_norm (hK11 ?_)
        refine wc_true rfl rfl ?_
        refine wc_region ?_
        refine wl_y (y_move rfl) rfl ?_
        have q10 := F.size; have q11 := B4.lt; have q12 := B2.lt; have q13 := H1.lt
        refine wl_call Tryz.func73 rfl rfl rfl (takeLeaf_any _ H1) rfl ?_
        rintro e w6 ⟨cs, rfl, HL, H5, ex⟩
        refine ⟨_, rfl, ?_⟩
        replace F := F.chs ex
        replace B2 := B2.chs ex
        replace B4 := B4.chs ex
        have KL := HL.kk (S := [gB4, gB2, g]) (by simp; omega)
        obtain ⟨h0, h1, h2, h4, h5, rfl, hs, b0, b1, b2, b4, b5⟩ := HL
        refine wl_y (y_move rfl) rfl ?_
        refine wl_y (y_extract rfl rfl) rfl ?_
        refine wl_y (y_extract rfl rfl) rfl ?_
        refine wl_y (y_fieldAddr (o := 1) (s := 6) (off := 0) (o' := 1) rfl Tryz.underlying31 rfl (by kernel_rfl) rfl rfl) rfl ?_
        refine wl_ef (ef_storeP (o := 1) rfl rfl (by kernel_rfl) B4 (Nat.le_of_ble_eq_true rfl) (all_ones rfl)) rfl ?_
        rintro _ wS10_6 ⟨rfl, D, cg⟩
        have ex := Chs.one cg
        clear cg
        replace F := F.chs ex
        replace B2 := B2.chs ex
        replace H5 := H5.chs ex
        replace KL := KL.chs ex
        replace B4 := D; clear D
        replace B4 := B4.congr (cs' := nodeV k h0 h1 h2 (leafX t).1.1.src h4 h5 nilH nilH nilH) rfl
        refine wl_y (y_assign rfl) rfl ?_
        refine wl_nil ?_
        refine wq_blk_norm ?_
        refine wq_then_norm (hK7 ?_)
        refine wc_seq ?_; intro K12 hK12
        refine wc_seq ?_; intro K13 hK13
        refine wc_region ?_
        refine wl_y (y_move rfl) rfl ?_
        refine wl_y (y_neq rfl rfl) rfl ?_
        refine wl_nil ?_
        refine wq_then_norm (hK13 ?_)
        refine wc_dec rfl (fun hc5 => ?_) (fun hc5 => ?_)
        · skip
          refine wc_seq ?_; intro K14 hK14
          have e2 : nodeX s = ((Node.zero, (leafX t).1.2), (leafX t).2) := by unfold nodeX; rw [← ht, ← hk, if_neg (by omega), if_neg (by omega), if_pos (by omega), if_pos (by omega)]
          refine wc_region ?_
          refine wl_y (y_build rfl (cells := zNodeV) (by kernel_rfl)) rfl ?_
          refine wl_y (y_move rfl) rfl ?_
          refine wl_ef (ef_storeP (o := 0) rfl rfl (by kernel_rfl) B2 (Nat.le_of_ble_eq_true rfl) (all_ones rfl)) rfl ?_
          rintro _ wS14_2 ⟨rfl, D, cg⟩
          have ex := Chs.one cg
          clear cg
          replace F := F.chs ex
          replace B4 := B4.chs ex
          replace H5 := H5.chs ex
          replace KL := KL.chs ex
          replace B2 := D; clear D
          replace B2 := B2.congr (cs' := zNodeV) rfl
          refine wl_y (y_assign rfl) rfl ?_
          refine wl_nil ?_
          refine wq_then_norm (hK14 ?_)
          refine wc_ret ?_
          refine wq_then_ret ?_
          refine hret rfl rfl B2 rfl ?_
          rw [e2]; exact ⟨zNodeV, rfl, NodeF.zero _ _, H5.mono (fun k hk => by simp [hk]) hgS, (F.drop (by omega)).drop (by omega)⟩
        · skip
          refine wc_skip ?_
          refine wq_then_norm (hK12 ?_)
          refine wc_seq ?_; intro K15 hK15
          obtain rfl : k = 1 := by omega
          have e2 : nodeX s = ((⟨1, (leafX t).1.1, Par.zero⟩, 0), (leafX t).2) := by unfold nodeX; rw [← ht, ← hk, if_neg (by omega), if_neg (by omega), if_pos (by omega), if_neg (by omega)]
          refine wc_region ?_
          refine wl_y (y_loadw rfl Tryz.underlying31 rfl (by kernel_rfl) B4) rfl ?_
          refine wl_ef (ef_storeP (o := 0) rfl rfl (by kernel_rfl) B2 (Nat.le_of_ble_eq_true rfl) (all_ones rfl)) rfl ?_
          rintro _ wS15_1 ⟨rfl, D, cg⟩
          have ex := Chs.one cg
          clear cg
          replace F := F.chs ex
          replace B4 := B4.chs ex
          replace H5 := H5.chs ex
          replace KL := KL.chs ex
          replace B2 := D; clear D
          replace B2 := B2.congr (cs' := nodeV 1 h0 h1 h2 (leafX t).1.1.src h4 h5 nilH nilH nilH) rfl
          refine wl_y (y_assign rfl) rfl ?_
          refine wl_nil ?_
          refine wq_then_norm (hK15 ?_)
          refine wc_ret ?_
          refine hret rfl rfl B2 rfl ?_
          rw [e2]; exact ⟨_, rfl, NodeF.ofLeaf (KL.out.mono (by omega)), H5.mono (fun k hk => by simp [hk]) hgS, (F.drop (by omega)).drop (by omega)⟩
      · skip
        refine wl_y (y_assign rfl) rfl ?_
        refine wl_nil ?_
        refine wq_then_norm (hK11 ?_)
        refine wc_false rfl rfl ?_
        refine wc_seq ?_; intro K16 hK16
        refine wc_region ?_
        refine wl_yask (y_eql rfl rfl) rfl (fun k2 => ?_) (fun k2 => ?_)
        · skip
          refine wl_y (y_assign rfl) rfl ?_
          refine wl_nil ?_
          refine wq_then_norm (hK16 ?_)
          refine wc_true rfl rfl ?_
          refine wc_region ?_
          refine wl_y (y_move rfl) rfl ?_
          have q10 := F.size; have q11 := B4.lt; have q12 := B2.lt; have q13 := H1.lt
          refine wl_call Tryz.func74 rfl rfl rfl (takeParent_any _ H1) rfl ?_
          rintro e w6 ⟨cs, rfl, HL, H5, ex⟩
          refine ⟨_, rfl, ?_⟩
          replace F := F.chs ex
          replace B2 := B2.chs ex
          replace B4 := B4.chs ex
          have KL := HL.kk (S := [gB4, gB2, g]) (by simp; omega)
          obtain ⟨h0, h1, h2, rfl, b0, b1, b2⟩ := HL
          refine wl_y (y_move rfl) rfl ?_
          refine wl_y (y_extract rfl rfl) rfl ?_
          refine wl_y (y_extract rfl rfl) rfl ?_
          refine wl_y (y_fieldAddr (o := 7) (s := 3) (off := 0) (o' := 7) rfl Tryz.underlying31 rfl (by kernel_rfl) rfl rfl) rfl ?_
          refine wl_ef (ef_storeP (o := 7) rfl rfl (by kernel_rfl) B4 (Nat.le_of_ble_eq_true rfl) (all_ones rfl)) rfl ?_
          rintro _ wS12_6 ⟨rfl, D, cg⟩
          have ex := Chs.one cg
          clear cg
          replace F := F.chs ex
          replace B2 := B2.chs ex
          replace H5 := H5.chs ex
          replace KL := KL.chs ex
          replace B4 := D; clear D
          replace B4 := B4.congr (cs' := nodeV k nilH nilH nilH 0 nilH nilH h0 h1 h2) rfl
          refine wl_y (y_assign rfl) rfl ?_
          refine wl_nil ?_
          refine wq_blk_norm ?_
          refine wq_then_norm (hK7 ?_)
          refine wc_seq ?_; intro K17 hK17
          refine wc_seq ?_; intro K18 hK18
          refine wc_region ?_
          refine wl_y (y_move rfl) rfl ?_
          refine wl_y (y_neq rfl rfl) rfl ?_
          refine wl_nil ?_
          refine wq_then_norm (hK18 ?_)
          refine wc_dec rfl (fun hc5 => ?_) (fun hc5 => ?_)
          · skip
            refine wc_seq ?_; intro K19 hK19
            have e2 : nodeX s = ((Node.zero, (parX t).1.2), (parX t).2) := by unfold nodeX; rw [← ht, ← hk, if_neg (by omega), if_neg (by omega), if_neg (by omega), if_pos (by omega), if_pos (by omega)]
            refine wc_region ?_
            refine wl_y (y_build rfl (cells := zNodeV) (by kernel_rfl)) rfl ?_
            refine wl_y (y_move rfl) rfl ?_
            refine wl_ef (ef_storeP (o := 0) rfl rfl (by kernel_rfl) B2 (Nat.le_of_ble_eq_true rfl) (all_ones rfl)) rfl ?_
            rintro _ wS14_2 ⟨rfl, D, cg⟩
            have ex := Chs.one cg
            clear cg
            replace F := F.chs ex
            replace B4 := B4.chs ex
            replace H5 := H5.chs ex
            replace KL := KL.chs ex
            replace B2 := D; clear D
            replace B2 := B2.congr (cs' := zNodeV) rfl
            refine wl_y (y_assign rfl) rfl ?_
            refine wl_nil ?_
            refine wq_then_norm (hK19 ?_)
            refine wc_ret ?_
            refine wq_then_ret ?_
            refine hret rfl rfl B2 rfl ?_
            rw [e2]; exact ⟨zNodeV, rfl, NodeF.zero _ _, H5.mono (fun k hk => by simp [hk]) hgS, (F.drop (by omega)).drop (by omega)⟩
          · skip
            refine wc_skip ?_
            refine wq_then_norm (hK17 ?_)
            refine wc_seq ?_; intro K20 hK20
            obtain rfl : k = 2 := by omega
            have e2 : nodeX s = ((⟨2, Leaf.zero, (parX t).1.1⟩, 0), (parX t).2) := by unfold nodeX; rw [← ht, ← hk, if_neg (by omega), if_neg (by omega), if_neg (by omega), if_pos (by omega), if_neg (by omega)]
            refine wc_region ?_
            refine wl_y (y_loadw rfl Tryz.underlying31 rfl (by kernel_rfl) B4) rfl ?_
            refine wl_ef (ef_storeP (o := 0) rfl rfl (by kernel_rfl) B2 (Nat.le_of_ble_eq_true rfl) (all_ones rfl)) rfl ?_
            rintro _ wS15_1 ⟨rfl, D, cg⟩
            have ex := Chs.one cg
            clear cg
            replace F := F.chs ex
            replace B4 := B4.chs ex
            replace H5 := H5.chs ex
            replace KL := KL.chs ex
            replace B2 := D; clear D
            replace B2 := B2.congr (cs' := nodeV 2 nilH nilH nilH 0 nilH nilH h0 h1 h2) rfl
            refine wl_y (y_assign rfl) rfl ?_
            refine wl_nil ?_
            refine wq_then_norm (hK20 ?_)
            refine wc_ret ?_
            refine hret rfl rfl B2 rfl ?_
            rw [e2]; exact ⟨_, rfl, NodeF.ofPar (KL.out.mono (by omega)), H5.mono (fun k hk => by simp [hk]) hgS, (F.drop (by omega)).drop (by omega)⟩
        · skip
          refine wl_y (y_assign rfl) rfl ?_
          refine wl_nil ?_
          refine wq_then_norm (hK16 ?_)
          refine wc_false rfl rfl ?_
          refine wc_region ?_
          refine wl_y (y_assign rfl) rfl ?_
          refine wl_nil ?_
          refine wq_blk_norm ?_
          refine wq_then_norm (hK7 ?_)
          refine wc_seq ?_; intro K21 hK21
          refine wc_seq ?_; intro K22 hK22
          refine wc_region ?_
          refine wl_y (y_move rfl) rfl ?_
          refine wl_y (y_neq rfl rfl) rfl ?_
          refine wl_nil ?_
          refine wq_then_norm (hK22 ?_)
          refine wc_yes rfl (by omega) ?_
          refine wc_seq ?_; intro K23 hK23
          have e2 : nodeX s = ((Node.zero, 3), t) := by unfold nodeX; rw [← ht, ← hk, if_neg (by omega), if_neg (by omega), if_neg (by omega), if_neg (by omega)]
          have H5 := H1
          refine wc_region ?_
          refine wl_y (y_build rfl (cells := zNodeV) (by kernel_rfl)) rfl ?_
          refine wl_y (y_move rfl) rfl ?_
          refine wl_ef (ef_storeP (o := 0) rfl rfl (by kernel_rfl) B2 (Nat.le_of_ble_eq_true rfl) (all_ones rfl)) rfl ?_
          rintro _ wS14_2 ⟨rfl, D, cg⟩
          have ex := Chs.one cg
          clear cg
          replace F := F.chs ex
          replace H1 := H1.chs ex
          replace B4 := B4.chs ex
          replace B2 := D; clear D
          replace B2 := B2.congr (cs' := zNodeV) rfl
          refine wl_y (y_assign rfl) rfl ?_
          refine wl_nil ?_
          refine wq_then_norm (hK23 ?_)
          refine wc_ret ?_
          refine wq_then_ret ?_
          refine hret rfl rfl B2 rfl ?_
          rw [e2]; exact ⟨zNodeV, rfl, NodeF.zero _ _, H1.mono (fun k hk => by simp [hk]) hgS, (F.drop (by omega)).drop (by omega)⟩
end Go.Proofs.YtopimmomkapdoaaGreat
