/- The reference of scalars: the order, modulo it. Signatures as the program makes them: the halves of a digest, the secret, the public key. Signatures as the program makes them: whether one holds; one made. Signatures: the layer's alive, plainly: a public key that is known. Signatures: the layer's alive; the reference's digest; the law SignHolds. -/
import Derived.Test.YtopimmomkapdoaaGreatScA
import Derived.Test.YtopimmomkapdoaaGreatFieldI
import Derived.Test.YtopimmomkapdoaaGreatFieldQ
import Derived.Test.YtopimmomkapdoaaGreatVc7
import Derived.Test.YtopimmomkapdoaaGreatOffA
import Derived.Test.YtopimmomkapdoaaGreatScC
import Derived.Test.YtopimmomkapdoaaGreatLongE
import Derived.Test.YtopimmomkapdoaaGreatLongQ
import Derived.Test.YtopimmomkapdoaaGreatBigC
namespace Go.Proofs.YtopimmomkapdoaaGreat
section
open Go.RowKit
namespace Sc
def ords : List UInt8 := [50, 55, 55, 52, 50, 51, 49, 55, 55, 55, 55, 51, 55, 50, 51, 53, 51, 53, 51, 53, 56, 53, 49, 57, 51, 55, 55, 57, 48, 56, 56, 51, 54, 52, 56, 52, 57, 51]
def dec : Nat → Nat
  | 0 => 0
  | i + 1 => dec i * 10 + ((ords.getD i 0).toNat - 48)
end Sc
attribute [local irreducible] Y Ef WL WC WK WQ WM OpM WN WF OpN
end
section
open Go.RowKit
attribute [local irreducible] Y Ef WL WC WK WQ WM OpM WN WF OpN
namespace Sg
/-- The digest of a seed, turned. -/
def turned (h : List UInt8) : List UInt8 := (h.set 0 (UInt8.ofNat ((h.getD 0 0).toNat / 8 * 8))).set 31 (UInt8.ofNat ((h.getD 31 0).toNat % 64 + 64))
def raw (seed : List UInt8) : Nat := Fp.num ((turned (Lng.sum seed)).take 32)
def sec (seed : List UInt8) : Nat := raw seed % Sc.L
def pre (seed : List UInt8) : List UInt8 := (Lng.sum seed).drop 32
/-- A digest as a scalar. -/
def dig (xs : List UInt8) : Nat := Fp.num (Lng.sum xs) % Sc.L
theorem dig_lt (xs : List UInt8) : dig xs < Sc.L := Nat.mod_lt _ Sc.L_pos
theorem dig_take (xs : List UInt8) : Fp.num ((Lng.sum xs).take 64) % Sc.L = dig xs := by rw [List.take_of_length_le (by rw [Lng.sum_length]; omega)]; rfl
def pub (seed : List UInt8) : List UInt8 := Ed.enc (Ed.mul (sec seed) Ed.B)
end Sg
end
section
open Go.RowKit
attribute [local irreducible] Y Ef WL WC WK WQ WM OpM WN WF OpN
theorem dec_onS (xs : List UInt8) : Ed.On ((Ed.dec xs).getD Ed.O) := dec_onD xs
namespace Sg
/-- The rule's two sides. -/
def left (s : List UInt8) : Fp.F × Fp.F := Ed.mul (Fp.num (s.drop 32)) Ed.B
def right (p t s : List UInt8) : Fp.F × Fp.F := Ed.add ((Ed.dec (s.take 32)).getD Ed.O) (Ed.mul (dig (s.take 32 ++ p ++ t)) ((Ed.dec p).getD Ed.O))
/-- Whether a signature's parts are whole. -/
def whole (p s : List UInt8) : Bool := (Ed.dec (s.take 32)).isSome && decide (Fp.num (s.drop 32) < Sc.L) && (Ed.dec p).isSome
def holds (p t s : List UInt8) : Bool := decide (s.length = 64) && whole p s && decide (left s = right p t s)
end Sg
set_option maxHeartbeats 1000000 in
theorem Holds_any (A : Option Addr) (n c : Nat) (ps : List UInt8) (B : Option Addr) (m d : Nat) (ts : List UInt8) (C : Option Addr) (k f : Nat) (ss : List UInt8) (w : World) (HA : Bs w A n ps) (HB : Bs w B m ts) (HC : Bs w C k ss) (hn : n ≤ 100000) (hm : m ≤ 100000) (hk : k ≤ 100000) (hf : k ≤ f) :
    Calls Tryz.prog 21 #[.slice A n c, .slice B m d, .slice C k f] w fun e w' => e = .returned (.bool (Sg.holds ps ts ss)) ∧ Ext w w' := by
  have E := Ext.refl w
  have hlA := HA.1; have hlB := HB.1; have hlC := HC.1
  refine vc_enter1 60 Tryz.func21 rfl rfl rfl rfl ?_
  intro Q hret
  refine wc_seq ?_; intro K1 hK1
  refine wc_region ?_
  refine wl_y (y_assign rfl) rfl ?_
  refine wl_nil ?_
  refine wq_then_norm (hK1 ?_)
  refine wc_seq ?_; intro K2 hK2
  refine wc_seq ?_; intro K3 hK3
  refine wc_region ?_
  refine wl_y (y_move rfl) rfl ?_
  refine wl_y (y_len_slice rfl Tryz.underlying22) rfl ?_
  refine wl_y (y_neq rfl rfl) rfl ?_
  refine wl_nil ?_
  refine wq_then_norm (hK3 ?_)
  refine wc_dec rfl (fun hc1 => ?_) (fun hc1 => ?_)
  · skip
    refine wc_seq ?_; intro K4 hK4
    refine wc_region ?_
    refine wl_y (y_assign rfl) rfl ?_
    refine wl_nil ?_
    refine wq_then_norm (hK4 ?_)
    refine wc_ret ?_
    refine wq_then_ret ?_
    refine hret rfl ?_
    exact ⟨by unfold Sg.holds; rw [decide_eq_false (show ¬ ss.length = 64 by omega)]; rfl, E⟩
  · skip
    refine wc_skip ?_
    refine wq_then_norm (hK2 ?_)
    refine wc_seq ?_; intro K5 hK5
    have h64 : ss.length = 64 := by omega
    have hk64 : k = 64 := by omega
    subst hk64
    have HL := HC.take (k := 32) (by omega)
    have HH := HC.cutA (c := f) (j := 32) (by omega) (by omega)
    have hdl : (ss.drop 32).length = 32 := by rw [List.length_drop]; omega
    refine wc_region ?_
    refine wl_y (y_move rfl) rfl ?_
    refine wl_y (y_cuth (s := 1) rfl rfl Tryz.underlying22 (by kernel_rfl) (j := 32) rfl (by omega)) rfl ?_
    refine wl_call Tryz.func41 rfl rfl rfl (Pof_any C 32 f (ss.take 32) _ (HL.ext E)) rfl ?_
    rintro e w1 ⟨c7, rfl, P7, ex⟩
    refine ⟨_, rfl, ?_⟩
    replace E := E.ext ex
    have o7 := dec_onS (ss.take 32)
    refine wl_y (y_move rfl) rfl ?_
    refine wl_y (y_extract rfl rfl) rfl ?_
    refine wl_y (y_extract rfl rfl) rfl ?_
    have hz3 := E.size
    refine wl_ef (ef_alloc (Z := pc zf zf zf zf false) (by kernel_rfl)) rfl ?_
    rintro _ w2 ⟨g7, rfl, B7, hg7, ex⟩
    replace E := E.ext ex
    skip
    refine wl_ef (ef_storeW rfl rfl (by rw [P7.size]; kernel_rfl) B7 (by rw [pc_size, P7.size]) P7.one) rfl ?_
    rintro _ w3 ⟨rfl, D7, cg⟩
    replace E := E.chg cg (by omega); replace B7 := D7
    refine wl_y (y_assign rfl) rfl ?_
    refine wl_nil ?_
    refine wq_then_norm (hK5 ?_)
    refine wc_seq ?_; intro K6 hK6
    refine wc_region ?_
    refine wl_y (y_move rfl) rfl ?_
    refine wl_y (y_cutl (s := 1) rfl rfl Tryz.underlying22 (by kernel_rfl) (j := 32) rfl (by omega)) rfl ?_
    refine wl_call Tryz.func42 rfl rfl rfl (Sexact_any (cutA C f 32 1) (64 - 32) (f - 32) (ss.drop 32) _ (HH.ext E) (by omega)) rfl ?_
    rintro e w4 ⟨v, rfl, hv, hvL, ex⟩
    refine ⟨_, rfl, ?_⟩
    replace E := E.ext ex
    replace B7 := B7.ext ex
    skip
    refine wl_y (y_move rfl) rfl ?_
    refine wl_y (y_extract rfl rfl) rfl ?_
    refine wl_y (y_extract rfl rfl) rfl ?_
    have hz4 := E.size; have hl47 := B7.lt
    refine wl_ef (ef_alloc (Z := ws z4) (by kernel_rfl)) rfl ?_
    rintro _ w5 ⟨g9, rfl, B9, hg9, ex⟩
    replace E := E.ext ex
    replace B7 := B7.ext ex
    skip
    refine wl_ef (ef_storeW rfl rfl (by rw [ws_size]; kernel_rfl) B9 (by rw [ws_size, ws_size]) (ws_one _)) rfl ?_
    rintro _ w6 ⟨rfl, D9, cg⟩
    replace E := E.chg cg (by omega); replace B7 := B7.chg cg (by omega); replace B9 := D9
    refine wl_y (y_assign rfl) rfl ?_
    refine wl_nil ?_
    refine wq_then_norm (hK6 ?_)
    refine wc_seq ?_; intro K7 hK7
    refine wc_region ?_
    refine wl_y (y_move rfl) rfl ?_
    refine wl_call Tryz.func41 rfl rfl rfl (Pof_any A n c ps _ (HA.ext E)) rfl ?_
    rintro e w7 ⟨c11, rfl, P11, ex⟩
    refine ⟨_, rfl, ?_⟩
    replace E := E.ext ex
    replace B7 := B7.ext ex
    replace B9 := B9.ext ex
    have o11 := dec_onS ps
    refine wl_y (y_move rfl) rfl ?_
    refine wl_y (y_extract rfl rfl) rfl ?_
    refine wl_y (y_extract rfl rfl) rfl ?_
    have hz5 := E.size; have hl57 := B7.lt; have hl59 := B9.lt
    refine wl_ef (ef_alloc (Z := pc zf zf zf zf false) (by kernel_rfl)) rfl ?_
    rintro _ w8 ⟨g11, rfl, B11, hg11, ex⟩
    replace E := E.ext ex
    replace B7 := B7.ext ex
    replace B9 := B9.ext ex
    skip
    refine wl_ef (ef_storeW rfl rfl (by rw [P11.size]; kernel_rfl) B11 (by rw [pc_size, P11.size]) P11.one) rfl ?_
    rintro _ w9 ⟨rfl, D11, cg⟩
    replace E := E.chg cg (by omega); replace B7 := B7.chg cg (by omega); replace B9 := B9.chg cg (by omega); replace B11 := D11
    refine wl_y (y_assign rfl) rfl ?_
    refine wl_nil ?_
    refine wq_then_norm (hK7 ?_)
    refine wc_seq ?_; intro K8 hK8
    refine wc_seq ?_; intro K9 hK9
    refine wc_region ?_
    refine wl_y (y_move rfl) rfl ?_
    refine wl_y (y_not rfl) rfl ?_
    refine wl_yaskb (y_move rfl) rfl (fun h1 => ?_) (fun h1 => ?_)
    · skip
      refine wl_gno 36 rfl rfl rfl rfl ?_
      refine wl_gno 36 rfl rfl rfl rfl ?_
      refine wl_y (y_pickt rfl rfl) rfl ?_
      refine wl_y (y_move rfl) rfl ?_
      refine wl_gno 40 rfl rfl rfl rfl ?_
      refine wl_gno 40 rfl rfl rfl rfl ?_
      refine wl_y (y_pickt rfl rfl) rfl ?_
      refine wl_nil ?_
      refine wq_then_norm (hK9 ?_)
      refine wc_true rfl rfl ?_
      refine wc_seq ?_; intro K10 hK10
      refine wc_region ?_
      refine wl_y (y_assign rfl) rfl ?_
      refine wl_nil ?_
      refine wq_then_norm (hK10 ?_)
      refine wc_ret ?_
      refine wq_then_ret ?_
      refine hret rfl ?_
      exact ⟨by unfold Sg.holds Sg.whole; rw [show (Ed.dec (ss.take 32)).isSome = false by simpa using h1]; simp, E⟩
    · skip
      refine wl_gy 36 rfl rfl (y_move rfl) rfl ?_
      refine wl_gy 36 rfl rfl (y_not rfl) rfl ?_
      refine wl_y (y_pickf rfl rfl) rfl ?_
      refine wl_yaskb (y_move rfl) rfl (fun h2 => ?_) (fun h2 => ?_)
      · skip
        refine wl_gno 40 rfl rfl rfl rfl ?_
        refine wl_gno 40 rfl rfl rfl rfl ?_
        refine wl_y (y_pickt rfl rfl) rfl ?_
        refine wl_nil ?_
        refine wq_then_norm (hK9 ?_)
        refine wc_true rfl rfl ?_
        refine wc_seq ?_; intro K11 hK11
        refine wc_region ?_
        refine wl_y (y_assign rfl) rfl ?_
        refine wl_nil ?_
        refine wq_then_norm (hK11 ?_)
        refine wc_ret ?_
        refine wq_then_ret ?_
        refine hret rfl ?_
        exact ⟨by unfold Sg.holds Sg.whole; rw [decide_eq_false (show ¬ Fp.num (ss.drop 32) < Sc.L by simpa [hdl] using h2)]; simp, E⟩
      · skip
        refine wl_gy 40 rfl rfl (y_move rfl) rfl ?_
        refine wl_gy 40 rfl rfl (y_not rfl) rfl ?_
        refine wl_y (y_pickf rfl rfl) rfl ?_
        refine wl_nil ?_
        refine wq_then_norm (hK9 ?_)
        refine wc_cond rfl (fun hc2 => ?_) (fun hc2 => ?_)
        · skip
          refine wc_seq ?_; intro K12 hK12
          refine wc_region ?_
          refine wl_y (y_assign rfl) rfl ?_
          refine wl_nil ?_
          refine wq_then_norm (hK12 ?_)
          refine wc_ret ?_
          refine wq_then_ret ?_
          refine hret rfl ?_
          exact ⟨by unfold Sg.holds Sg.whole; rw [show (Ed.dec ps).isSome = false by simpa using hc2]; simp, E⟩
        · skip
          refine wc_skip ?_
          refine wq_then_norm (hK8 ?_)
          refine wc_seq ?_; intro K13 hK13
          have w1' : (Ed.dec (ss.take 32)).isSome = true := by simpa using h1
          have w2' : Fp.num (ss.drop 32) < Sc.L := by simpa [hdl] using h2
          have w3' : (Ed.dec ps).isSome = true := by simpa using hc2
          have hv' := hv ⟨hdl, w2'⟩
          subst hv'
          refine wc_region ?_
          refine wl_y (y_move rfl) rfl ?_
          refine wl_y (y_cuth (s := 1) rfl rfl Tryz.underlying22 (by kernel_rfl) (j := 32) rfl (by omega)) rfl ?_
          refine wl_y (y_move rfl) rfl ?_
          refine wl_y (y_move rfl) rfl ?_
          refine wl_ef (ef_lit (z := .slice none 0 0) Tryz.underlying103 (by kernel_rfl) rfl rfl rfl rfl rfl) rfl ?_
          rintro _ w10 ⟨g10, rfl, B10, hg10, ex⟩
          replace E := E.ext ex
          replace B7 := B7.ext ex
          replace B9 := B9.ext ex
          replace B11 := B11.ext ex
          have S10 := bss_three B10 (HL.ext E) (HA.ext E) (HB.ext E)
          refine wl_call Tryz.func44 rfl rfl rfl (lof_any _ 3 3 _ _ S10 (by omega) (by simp; omega)) rfl ?_
          rintro e w11 ⟨g12, rfl, hg12, B12, ex⟩
          refine ⟨_, rfl, ?_⟩
          replace E := E.ext ex
          replace B7 := B7.ext ex
          replace B9 := B9.ext ex
          replace B11 := B11.ext ex
          rw [show [ss.take 32, ps, ts].flatten = ss.take 32 ++ ps ++ ts by simp] at B12
          refine wl_call Tryz.func43 rfl rfl rfl (sof_any _ 64 64 _ _ (bs_blk' B12 (Lng.sum_length _)) (by omega)) rfl ?_
          rintro e w12 ⟨rfl, ex⟩
          refine ⟨_, rfl, ?_⟩
          replace E := E.ext ex
          replace B7 := B7.ext ex
          replace B9 := B9.ext ex
          replace B11 := B11.ext ex
          rw [Sg.dig_take]
          have hz8 := E.size; have hl87 := B7.lt; have hl89 := B9.lt; have hl811 := B11.lt
          refine wl_ef (ef_alloc (Z := ws z4) (by kernel_rfl)) rfl ?_
          rintro _ w13 ⟨g13, rfl, B13, hg13, ex⟩
          replace E := E.ext ex
          replace B7 := B7.ext ex
          replace B9 := B9.ext ex
          replace B11 := B11.ext ex
          skip
          refine wl_ef (ef_storeW rfl rfl (by rw [ws_size]; kernel_rfl) B13 (by rw [ws_size, ws_size]) (ws_one _)) rfl ?_
          rintro _ w14 ⟨rfl, D13, cg⟩
          replace E := E.chg cg (by omega); replace B7 := B7.chg cg (by omega); replace B9 := B9.chg cg (by omega); replace B11 := B11.chg cg (by omega); replace B13 := D13
          refine wl_nil ?_
          refine wq_then_norm (hK13 ?_)
          refine wc_seq ?_; intro K14 hK14
          refine wc_draw (by kernel_rfl) 10 rfl ?_; intro wd9 ex hd9
          replace E := E.ext ex
          replace B7 := B7.ext ex
          replace B9 := B9.ext ex
          replace B11 := B11.ext ex
          replace B13 := B13.ext ex
          refine wm_y 1 rfl (by kernel_rfl) ((y_loadw rfl Tryz.underlying70 rfl (by rw [ws_size]; kernel_rfl) B9)) rfl ?_
          refine wm_y 3 rfl (by kernel_rfl) (y_qq rfl P7 B7) rfl ?_
          refine wm_y 4 rfl (by kernel_rfl) (y_qq rfl P11 B11) rfl ?_
          refine wm_y 5 rfl (by kernel_rfl) ((y_loadw rfl Tryz.underlying70 rfl (by rw [ws_size]; kernel_rfl) B13)) rfl ?_
          refine wm_one 0 (by kernel_rfl) ?_; refine om_call rfl Tryz.func29 rfl rfl rfl (pbase_any _) rfl ?_
          rintro e wa1 ⟨ca1, rfl, PB, ex⟩
          refine ⟨_, rfl, .inr ex, ?_⟩
          replace E := E.ext ex
          replace B7 := B7.ext ex
          replace B9 := B9.ext ex
          replace B11 := B11.ext ex
          replace B13 := B13.ext ex
          skip
          refine wm_one 2 (by kernel_rfl) ?_; refine om_call rfl Tryz.func30 rfl rfl rfl (Pmul_any PB.pp Ed.on_B (Fp.num (ss.drop 32)) w2' _) rfl ?_
          rintro e wa2 ⟨ca2, rfl, PL, ex⟩
          refine ⟨_, rfl, .inr ex, ?_⟩
          replace E := E.ext ex
          replace B7 := B7.ext ex
          replace B9 := B9.ext ex
          replace B11 := B11.ext ex
          replace B13 := B13.ext ex
          skip
          refine wm_one 6 (by kernel_rfl) ?_; refine om_call rfl Tryz.func30 rfl rfl rfl (Pmul_any P11 o11 (Sg.dig (ss.take 32 ++ ps ++ ts)) (Sg.dig_lt _) _) rfl ?_
          rintro e wa3 ⟨ca3, rfl, PM, ex⟩
          refine ⟨_, rfl, .inr ex, ?_⟩
          replace E := E.ext ex
          replace B7 := B7.ext ex
          replace B9 := B9.ext ex
          replace B11 := B11.ext ex
          replace B13 := B13.ext ex
          skip
          refine wm_one 7 (by kernel_rfl) ?_; refine om_call rfl Tryz.func46 rfl rfl rfl (Padd_any P7 PM.pp o7 (Ed.on_mul o11 _) _) rfl ?_
          rintro e wa4 ⟨ca4, rfl, PR, ex⟩
          refine ⟨_, rfl, .inr ex, ?_⟩
          replace E := E.ext ex
          replace B7 := B7.ext ex
          replace B9 := B9.ext ex
          replace B11 := B11.ext ex
          replace B13 := B13.ext ex
          skip
          refine wm_one 8 (by kernel_rfl) ?_; refine om_call rfl Tryz.func45 rfl rfl rfl (Psame_any PL.pp PR.pp _) rfl ?_
          rintro e wa5 ⟨rfl, ex⟩
          refine ⟨_, rfl, .inr ex, ?_⟩
          replace E := E.ext ex
          replace B7 := B7.ext ex
          replace B9 := B9.ext ex
          replace B11 := B11.ext ex
          replace B13 := B13.ext ex
          skip
          refine wm_y 9 rfl (by kernel_rfl) (y_assign rfl) rfl ?_
          refine wm_done (by kernel_rfl) ?_
          refine wq_nop ?_
          refine wq_then_norm (hK14 ?_)
          refine wc_ret ?_
          refine hret rfl ?_
          exact ⟨by unfold Sg.holds Sg.whole; rw [decide_eq_true h64, w1', decide_eq_true w2', w3']; rfl, E⟩
end
section
namespace Sg
def n0 : Nat := 3140620980319341722849076354004524857726602937622481303882784251885505225391
end Sg
end
section
open Go.RowKit
attribute [local irreducible] Y Ef WL WC WK WQ WM OpM WN WF OpN
theorem le_num32 {n : Nat} (h : n < Sc.L) : Fp.num (Fp.le 32 n) = n := Fp.le_num 32 n (Nat.lt_trans h (by decide +kernel))
end
end Go.Proofs.YtopimmomkapdoaaGreat
