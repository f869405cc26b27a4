/- What is sealed to a pair is opened by its private key: the law HpkeBack. No conditions: contracts of functions. -/
import Derived.Test.YtjllhimhiekchaaHkG
import Derived.Test.YtjllhimhiekchaaEdH
namespace Go.Proofs.Ytjllhimhiekchaa
open Go.RowKit
attribute [local irreducible] Y Ef WL WC WK WQ WM OpM WN WF OpN WJ OpJ WR WLr
open Ae Gm Hk
theorem num_zero : ∀ l : List UInt8, (∀ x ∈ l, x = 0) → Fp.num l = 0
  | [], _ => rfl
  | x :: l, h => by
    have h1 := h x (List.mem_cons_self ..)
    have h2 := num_zero l (fun y hy => h y (List.mem_cons_of_mem _ hy))
    show x.toNat + 256 * Fp.num l = 0
    rw [h1, h2]; rfl
theorem le_any {v : Nat} (hv : v < 256 ^ 32) (h : v ≠ 0) : (Fp.le 32 v).any (fun x => decide (x ≠ 0)) = true := by
  refine Classical.byContradiction fun hc => h ?_
  rw [← Fp.le_num 32 v hv]
  refine num_zero _ fun x hx => Classical.byContradiction fun hx0 => hc ?_
  exact List.any_eq_true.2 ⟨x, hx, decide_eq_true hx0⟩
theorem val_lt (u : Fp.F) : u.val < 256 ^ 32 := Nat.lt_trans u.isLt (by unfold Fp.p; decide +kernel)
theorem val_ne {u : Fp.F} (h : u ≠ 0) : u.val ≠ 0 := fun h0 => h (Fin.ext (by rw [h0]; rfl))
theorem pub_eq (xs : List UInt8) : pub xs = Fp.le 32 (dhMul (Fp.num (clampB (priv xs))) (Fp.of 9)).val := by
  unfold pub; rw [nine_val, dhM_ok (priv_length xs)]
/-- Two pairs' secret. -/
def both (xs ys : List UInt8) : List UInt8 := Fp.le 32 (dhMul (Fp.num (clampB (priv ys))) (dhMul (Fp.num (clampB (priv xs))) (Fp.of 9))).val
theorem dhS_ok {xs : List UInt8} {u : Fp.F} (hx : xs.length = 32) (hne : dhMul (Fp.num (clampB xs)) u ≠ 0) : dhS xs (Fp.le 32 u.val) = (Fp.le 32 (dhMul (Fp.num (clampB xs)) u).val, 0) := by
  have h1 := dhM_ok (u := u) hx
  have h2 := le_any (val_lt _) (val_ne hne)
  unfold dhS
  rw [h1]
  simp only
  rw [if_neg (by simp), if_pos h2]
theorem one_side (xs ys : List UInt8) : dhS (priv ys) (pub xs) = (both xs ys, 0) := by
  rw [pub_eq]; exact dhS_ok (priv_length ys) (Ed.secret_ne _ _)
theorem other_side (xs ys : List UInt8) : dhS (priv xs) (pub ys) = (both xs ys, 0) := by
  rw [one_side ys xs]
  unfold both
  rw [Ed.one_secret _ _ (Ed.clamp_lt _) (Ed.clamp_lt _) (Ed.clamp_even _) (Ed.clamp_even _)]
def sec2 (xs ys : List UInt8) : List UInt8 := shd (both xs ys) (pub ys) (pub xs)
theorem wrp_both (xs ys : List UInt8) : wrp (pub xs) ys = (sec2 xs ys, pub ys, 0) := by
  unfold wrp sec2
  rw [one_side, if_neg (by simp)]
theorem unw_both (xs ys : List UInt8) : unw (priv xs) (pub ys) = (sec2 xs ys, 0) := by
  unfold unw sec2
  rw [other_side, if_neg (by simp)]
  rfl
theorem sec2_length (xs ys : List UInt8) : (sec2 xs ys).length = 32 := exp_length _ _ _ _ _
theorem sl_both (xs ys is ts ms : List UInt8) : sl (pub xs) ys is ts ms = (pub ys, seal' (lkey (sec2 xs ys) is) (lnon (sec2 xs ys) is) ts ms, 0) := by
  unfold sl; rw [wrp_both, if_neg (by simp)]
theorem op_both (xs ys is ts ms : List UInt8) : op (priv xs) (pub ys) is (seal' (lkey (sec2 xs ys) is) (lnon (sec2 xs ys) is) ts ms) ms = (ts, 0) := by
  unfold op; rw [unw_both, if_neg (by simp), opn_seal]; rfl
theorem hpkeBack_law (A : Option Addr) (n c : Nat) (xs : List UInt8) (B : Option Addr) (m d : Nat) (ys : List UInt8) (lb : ByteArray) (C : Option Addr) (k q : Nat) (cs : List UInt8) (D : Option Addr) (z v : Nat) (ts : List UInt8) (w : World)
    (HA : Bs w A n xs) (_hn : n ≤ maxLen) (HB : Bs w B m ys) (_hm : m ≤ maxLen) (_hlb : lb.size ≤ maxLen) (HC : Bs w C k cs) (_hk : k ≤ maxLen) (HD : Bs w D z ts) (_hz : z ≤ maxLen) :
    Calls Try.prog 8 #[.slice A n c, .slice B m d, .string lb, .slice C k q, .slice D z v] w fun e w' => e = .returned (.bool true) ∧ Below w.heap.size w w' := by
  have E := Ext.refl w
  have htl := HD.1
  obtain ⟨is, his⟩ : ∃ is, is = info lb cs := ⟨_, rfl⟩
  have hsl := sl_both xs ys is ts []
  have hop := op_both xs ys is ts []
  have hun := unw_both xs ys
  have hwr := wrp_both xs ys
  have hpl := pub_length ys
  have hs2 := sec2_length xs ys
  obtain ⟨K, hK⟩ : ∃ K, K = seal' (lkey (sec2 xs ys) is) (lnon (sec2 xs ys) is) ts [] := ⟨_, rfl⟩
  have hKl : K.length = z + 16 := by rw [hK, seal_length, htl]
  rw [← hK] at hsl hop
  obtain ⟨S, hS⟩ : ∃ S, S = sec2 xs ys := ⟨_, rfl⟩
  rw [← hS] at hun hwr hs2
  refine vc_enter1 131 Try.func8 rfl rfl rfl rfl ?_
  intro Q hret
  refine wc_seq ?_; intro K1 hK1
  refine wc_region ?_
  refine wl_y (y_assign rfl) rfl ?_
  refine wl_nil ?_
  refine wq_then_norm (hK1 ?_)
  refine wc_seq ?_; intro K2 hK2
  refine wc_seq ?_; intro K3 hK3
  refine wc_region ?_
  refine wl_call Try.func9 rfl rfl rfl (alive13_any _) rfl ?_
  rintro e w1 ⟨rfl, ex⟩
  refine ⟨_, rfl, ?_⟩
  replace HA := HA.ext ex
  replace HB := HB.ext ex
  replace HC := HC.ext ex
  replace HD := HD.ext ex
  replace E := E.ext ex
  refine wl_y (y_not rfl) rfl ?_
  refine wl_nil ?_
  refine wq_then_norm (hK3 ?_)
  refine wc_false rfl rfl ?_
  refine wc_skip ?_
  refine wq_then_norm (hK2 ?_)
  refine wc_seq ?_; intro K4 hK4
  refine wc_seq ?_; intro K5 hK5
  refine wc_region ?_
  refine wl_y (y_move rfl) rfl ?_
  refine wl_y (y_len_slice rfl Try.underlying22) rfl ?_
  refine wl_yask (y_gtr rfl rfl) rfl (fun q0 => ?_) (fun q0 => ?_)
  · skip
    refine wl_y (y_move rfl) rfl ?_
    refine wl_gno 29 rfl rfl rfl rfl ?_
    refine wl_gno 29 rfl rfl rfl rfl ?_
    refine wl_gno 29 rfl rfl rfl rfl ?_
    refine wl_y (y_pickt rfl rfl) rfl ?_
    refine wl_y (y_move rfl) rfl ?_
    refine wl_gno 34 rfl rfl rfl rfl ?_
    refine wl_gno 34 rfl rfl rfl rfl ?_
    refine wl_gno 34 rfl rfl rfl rfl ?_
    refine wl_y (y_pickt rfl rfl) rfl ?_
    refine wl_y (y_move rfl) rfl ?_
    refine wl_gno 39 rfl rfl rfl rfl ?_
    refine wl_gno 39 rfl rfl rfl rfl ?_
    refine wl_gno 39 rfl rfl rfl rfl ?_
    refine wl_y (y_pickt rfl rfl) rfl ?_
    refine wl_y (y_move rfl) rfl ?_
    refine wl_gno 44 rfl rfl rfl rfl ?_
    refine wl_gno 44 rfl rfl rfl rfl ?_
    refine wl_gno 44 rfl rfl rfl rfl ?_
    refine wl_y (y_pickt rfl rfl) rfl ?_
    refine wl_nil ?_
    refine wq_then_norm (hK5 ?_)
    refine wc_true rfl rfl ?_
    refine wc_seq ?_; intro K6 hK6
    refine wc_region ?_
    refine wl_y (y_assign rfl) rfl ?_
    refine wl_nil ?_
    refine wq_then_norm (hK6 ?_)
    refine wc_ret ?_
    refine wq_then_ret ?_
    refine hret rfl ?_
    exact ⟨rfl, E⟩
  · skip
    refine wl_y (y_move rfl) rfl ?_
    refine wl_gy 29 rfl rfl (y_move rfl) rfl ?_
    refine wl_gy 29 rfl rfl (y_len_slice rfl Try.underlying22) rfl ?_
    refine wl_gyask 29 rfl rfl (y_gtr rfl rfl) rfl (fun q1 => ?_) (fun q1 => ?_)
    · skip
      refine wl_y (y_pickf rfl rfl) rfl ?_
      refine wl_y (y_move rfl) rfl ?_
      refine wl_gno 34 rfl rfl rfl rfl ?_
      refine wl_gno 34 rfl rfl rfl rfl ?_
      refine wl_gno 34 rfl rfl rfl rfl ?_
      refine wl_y (y_pickt rfl rfl) rfl ?_
      refine wl_y (y_move rfl) rfl ?_
      refine wl_gno 39 rfl rfl rfl rfl ?_
      refine wl_gno 39 rfl rfl rfl rfl ?_
      refine wl_gno 39 rfl rfl rfl rfl ?_
      refine wl_y (y_pickt rfl rfl) rfl ?_
      refine wl_y (y_move rfl) rfl ?_
      refine wl_gno 44 rfl rfl rfl rfl ?_
      refine wl_gno 44 rfl rfl rfl rfl ?_
      refine wl_gno 44 rfl rfl rfl rfl ?_
      refine wl_y (y_pickt rfl rfl) rfl ?_
      refine wl_nil ?_
      refine wq_then_norm (hK5 ?_)
      refine wc_true rfl rfl ?_
      refine wc_seq ?_; intro K7 hK7
      refine wc_region ?_
      refine wl_y (y_assign rfl) rfl ?_
      refine wl_nil ?_
      refine wq_then_norm (hK7 ?_)
      refine wc_ret ?_
      refine wq_then_ret ?_
      refine hret rfl ?_
      exact ⟨rfl, E⟩
    · skip
      refine wl_y (y_pickf rfl rfl) rfl ?_
      refine wl_y (y_move rfl) rfl ?_
      refine wl_gy 34 rfl rfl (y_move rfl) rfl ?_
      refine wl_gy 34 rfl rfl (y_len_str rfl Try.underlying9) rfl ?_
      refine wl_gyask 34 rfl rfl (y_gtr rfl rfl) rfl (fun q2 => ?_) (fun q2 => ?_)
      · skip
        refine wl_y (y_pickf rfl rfl) rfl ?_
        refine wl_y (y_move rfl) rfl ?_
        refine wl_gno 39 rfl rfl rfl rfl ?_
        refine wl_gno 39 rfl rfl rfl rfl ?_
        refine wl_gno 39 rfl rfl rfl rfl ?_
        refine wl_y (y_pickt rfl rfl) rfl ?_
        refine wl_y (y_move rfl) rfl ?_
        refine wl_gno 44 rfl rfl rfl rfl ?_
        refine wl_gno 44 rfl rfl rfl rfl ?_
        refine wl_gno 44 rfl rfl rfl rfl ?_
        refine wl_y (y_pickt rfl rfl) rfl ?_
        refine wl_nil ?_
        refine wq_then_norm (hK5 ?_)
        refine wc_true rfl rfl ?_
        refine wc_seq ?_; intro K8 hK8
        refine wc_region ?_
        refine wl_y (y_assign rfl) rfl ?_
        refine wl_nil ?_
        refine wq_then_norm (hK8 ?_)
        refine wc_ret ?_
        refine wq_then_ret ?_
        refine hret rfl ?_
        exact ⟨rfl, E⟩
      · skip
        refine wl_y (y_pickf rfl rfl) rfl ?_
        refine wl_y (y_move rfl) rfl ?_
        refine wl_gy 39 rfl rfl (y_move rfl) rfl ?_
        refine wl_gy 39 rfl rfl (y_len_slice rfl Try.underlying22) rfl ?_
        refine wl_gyask 39 rfl rfl (y_gtr rfl rfl) rfl (fun q3 => ?_) (fun q3 => ?_)
        · skip
          refine wl_y (y_pickf rfl rfl) rfl ?_
          refine wl_y (y_move rfl) rfl ?_
          refine wl_gno 44 rfl rfl rfl rfl ?_
          refine wl_gno 44 rfl rfl rfl rfl ?_
          refine wl_gno 44 rfl rfl rfl rfl ?_
          refine wl_y (y_pickt rfl rfl) rfl ?_
          refine wl_nil ?_
          refine wq_then_norm (hK5 ?_)
          refine wc_true rfl rfl ?_
          refine wc_seq ?_; intro K9 hK9
          refine wc_region ?_
          refine wl_y (y_assign rfl) rfl ?_
          refine wl_nil ?_
          refine wq_then_norm (hK9 ?_)
          refine wc_ret ?_
          refine wq_then_ret ?_
          refine hret rfl ?_
          exact ⟨rfl, E⟩
        · skip
          refine wl_y (y_pickf rfl rfl) rfl ?_
          refine wl_y (y_move rfl) rfl ?_
          refine wl_gy 44 rfl rfl (y_move rfl) rfl ?_
          refine wl_gy 44 rfl rfl (y_len_slice rfl Try.underlying22) rfl ?_
          refine wl_gyask 44 rfl rfl (y_gtr rfl rfl) rfl (fun q4 => ?_) (fun q4 => ?_)
          · skip
            refine wl_y (y_pickf rfl rfl) rfl ?_
            refine wl_nil ?_
            refine wq_then_norm (hK5 ?_)
            refine wc_true rfl rfl ?_
            refine wc_seq ?_; intro K10 hK10
            refine wc_region ?_
            refine wl_y (y_assign rfl) rfl ?_
            refine wl_nil ?_
            refine wq_then_norm (hK10 ?_)
            refine wc_ret ?_
            refine wq_then_ret ?_
            refine hret rfl ?_
            exact ⟨rfl, E⟩
          · skip
            refine wl_y (y_pickf rfl rfl) rfl ?_
            refine wl_nil ?_
            refine wq_then_norm (hK5 ?_)
            refine wc_false rfl rfl ?_
            refine wc_skip ?_
            refine wq_then_norm (hK4 ?_)
            refine wc_seq ?_; intro K11 hK11
            refine wc_region ?_
            refine wl_ef (ef_lit (z := .int .u8 0) Try.underlying22 (by kernel_rfl) rfl rfl rfl rfl rfl) rfl ?_
            rintro _ w2 ⟨g2, rfl, D2, hg2, ex⟩
            have R2 : Row w2 w1.heap.size 5 (some ⟨g2, 0, none⟩) 0 0 [] := Row.new D2 hg2 rfl (by unfold maxLen; omega); have X2 : Ext w1 w2 := ex
            refine wl_y (y_move rfl) rfl ?_
            refine wl_ef (ef_app rfl rfl eltB R2 (HD.ext X2).2 (by rw [List.length_map, HD.1]) (by intro u hu; exact bv_one u hu) (by omega) (by omega) X2.size) rfl ?_
            rintro _ w3 ⟨A3, c3, rfl, R3, be, gr, hl⟩
            have X3 := X2.trans be; rw [List.nil_append] at R3; replace HA := HA.ext X3; replace HB := HB.ext X3; replace HC := HC.ext X3; replace HD := HD.ext X3; replace E := E.ext X3; have H3 : Bs w3 A3 (0 + z) ts := R3.bs; rw [Nat.zero_add] at H3 ⊢
            refine wl_y (y_assign rfl) rfl ?_
            refine wl_nil ?_
            refine wq_then_norm (hK11 ?_)
            refine wc_seq ?_; intro K12 hK12
            refine wc_region ?_
            refine wl_y (y_move rfl) rfl ?_
            refine wl_call Try.func10 rfl rfl rfl (hpair_any A n c xs _ HA (by omega)) rfl ?_
            rintro e w4 ⟨A4, c4, A5, c5, rfl, H4, H5, hc4, ex⟩
            refine ⟨_, rfl, ?_⟩
            replace HD := HD.ext ex
            replace E := E.ext ex
            replace H3 := H3.ext ex
            replace HA := HA.ext ex
            replace HB := HB.ext ex
            replace HC := HC.ext ex
            skip
            refine wl_y (y_move rfl) rfl ?_
            refine wl_y (y_extract rfl rfl) rfl ?_
            refine wl_y (y_extract rfl rfl) rfl ?_
            refine wl_y (y_assign rfl) rfl ?_
            refine wl_y (y_assign rfl) rfl ?_
            refine wl_nil ?_
            refine wq_then_norm (hK12 ?_)
            refine wc_seq ?_; intro K13 hK13
            refine wc_region ?_
            refine wl_y (y_move rfl) rfl ?_
            refine wl_y (y_move rfl) rfl ?_
            refine wl_y (y_move rfl) rfl ?_
            refine wl_y (y_move rfl) rfl ?_
            refine wl_y (y_move rfl) rfl ?_
            refine wl_call Try.func24 rfl rfl rfl (hseall_any A5 B C D lb 32 c5 m d k q z v (pub xs) ys cs ts _ (by omega) H5 (by omega) HB (by omega) HC (by omega) HD (by omega)) rfl ?_
            rintro e w5 ⟨A6, k6, c6, A7, k7, c7, rfl, H6, H7, hk6, hk7, hc7, ex⟩
            refine ⟨_, rfl, ?_⟩
            replace HD := HD.ext ex
            replace E := E.ext ex
            replace H3 := H3.ext ex
            replace HA := HA.ext ex
            replace HB := HB.ext ex
            replace HC := HC.ext ex
            replace H4 := H4.ext ex
            replace H5 := H5.ext ex
            have f5 : (sl (pub xs) ys (info lb cs) ts []).2.2 = 0 := (by rw [← his, hsl]); rw [← his, show (sl (pub xs) ys is ts []).1 = pub ys from by rw [hsl]] at H6; rw [← his, show (sl (pub xs) ys is ts []).2.1 = K from by rw [hsl]] at H7; have l6 := H6.1; have l7 := H7.1
            refine wl_y (y_move rfl) rfl ?_
            refine wl_y (y_extract rfl rfl) rfl ?_
            refine wl_y (y_extract rfl rfl) rfl ?_
            refine wl_y (y_extract rfl rfl) rfl ?_
            refine wl_y (y_assign rfl) rfl ?_
            refine wl_y (y_assign rfl) rfl ?_
            refine wl_y (y_assign rfl) rfl ?_
            refine wl_nil ?_
            refine wq_then_norm (hK13 ?_)
            refine wc_seq ?_; intro K14 hK14
            refine wc_seq ?_; intro K15 hK15
            refine wc_region ?_
            refine wl_y (y_move rfl) rfl ?_
            refine wl_y (y_conv rfl Try.underlying27 Try.underlying3 (i64_ok (by omega) (by omega))) rfl ?_
            refine wl_y (Y.as (y_neq rfl rfl) (congrArg Value.bool (decide_eq_false (by omega)))) rfl ?_
            refine wl_y (y_move rfl) rfl ?_
            refine wl_gy 70 rfl rfl (y_move rfl) rfl ?_
            refine wl_gy 70 rfl rfl (y_len_slice rfl Try.underlying22) rfl ?_
            refine wl_gy 70 rfl rfl (y_move rfl) rfl ?_
            refine wl_gy 70 rfl rfl (y_len_slice rfl Try.underlying22) rfl ?_
            refine wl_gy 70 rfl rfl (y_add rfl rfl (i64_ok (by omega) (by omega))) rfl ?_
            refine wl_gy 70 rfl rfl (Y.as (y_neq rfl rfl) (congrArg Value.bool (decide_eq_false (by omega)))) rfl ?_
            refine wl_y (y_pickf rfl rfl) rfl ?_
            refine wl_nil ?_
            refine wq_then_norm (hK15 ?_)
            refine wc_false rfl rfl ?_
            refine wc_skip ?_
            refine wq_then_norm (hK14 ?_)
            refine wc_seq ?_; intro K16 hK16
            refine wc_region ?_
            refine wl_y (y_move rfl) rfl ?_
            refine wl_y (y_move rfl) rfl ?_
            refine wl_y (y_move rfl) rfl ?_
            refine wl_y (y_move rfl) rfl ?_
            refine wl_y (y_move rfl) rfl ?_
            refine wl_call Try.func25 rfl rfl rfl (hopenl_any A4 A6 C A7 lb 32 c4 k6 c6 k q k7 c7 _ _ cs _ _ (by omega) H4 (by omega) H6 (by omega) HC (by omega) H7 (by omega) hc7) rfl ?_
            rintro e w6 ⟨A8, k8, c8, rfl, H8, hk8, ex⟩
            refine ⟨_, rfl, ?_⟩
            replace HD := HD.ext ex
            replace E := E.ext ex
            replace H3 := H3.ext ex
            replace HA := HA.ext ex
            replace HB := HB.ext ex
            replace HC := HC.ext ex
            replace H4 := H4.ext ex
            replace H5 := H5.ext ex
            replace H6 := H6.ext ex
            replace H7 := H7.ext ex
            have f6 : (op (priv xs) (pub ys) (info lb cs) K []).2 = 0 := (by rw [← his, hop]); rw [← his, show (op (priv xs) (pub ys) is K []).1 = ts from by rw [hop]] at H8
            refine wl_y (y_move rfl) rfl ?_
            refine wl_y (y_extract rfl rfl) rfl ?_
            refine wl_y (y_extract rfl rfl) rfl ?_
            refine wl_y (y_assign rfl) rfl ?_
            refine wl_y (y_assign rfl) rfl ?_
            refine wl_nil ?_
            refine wq_then_norm (hK16 ?_)
            refine wc_seq ?_; intro K17 hK17
            refine wc_region ?_
            refine wl_y (y_move rfl) rfl ?_
            refine wl_y (y_move rfl) rfl ?_
            refine wl_call Try.func20 rfl rfl rfl (hwrap_any A5 B 32 c5 m d _ ys _ H5 (by omega) HB (by omega)) rfl ?_
            rintro e w7 ⟨A9, k9, c9, A10, k10, c10, rfl, H9, H10, hk9, hk10, ex⟩
            refine ⟨_, rfl, ?_⟩
            replace HD := HD.ext ex
            replace E := E.ext ex
            replace H3 := H3.ext ex
            replace HA := HA.ext ex
            replace HB := HB.ext ex
            replace HC := HC.ext ex
            replace H4 := H4.ext ex
            replace H5 := H5.ext ex
            replace H6 := H6.ext ex
            replace H7 := H7.ext ex
            replace H8 := H8.ext ex
            have f7 : (wrp (pub xs) ys).2.2 = 0 := (by rw [hwr]); rw [show (wrp (pub xs) ys).1 = S from by rw [hwr]] at H9; have l9 := H9.1
            refine wl_y (y_move rfl) rfl ?_
            refine wl_y (y_extract rfl rfl) rfl ?_
            refine wl_y (y_extract rfl rfl) rfl ?_
            refine wl_y (y_extract rfl rfl) rfl ?_
            refine wl_y (y_assign rfl) rfl ?_
            refine wl_y (y_assign rfl) rfl ?_
            refine wl_y (y_assign rfl) rfl ?_
            refine wl_nil ?_
            refine wq_then_norm (hK17 ?_)
            refine wc_seq ?_; intro K18 hK18
            refine wc_region ?_
            refine wl_y (y_move rfl) rfl ?_
            refine wl_y (y_move rfl) rfl ?_
            refine wl_call Try.func14 rfl rfl rfl (hunwrap_any A4 A6 32 c4 k6 c6 _ _ _ H4 (by omega) H6 (by omega)) rfl ?_
            rintro e w8 ⟨A11, k11, c11, rfl, H11, hk11, ex⟩
            refine ⟨_, rfl, ?_⟩
            replace HD := HD.ext ex
            replace E := E.ext ex
            replace H3 := H3.ext ex
            replace HA := HA.ext ex
            replace HB := HB.ext ex
            replace HC := HC.ext ex
            replace H4 := H4.ext ex
            replace H5 := H5.ext ex
            replace H6 := H6.ext ex
            replace H7 := H7.ext ex
            replace H8 := H8.ext ex
            replace H9 := H9.ext ex
            have f8 : (unw (priv xs) (pub ys)).2 = 0 := (by rw [hun]); rw [show (unw (priv xs) (pub ys)).1 = S from by rw [hun]] at H11
            refine wl_y (y_move rfl) rfl ?_
            refine wl_y (y_extract rfl rfl) rfl ?_
            refine wl_y (y_extract rfl rfl) rfl ?_
            refine wl_y (y_assign rfl) rfl ?_
            refine wl_y (y_assign rfl) rfl ?_
            refine wl_nil ?_
            refine wq_then_norm (hK18 ?_)
            refine wc_seq ?_; intro K19 hK19
            refine wc_region ?_
            refine wl_y (y_move rfl) rfl ?_
            refine wl_y (y_conv rfl Try.underlying27 Try.underlying3 (i64_ok (by omega) (by omega))) rfl ?_
            refine wl_y (Y.as (y_eql rfl rfl) (congrArg Value.bool (decide_eq_true (by omega)))) rfl ?_
            refine wl_y (y_move rfl) rfl ?_
            refine wl_gy 103 rfl rfl (y_move rfl) rfl ?_
            refine wl_gy 103 rfl rfl (y_move rfl) rfl ?_
            refine wl_gcall 103 rfl rfl Try.func13 rfl rfl rfl (sameE_any A8 A3 k8 z c8 c3 _ _ _ H8 H3 (by omega) (by omega)) rfl ?_
            rintro e w9 ⟨rfl, ex⟩
            refine ⟨_, rfl, ?_⟩
            replace HD := HD.ext ex
            replace E := E.ext ex
            replace H3 := H3.ext ex
            replace HA := HA.ext ex
            replace HB := HB.ext ex
            replace HC := HC.ext ex
            replace H4 := H4.ext ex
            replace H5 := H5.ext ex
            replace H6 := H6.ext ex
            replace H7 := H7.ext ex
            replace H8 := H8.ext ex
            replace H9 := H9.ext ex
            replace H11 := H11.ext ex
            rw [decide_eq_true rfl]
            refine wl_y (y_pickt rfl rfl) rfl ?_
            refine wl_y (y_move rfl) rfl ?_
            refine wl_gy 108 rfl rfl (y_move rfl) rfl ?_
            refine wl_gy 108 rfl rfl (y_move rfl) rfl ?_
            refine wl_gcall 108 rfl rfl Try.func13 rfl rfl rfl (sameE_any D A3 z z v c3 _ _ _ HD H3 (by omega) (by omega)) rfl ?_
            rintro e w10 ⟨rfl, ex⟩
            refine ⟨_, rfl, ?_⟩
            replace HD := HD.ext ex
            replace E := E.ext ex
            replace H3 := H3.ext ex
            replace HA := HA.ext ex
            replace HB := HB.ext ex
            replace HC := HC.ext ex
            replace H4 := H4.ext ex
            replace H5 := H5.ext ex
            replace H6 := H6.ext ex
            replace H7 := H7.ext ex
            replace H8 := H8.ext ex
            replace H9 := H9.ext ex
            replace H11 := H11.ext ex
            rw [decide_eq_true rfl]
            refine wl_y (y_pickt rfl rfl) rfl ?_
            refine wl_y (y_move rfl) rfl ?_
            refine wl_gy 113 rfl rfl (y_move rfl) rfl ?_
            refine wl_gy 113 rfl rfl (y_conv rfl Try.underlying27 Try.underlying3 (i64_ok (by omega) (by omega))) rfl ?_
            refine wl_gy 113 rfl rfl (y_move rfl) rfl ?_
            refine wl_gy 113 rfl rfl (y_conv rfl Try.underlying27 Try.underlying3 (i64_ok (by omega) (by omega))) rfl ?_
            refine wl_gy 113 rfl rfl (y_add rfl rfl (i64_ok (by omega) (by omega))) rfl ?_
            refine wl_gy 113 rfl rfl (Y.as (y_eql rfl rfl) (congrArg Value.bool (decide_eq_true (by omega)))) rfl ?_
            refine wl_y (y_pickt rfl rfl) rfl ?_
            refine wl_y (y_move rfl) rfl ?_
            refine wl_gy 121 rfl rfl (y_move rfl) rfl ?_
            refine wl_gy 121 rfl rfl (y_move rfl) rfl ?_
            refine wl_gcall 121 rfl rfl Try.func13 rfl rfl rfl (sameE_any A9 A11 k9 k11 c9 c11 _ _ _ H9 H11 (by omega) (by omega)) rfl ?_
            rintro e w11 ⟨rfl, ex⟩
            refine ⟨_, rfl, ?_⟩
            replace HD := HD.ext ex
            replace E := E.ext ex
            replace H3 := H3.ext ex
            replace HA := HA.ext ex
            replace HB := HB.ext ex
            replace HC := HC.ext ex
            replace H4 := H4.ext ex
            replace H5 := H5.ext ex
            replace H6 := H6.ext ex
            replace H7 := H7.ext ex
            replace H8 := H8.ext ex
            replace H9 := H9.ext ex
            replace H11 := H11.ext ex
            rw [decide_eq_true rfl]
            refine wl_y (y_pickt rfl rfl) rfl ?_
            refine wl_y (y_move rfl) rfl ?_
            refine wl_gy 126 rfl rfl (y_move rfl) rfl ?_
            refine wl_gy 126 rfl rfl (y_len_slice rfl Try.underlying22) rfl ?_
            refine wl_gy 126 rfl rfl (Y.as (y_eql rfl rfl) (congrArg Value.bool (decide_eq_true (by omega)))) rfl ?_
            refine wl_y (y_pickt rfl rfl) rfl ?_
            refine wl_y (y_assign rfl) rfl ?_
            refine wl_nil ?_
            refine wq_then_norm (hK19 ?_)
            refine wc_ret ?_
            refine hret rfl ?_
            exact ⟨rfl, E⟩
end Go.Proofs.Ytjllhimhiekchaa
