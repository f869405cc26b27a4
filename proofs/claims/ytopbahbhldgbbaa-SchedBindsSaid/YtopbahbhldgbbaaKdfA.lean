/- The reference's lengths and vectors; kdf's and the reference's Expand, Label, Secret, Ref: what each hands back. Lengths up to 2^20. -/
import Derived.Test.YtopbahbhldgbbaaWireA
import Derived.Test.YtopbahbhldgbbaaMacC
namespace Go.Proofs.Ytopbahbhldgbbaa
open Go.RowKit
attribute [local irreducible] Y Ef WL WC WK WQ WM OpM
theorem dj_new {w : World} {base g : Nat} {e : TypeId} {A : Option Addr} {n c : Nat} {xs : List Value} (h : Row w base e A n c xs) (hg : w.heap.size ≤ g) : Dj A (some ⟨g, 0, none⟩) := fun b o b' o' h1 h2 => by
  subst h1
  injection h2 with h2
  injection h2 with h2 _ _
  have := (Row.lt h).2
  omega
theorem u8_is {z : Int} {x : Nat} (h : z % 256 = (x : Int) % 256) : IntKind.u8.wrap z = ((UInt8.ofNat x).toNat : Int) := by
  rw [IntKind.wrap_u8', UInt8.toNat_ofNat']; omega
theorem refLen_any (x : Nat) (w : World) (hx : x < 1073741824) :
    Calls Try.prog 83 #[.int .i64 (x : Int)] w fun e w' => ∃ A' c', e = .returned (.slice A' (Wire.lsz x) c') ∧ Row w' w.heap.size 5 A' (Wire.lsz x) c' ((Wire.len x).map bv) ∧ Ext w w' := by
  refine vc_enter1 34 Try.func83 rfl rfl rfl rfl ?_
  intro Q hret
  refine wc_seq ?_; intro K1 hK1
  refine wc_region ?_
  refine wl_y (y_assign rfl) rfl ?_
  refine wl_nil ?_
  refine wq_then_norm (hK1 ?_)
  refine wc_seq ?_; intro K2 hK2
  refine wc_seq ?_; intro K3 hK3
  refine wc_region ?_
  refine wl_y (y_move rfl) rfl ?_
  refine wl_y (y_lss rfl rfl) rfl ?_
  refine wl_nil ?_
  refine wq_then_norm (hK3 ?_)
  refine wc_dec rfl (fun hc1 => ?_) (fun hc1 => ?_)
  · skip
    refine wc_seq ?_; intro K4 hK4
    refine wc_region ?_
    refine wl_y (y_move rfl) rfl ?_
    refine wl_y (y_conv rfl Try.underlying3 Try.underlying5 (u8_is (x := x) (by omega))) rfl ?_
    refine wl_ef (ef_lit (z := .int .u8 0) Try.underlying24 (by kernel_rfl) rfl rfl rfl rfl rfl) rfl ?_
    rintro _ w5 ⟨g5, rfl, B5, hg5, ex⟩
    skip
    refine wl_y (y_assign rfl) rfl ?_
    refine wl_nil ?_
    refine wq_then_norm (hK4 ?_)
    refine wc_ret ?_
    refine wq_then_ret ?_
    refine hret rfl ?_
    exact ⟨_, 1, by rw [show Wire.lsz x = 1 from by unfold Wire.lsz; rw [if_pos (by omega)]], by rw [show Wire.lsz x = 1 from by unfold Wire.lsz; rw [if_pos (by omega)], show Wire.len x = [UInt8.ofNat x] from by unfold Wire.len; rw [if_pos (by omega)]]; exact Row.new B5 hg5 rfl (by unfold maxLen; omega), ex⟩
  · skip
    refine wc_skip ?_
    refine wq_then_norm (hK2 ?_)
    refine wc_seq ?_; intro K5 hK5
    refine wc_seq ?_; intro K6 hK6
    refine wc_region ?_
    refine wl_y (y_move rfl) rfl ?_
    refine wl_y (y_lss rfl rfl) rfl ?_
    refine wl_nil ?_
    refine wq_then_norm (hK6 ?_)
    refine wc_dec rfl (fun hc2 => ?_) (fun hc2 => ?_)
    · skip
      refine wc_seq ?_; intro K7 hK7
      refine wc_region ?_
      refine wl_y (y_move rfl) rfl ?_
      refine wl_y (y_quo rfl rfl (by omega) (IntWalk.i64_quo _ _ (by omega))) rfl ?_
      refine wl_y (y_add rfl rfl (i64_ok (by omega) (by omega))) rfl ?_
      refine wl_y (y_conv rfl Try.underlying3 Try.underlying5 (u8_is (x := 64 + x / 256) (by omega))) rfl ?_
      refine wl_y (y_move rfl) rfl ?_
      refine wl_y (y_rem rfl rfl (by omega) (IntWalk.rem_in _ _ (by omega))) rfl ?_
      refine wl_y (y_conv rfl Try.underlying3 Try.underlying5 (u8_is (x := x % 256) (by omega))) rfl ?_
      refine wl_ef (ef_lit (z := .int .u8 0) Try.underlying24 (by kernel_rfl) rfl rfl rfl rfl rfl) rfl ?_
      rintro _ w5 ⟨g5, rfl, B5, hg5, ex⟩
      skip
      refine wl_y (y_assign rfl) rfl ?_
      refine wl_nil ?_
      refine wq_then_norm (hK7 ?_)
      refine wc_ret ?_
      refine wq_then_ret ?_
      refine hret rfl ?_
      exact ⟨_, 2, by rw [show Wire.lsz x = 2 from by unfold Wire.lsz; rw [if_neg (by omega), if_pos (by omega)]], by rw [show Wire.lsz x = 2 from by unfold Wire.lsz; rw [if_neg (by omega), if_pos (by omega)], show Wire.len x = [UInt8.ofNat (64 + x / 256), UInt8.ofNat (x % 256)] from by unfold Wire.len; rw [if_neg (by omega), if_pos (by omega)]]; exact Row.new B5 hg5 rfl (by unfold maxLen; omega), ex⟩
    · skip
      refine wc_skip ?_
      refine wq_then_norm (hK5 ?_)
      refine wc_seq ?_; intro K8 hK8
      refine wc_region ?_
      refine wl_y (y_move rfl) rfl ?_
      refine wl_y (y_quo rfl rfl (by omega) (IntWalk.i64_quo _ _ (by omega))) rfl ?_
      refine wl_y (y_add rfl rfl (i64_ok (by omega) (by omega))) rfl ?_
      refine wl_y (y_conv rfl Try.underlying3 Try.underlying5 (u8_is (x := 128 + x / 16777216) (by omega))) rfl ?_
      refine wl_y (y_move rfl) rfl ?_
      refine wl_y (y_quo rfl rfl (by omega) (IntWalk.i64_quo _ _ (by omega))) rfl ?_
      refine wl_y (y_rem rfl rfl (by omega) (IntWalk.rem_in _ _ (by omega))) rfl ?_
      refine wl_y (y_conv rfl Try.underlying3 Try.underlying5 (u8_is (x := x / 65536 % 256) (by omega))) rfl ?_
      refine wl_y (y_move rfl) rfl ?_
      refine wl_y (y_quo rfl rfl (by omega) (IntWalk.i64_quo _ _ (by omega))) rfl ?_
      refine wl_y (y_rem rfl rfl (by omega) (IntWalk.rem_in _ _ (by omega))) rfl ?_
      refine wl_y (y_conv rfl Try.underlying3 Try.underlying5 (u8_is (x := x / 256 % 256) (by omega))) rfl ?_
      refine wl_y (y_move rfl) rfl ?_
      refine wl_y (y_rem rfl rfl (by omega) (IntWalk.rem_in _ _ (by omega))) rfl ?_
      refine wl_y (y_conv rfl Try.underlying3 Try.underlying5 (u8_is (x := x % 256) (by omega))) rfl ?_
      refine wl_ef (ef_lit (z := .int .u8 0) Try.underlying24 (by kernel_rfl) rfl rfl rfl rfl rfl) rfl ?_
      rintro _ w5 ⟨g5, rfl, B5, hg5, ex⟩
      skip
      refine wl_y (y_assign rfl) rfl ?_
      refine wl_nil ?_
      refine wq_then_norm (hK8 ?_)
      refine wc_ret ?_
      refine hret rfl ?_
      exact ⟨_, 4, by rw [show Wire.lsz x = 4 from by unfold Wire.lsz; rw [if_neg (by omega), if_neg (by omega)]], by rw [show Wire.lsz x = 4 from by unfold Wire.lsz; rw [if_neg (by omega), if_neg (by omega)], show Wire.len x = [UInt8.ofNat (128 + x / 16777216), UInt8.ofNat (x / 65536 % 256), UInt8.ofNat (x / 256 % 256), UInt8.ofNat (x % 256)] from by unfold Wire.len; rw [if_neg (by omega), if_neg (by omega)]]; exact Row.new B5 hg5 rfl (by unfold maxLen; omega), ex⟩
theorem refVec_any (B : Option Addr) (m d : Nat) (ys : List UInt8) (w : World) (HB : Bs w B m ys) (hm : m < 1073741824) :
    Calls Try.prog 63 #[.slice B m d] w fun e w' => ∃ A' k c', e = .returned (.slice A' k c') ∧ Row w' w.heap.size 5 A' k c' ((Wire.vec ys).map bv) ∧ k = Wire.lsz m + m ∧ Ext w w' := by
  have hl := Wire.lsz_le m
  refine vc_enter1 8 Try.func63 rfl rfl rfl rfl ?_
  intro Q hret
  refine wc_seq ?_; intro K1 hK1
  refine wc_region ?_
  refine wl_y (y_assign rfl) rfl ?_
  refine wl_nil ?_
  refine wq_then_norm (hK1 ?_)
  refine wc_seq ?_; intro K2 hK2
  refine wc_region ?_
  refine wl_y (y_move rfl) rfl ?_
  refine wl_y (y_len_slice rfl Try.underlying24) rfl ?_
  refine wl_call Try.func83 rfl rfl rfl (refLen_any m _ hm) rfl ?_
  rintro e w1 ⟨A1, c1, rfl, R1, ex⟩
  refine ⟨_, rfl, ?_⟩
  replace HB := HB.ext ex
  have E := ex; have hs1 := ex.size
  refine wl_y (y_move rfl) rfl ?_
  refine wl_ef (ef_app rfl rfl eltB R1 HB.2 (by rw [List.length_map, HB.1]) (by intro u hu; exact bv_one u hu) (by omega) (by omega) hs1) rfl ?_
  rintro _ w2 ⟨A2, c2, rfl, R2, be, gr, hl⟩
  have R3 := R2.cat; have E2 := E.trans be
  refine wl_y (y_assign rfl) rfl ?_
  refine wl_nil ?_
  refine wq_then_norm (hK2 ?_)
  refine wc_ret ?_
  refine hret rfl ?_
  exact ⟨A2, _, c2, rfl, by rw [Wire.vec, HB.1]; exact R3, rfl, E2⟩
theorem expand_bad (A B : Option Addr) (n c m d : Nat) (z : Int) (w : World) (hz : z < 0 ∨ 8160 < z) :
    Calls Try.prog 68 #[.slice A n c, .slice B m d, .int .i64 z] w fun e w' => e = .returned (.tuple #[.slice none 0 0, .int .u8 1]) ∧ Ext w w' := by
  refine vc_enter2 36 Try.func68 rfl rfl rfl rfl ?_
  intro Q hret
  refine wc_seq ?_; intro K1 hK1
  refine wc_region ?_
  refine wl_y (y_assign rfl) rfl ?_
  refine wl_y (y_assign rfl) rfl ?_
  refine wl_nil ?_
  refine wq_then_norm (hK1 ?_)
  refine wc_scope2 0 (fun n' L w => L = [(0, .slice none 0 0), (1, .slice none 0 0), (2, .slice none 0 0), (8, .slice none 0 0), (9, .slice none 0 0), (10, .slice none 0 0)] ∧ n' = 0 ∧ (False)) rfl ?_ ?_
  · rintro G n' L w ⟨rfl, rfl, hF⟩ hG0
    exact hF.elim
  · intro G hG0
    refine wc_seq ?_; intro K2 hK2
    refine wc_seq ?_; intro K3 hK3
    refine wc_region ?_
    refine wl_y (y_move rfl) rfl ?_
    refine wl_yask (y_lss rfl rfl) rfl (fun h1 => ?_) (fun h1 => ?_)
    · skip
      refine wl_y (y_move rfl) rfl ?_
      refine wl_gno 13 rfl rfl rfl rfl ?_
      refine wl_gno 13 rfl rfl rfl rfl ?_
      refine wl_y (y_pickt rfl rfl) rfl ?_
      refine wl_nil ?_
      refine wq_then_norm (hK3 ?_)
      refine wc_true rfl rfl ?_
      refine wc_seq ?_; intro K4 hK4
      refine wc_region ?_
      refine wl_y (y_assign rfl) rfl ?_
      refine wl_y (y_assign rfl) rfl ?_
      refine wl_nil ?_
      refine wq_then_norm (hK4 ?_)
      refine wc_ret ?_
      refine wq_then_ret ?_
      refine wq_jump_ret ?_
      refine hret rfl rfl ?_
      exact ⟨rfl, Ext.refl _⟩
    · skip
      refine wl_y (y_move rfl) rfl ?_
      refine wl_gy 13 rfl rfl (y_move rfl) rfl ?_
      refine wl_gyask 13 rfl rfl (y_gtr rfl rfl) rfl (fun h2 => ?_) (fun h2 => ?_)
      · skip
        refine wl_y (y_pickf rfl rfl) rfl ?_
        refine wl_nil ?_
        refine wq_then_norm (hK3 ?_)
        refine wc_true rfl rfl ?_
        refine wc_seq ?_; intro K5 hK5
        refine wc_region ?_
        refine wl_y (y_assign rfl) rfl ?_
        refine wl_y (y_assign rfl) rfl ?_
        refine wl_nil ?_
        refine wq_then_norm (hK5 ?_)
        refine wc_ret ?_
        refine wq_then_ret ?_
        refine wq_jump_ret ?_
        refine hret rfl rfl ?_
        exact ⟨rfl, Ext.refl _⟩
      · skip
        exfalso; omega
theorem expand_any (A B : Option Addr) (n c m d k : Nat) (ks is : List UInt8) (w : World) (HA : Bs w A n ks) (hn : n ≤ 35184372088832) (HB : Bs w B m is) (hm : m ≤ 35184372087000) (hk : k ≤ 8160) :
    Calls Try.prog 68 #[.slice A n c, .slice B m d, .int .i64 (k : Int)] w fun e w' => ∃ A' c', e = .returned (.tuple #[.slice A' k c', .int .u8 0]) ∧ Bs w' A' k (Kdf.expand ks is k) ∧ k ≤ c' ∧ Ext w w' := by
  refine vc_enter2 36 Try.func68 rfl rfl rfl rfl ?_
  intro Q hret
  refine wc_seq ?_; intro K1 hK1
  refine wc_region ?_
  refine wl_y (y_assign rfl) rfl ?_
  refine wl_y (y_assign rfl) rfl ?_
  refine wl_nil ?_
  refine wq_then_norm (hK1 ?_)
  refine wc_scope2 0 (fun n' L wr => ∃ (j c8 m9 c9 : Nat) (A8 A9 : Option Addr), L = [(0, .slice A n c), (1, .slice B m d), (2, .int .i64 (k : Int)), (8, .slice A8 (32 * j) c8), (9, .slice A9 m9 c9), (10, .int .u8 (j : Int))] ∧ n' = 256 - j ∧ (j ≤ 255 ∧ Ext w wr ∧ Row wr w.heap.size 5 A8 (32 * j) c8 ((Kdf.okm ks is j).map bv) ∧ Bs wr A9 m9 (Kdf.T ks is j))) rfl ?_ ?_
  · rintro G n' L wr ⟨j, c8, m9, c9, A8, A9, rfl, rfl, hj, F, R, H9⟩ hG0
    refine wc_seq ?_; intro K2 hK2
    refine wc_seq ?_; intro K3 hK3
    refine wc_region ?_
    refine wl_y (y_move rfl) rfl ?_
    refine wl_y (y_len_slice rfl Try.underlying24) rfl ?_
    refine wl_y (y_move rfl) rfl ?_
    refine wl_y (y_lss rfl rfl) rfl ?_
    refine wl_nil ?_
    refine wq_then_norm (hK3 ?_)
    refine wc_dec rfl (fun hc2 => ?_) (fun hc2 => ?_)
    · skip
      refine wc_seq ?_; intro K4 hK4
      have hcnt : (UInt8.ofNat (j + 1)).toNat = j + 1 := by rw [UInt8.toNat_ofNat']; omega
      have hT := Kdf.T_le ks is j
      refine wc_region ?_
      refine wl_y (y_move rfl) rfl ?_
      refine wl_y (y_add rfl rfl (u8_is (x := j + 1) (by omega))) rfl ?_
      refine wl_y (y_assign rfl) rfl ?_
      refine wl_nil ?_
      refine wq_then_norm (hK4 ?_)
      refine wc_seq ?_; intro K5 hK5
      refine wc_region ?_
      refine wl_y (y_move rfl) rfl ?_
      refine wl_y (y_move rfl) rfl ?_
      refine wl_y (y_move rfl) rfl ?_
      refine wl_y (y_move rfl) rfl ?_
      refine wl_ef (ef_lit (z := .int .u8 0) Try.underlying24 (by kernel_rfl) rfl rfl rfl rfl rfl) rfl ?_
      rintro _ w4 ⟨g4, rfl, B4, hg4, ex⟩
      have F4 := F.ext ex; have H4 : Bs w4 (some ⟨g4, 0, none⟩) 1 [UInt8.ofNat (j + 1)] := bs_blk' (xs := [UInt8.ofNat (j + 1)]) (B4.congr rfl) rfl; have H9a := H9.ext ex; have Ra := R.ext ex
      refine wl_ef (ef_lit (z := .slice none 0 0) Try.underlying22 (by kernel_rfl) rfl rfl rfl rfl rfl) rfl ?_
      rintro _ w5 ⟨g5, rfl, B5, hg5, ex⟩
      have F5 := F4.ext ex; have S5 := bss_three B5 (H9a.ext ex) (HB.wk F5) (H4.ext ex); have Rb := Ra.ext ex
      refine wl_call Try.func64 rfl rfl rfl (tag_any A _ n c 3 3 ks _ _ (HA.wk F5) hn S5 (by omega) (by simp [HB.1]; omega)) rfl ?_
      rintro e w6 ⟨g6, rfl, hg6, B6, ex⟩
      refine ⟨_, rfl, ?_⟩
      have F6 := F5.ext ex; have H6 := bs_blk' B6 (Mac.tag_length _ _); have hdj := dj_new Rb hg6; have Rc := Rb.ext ex; have hs6 := F6.size
      refine wl_y (y_assign rfl) rfl ?_
      refine wl_nil ?_
      refine wq_then_norm (hK5 ?_)
      refine wc_seq ?_; intro K6 hK6
      refine wc_region ?_
      refine wl_y (y_move rfl) rfl ?_
      refine wl_y (y_move rfl) rfl ?_
      refine wl_ef (ef_app rfl rfl eltB Rc H6.2 (by rw [List.length_map, Mac.tag_length]) (by intro u hu; exact bv_one u hu) (by omega) (by omega) hs6) rfl ?_
      rintro _ w7 ⟨A7, c7, rfl, R7, be, gr, hl⟩
      have F7 := F6.trans be; have R8 := R7.cat; have H8 := H6.app hdj gr Rc.none_s; have hTj : Mac.tag ks [Kdf.T ks is j, is, [UInt8.ofNat (j + 1)]].flatten = Kdf.T ks is (j + 1) := by simp [Kdf.T]
      rw [hTj] at R8 H8
      refine wl_y (y_assign rfl) rfl ?_
      refine wl_nil ?_
      refine wq_then_norm (hK6 ?_)
      refine wc_goto ?_
      refine wq_then_goto ?_
      refine wq_jump_hit ?_
      refine hG0 _ _ ⟨j + 1, c7, 32, 32, A7, some ⟨g6, 0, none⟩, rfl, rfl, by omega, F7, R8, H8⟩ (by omega) ⟨rfl, rfl, (by first | rfl | exact congrArg some (int_val (by omega))), rfl, rfl, (by first | rfl | exact congrArg some (int_val (by omega))), trivial⟩
    · skip
      refine wc_skip ?_
      refine wq_then_norm (hK2 ?_)
      refine wc_seq ?_; intro K7 hK7
      refine wc_region ?_
      refine wl_y (y_move rfl) rfl ?_
      refine wl_y (y_move rfl) rfl ?_
      refine wl_y (y_cuth (s := 1) rfl rfl Try.underlying24 (by kernel_rfl) (j := k) rfl (by have := R.cap; omega)) rfl ?_
      refine wl_y (y_assign rfl) rfl ?_
      refine wl_y (y_assign rfl) rfl ?_
      refine wl_nil ?_
      refine wq_then_norm (hK7 ?_)
      refine wc_ret ?_
      refine wq_jump_ret ?_
      refine hret rfl rfl ?_
      exact ⟨A8, c8, rfl, by have := R.bs.take (k := k) (by omega); rw [Kdf.expand_of _ _ _ _ (by omega)] at this; exact this, by have := R.cap; omega, F⟩
  · intro G hG0
    refine wc_seq ?_; intro K8 hK8
    refine wc_seq ?_; intro K9 hK9
    refine wc_region ?_
    refine wl_y (y_move rfl) rfl ?_
    refine wl_y (Y.as (y_lss rfl rfl) (congrArg Value.bool (decide_eq_false (by omega)))) rfl ?_
    refine wl_y (y_move rfl) rfl ?_
    refine wl_gy 13 rfl rfl (y_move rfl) rfl ?_
    refine wl_gy 13 rfl rfl (Y.as (y_gtr rfl rfl) (congrArg Value.bool (decide_eq_false (by omega)))) rfl ?_
    refine wl_y (y_pickf rfl rfl) rfl ?_
    refine wl_nil ?_
    refine wq_then_norm (hK9 ?_)
    refine wc_false rfl rfl ?_
    refine wc_skip ?_
    refine wq_then_norm (hK8 ?_)
    refine wc_seq ?_; intro K10 hK10
    refine wc_region ?_
    refine wl_y (y_assign rfl) rfl ?_
    refine wl_y (y_assign rfl) rfl ?_
    refine wl_nil ?_
    refine wq_then_norm (hK10 ?_)
    refine wc_seq ?_; intro K11 hK11
    refine wc_region ?_
    refine wl_y (y_assign rfl) rfl ?_
    refine wl_nil ?_
    refine wq_then_norm (hK11 ?_)
    refine wc_seq ?_; intro KG0 hKG0
    refine wc_label ?_
    refine wq_then_norm (hKG0 ?_)
    exact hG0 _ _ ⟨0, 0, 0, 0, none, none, rfl, rfl, by omega, Ext.refl _, Row.empty _ _ _, Bs.nil _ none⟩ ⟨rfl, rfl, (by first | rfl | exact congrArg some (int_val (by omega))), rfl, rfl, (by first | rfl | exact congrArg some (int_val (by omega))), trivial⟩
end Go.Proofs.Ytopbahbhldgbbaa
