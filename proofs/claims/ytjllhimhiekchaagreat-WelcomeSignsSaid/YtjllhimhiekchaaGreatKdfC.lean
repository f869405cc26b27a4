/- kdf's and the reference's Label, Secret, Extract, Ref: what each hands back; the chapter's example. Lengths up to 2^20. -/
import Derived.Test.YtjllhimhiekchaaGreatRow
import Derived.Test.YtjllhimhiekchaaGreatWireA
import Derived.Test.YtjllhimhiekchaaGreatMacA
/- ratlineref01.Same: are two lists of bytes the same? Lengths within an int. -/
namespace Go.Proofs.YtjllhimhiekchaaGreat
open Go.RowKit
theorem same_step {xs ys : List UInt8} {n k : Nat} (hx : xs.length = n) (hy : ys.length = n) (hk : k < n) (h : xs.take k = ys.take k) (e : xs.getD k 0 = ys.getD k 0) : xs.take (k + 1) = ys.take (k + 1) := by
 rw [List.take_succ_eq_append_getElem (by omega), List.take_succ_eq_append_getElem (by omega), h]
 congr 1
 simpa [hx, hy, hk] using e
theorem same_at {xs ys : List UInt8} {k : Nat} (e : xs.getD k 0 ≠ ys.getD k 0) : xs ≠ ys := fun h => e (by rw [h])
set_option maxHeartbeats 400000 in
theorem same_any (A B : Option Addr) (n m c d : Nat) (xs ys : List UInt8) (w : World) (ha : Bs w A n xs) (hb : Bs w B m ys) (hn : n ≤ 140737488355328) (hm : m ≤ 140737488355328) :
  Calls Tryz.prog 32 #[.slice A n c, .slice B m d] w fun e w' => e = .returned (.bool (decide (xs = ys))) ∧ ∃ k, w' = w.drewN k := by
 by_cases hnm : n = m
 ·subst hnm
  have HA := Lib.hid ha; have HB := Lib.hid hb
  clear ha hb
  go_enter Tryz.func32, Tryz.ntmps32
  go_wp2
  go_loopw [5] (fun i wr => ∃ k q : Nat, k ≤ n ∧ i = .int .i64 k ∧ wr = w.drewN q ∧ xs.take k = ys.take k) (fun i _ => n - (intOf i).toNat)
  case atStart => exact ⟨0, 0, Nat.zero_le _, rfl, rfl, rfl⟩
  case round =>
   obtain ⟨k, q, hk, rfl, rfl, heq⟩ := hrel
   have HE := Lib.hid heq
   clear heq
   by_cases hlt : k < n
   ·obtain ⟨b, off, x, rfl, hx, hcx⟩ := HA.out.byte hlt
    obtain ⟨b', off', y, rfl, hy, hcy⟩ := HB.out.byte hlt
    by_cases he : x = y
    ·subst he
     go_wp2_with fail
     go_quiet (fail)
     go_wp2
     go_roundw
     case rel => exact ⟨k + 1, _, by omega, by go_num, rfl, same_step HA.out.1 HB.out.1 hlt HE.out (hx.out.symm.trans hy.out)⟩
     case measure => simp [intOf]; omega
    ·have hne : ((x.toNat : Int) != (y.toNat : Int)) = true := by
      rw [bne_iff_ne]
      intro h
      exact he (UInt8.toNat_inj.1 (by omega))
     have hxy : xs ≠ ys := same_at (k := k) (by rw [← hx.out, ← hy.out]; exact he)
     have HXY := Lib.hid hxy
     clear hxy he
     go_wp2_with fail
     go_quiet (fail)
     go_wp2
     go_ret
     exact ⟨by rw [decide_eq_false HXY.out]; rfl, _, by rw [World.drewN_drewN]⟩
   ·go_wp2
    go_ret
    have h := HE.out
    rw [List.take_of_length_le (by rw [HA.out.1]; omega), List.take_of_length_le (by rw [HB.out.1]; omega)] at h
    exact ⟨by rw [decide_eq_true h]; rfl, _, rfl⟩
 ·have hxy : xs ≠ ys := fun e => hnm (by rw [← ha.1, ← hb.1, e])
  have HXY := Lib.hid hxy
  clear hxy ha hb
  go_enter Tryz.func32, Tryz.ntmps32
  go_wp2
  go_ret
  exact ⟨by rw [decide_eq_false HXY.out]; rfl, 0, rfl⟩
end Go.Proofs.YtjllhimhiekchaaGreat

/- The reference's lengths and vectors; kdf's and the reference's Expand, Label, Secret, Ref: what each hands back. Lengths up to 2^20. -/
namespace Go.Proofs.YtjllhimhiekchaaGreat
open Go.RowKit
attribute [local irreducible] Y Ef WL WC WK WQ WM OpM
theorem dj_new {w : World} {base g : Nat} {e : TypeId} {A : Option Addr} {n c : Nat} {xs : List Value} (h : Row w base e A n c xs) (hg : w.heap.size ≤ g) : Dj A (some ⟨g, 0, none⟩) := fun b o b' o' h1 h2 => by
 subst h1
 injection h2 with h2
 injection h2 with h2 _ _
 have := (Row.lt h).2
 omega
theorem expand_any (A B : Option Addr) (n c m d k : Nat) (ks is : List UInt8) (w : World) (HA : Bs w A n ks) (hn : n ≤ 35184372088832) (HB : Bs w B m is) (hm : m ≤ 35184372087000) (hk : k ≤ 8160) :
  Calls Tryz.prog 201 #[.slice A n c, .slice B m d, .int .i64 (k : Int)] w fun e w' => ∃ A' c', e = .returned (.tuple #[.slice A' k c', .int .u8 0]) ∧ Bs w' A' k (Kdf.expand ks is k) ∧ k ≤ c' ∧ Ext w w' := by
 refine vc_enter2 36 Tryz.func201 rfl rfl rfl rfl ?_
 intro Q hret
 refine wc_seq ?_; intro K1 hK1
 refine wc_region ?_
 refine wl_y (y_assign rfl) rfl ?_
 refine wl_y (y_assign rfl) rfl ?_
 refine wl_nil ?_
 refine wq_then_norm (hK1 ?_)
 refine wc_scope2 0 (fun n' L wr => ∃ (j c8 m9 c9 : Nat) (A8 A9 : Option Addr), L = [(0, .slice A n c), (1, .slice B m d), (2, .int .i64 (k : Int)), (8, .slice A8 (32 * j) c8), (9, .slice A9 m9 c9), (10, .int .u8 (j : Int))] ∧ n' = 256 - j ∧ (j ≤ 255 ∧ Ext w wr ∧ Row wr w.heap.size 5 A8 (32 * j) c8 ((Kdf.okm ks is j).map bv) ∧ Bs wr A9 m9 (Kdf.T ks is j))) rfl ?_ ?_
 ·rintro G n' L wr ⟨j, c8, m9, c9, A8, A9, rfl, rfl, hj, F, R, H9⟩ hG0
  refine wc_seq ?_; intro K2 hK2
  refine wc_seq ?_; intro K3 hK3
  refine wc_region ?_
  refine wl_y (y_move rfl) rfl ?_
  refine wl_y (y_len_slice rfl Tryz.underlying23) rfl ?_
  refine wl_y (y_move rfl) rfl ?_
  refine wl_y (y_lss rfl rfl) rfl ?_
  refine wl_nil ?_
  refine wq_then_norm (hK3 ?_)
  refine wc_dec rfl (fun hc2 => ?_) (fun hc2 => ?_)
  ·skip
   refine wc_seq ?_; intro K4 hK4
   have hcnt : (UInt8.ofNat (j + 1)).toNat = j + 1 := by rw [UInt8.toNat_ofNat']; omega
   have hT := Kdf.T_le ks is j
   refine wc_region ?_
   refine wl_y (y_move rfl) rfl ?_
   refine wl_y (y_add rfl rfl (u8_is (x := j + 1) (by omega))) rfl ?_
   refine wl_y (y_assign rfl) rfl ?_
   refine wl_nil ?_
   refine wq_then_norm (hK4 ?_)
   refine wc_seq ?_; intro K5 hK5
   refine wc_region ?_
   refine wl_y (y_move rfl) rfl ?_
   refine wl_y (y_move rfl) rfl ?_
   refine wl_y (y_move rfl) rfl ?_
   refine wl_y (y_move rfl) rfl ?_
   refine wl_ef (ef_lit (z := .int .u8 0) Tryz.underlying23 (by kernel_rfl) rfl rfl rfl rfl rfl) rfl ?_
   rintro _ w4 ⟨g4, rfl, B4, hg4, ex⟩
   have F4 := F.ext ex; have H4 : Bs w4 (some ⟨g4, 0, none⟩) 1 [UInt8.ofNat (j + 1)] := bs_blk' (xs := [UInt8.ofNat (j + 1)]) (B4.congr rfl) rfl; have H9a := H9.ext ex; have Ra := R.ext ex
   refine wl_ef (ef_lit (z := .slice none 0 0) Tryz.underlying145 (by kernel_rfl) rfl rfl rfl rfl rfl) rfl ?_
   rintro _ w5 ⟨g5, rfl, B5, hg5, ex⟩
   have F5 := F4.ext ex; have S5 := bss_three B5 (H9a.ext ex) (HB.wk F5) (H4.ext ex); have Rb := Ra.ext ex
   refine wl_call Tryz.func119 rfl rfl rfl (tag_any A _ n c 3 3 ks _ _ (HA.wk F5) hn S5 (by omega) (by simp [HB.1]; omega)) rfl ?_
   rintro e w6 ⟨g6, rfl, hg6, B6, ex⟩
   refine ⟨_, rfl, ?_⟩
   have F6 := F5.ext ex; have H6 := bs_blk' B6 (Mac.tag_length _ _); have hdj := dj_new Rb hg6; have Rc := Rb.ext ex; have hs6 := F6.size
   refine wl_y (y_assign rfl) rfl ?_
   refine wl_nil ?_
   refine wq_then_norm (hK5 ?_)
   refine wc_seq ?_; intro K6 hK6
   refine wc_region ?_
   refine wl_y (y_move rfl) rfl ?_
   refine wl_y (y_move rfl) rfl ?_
   refine wl_ef (ef_app rfl rfl eltB Rc H6.2 (by rw [List.length_map, Mac.tag_length]) (by intro u hu; exact bv_one u hu) (by omega) (by omega) hs6) rfl ?_
   rintro _ w7 ⟨A7, c7, rfl, R7, be, gr, hl⟩
   have F7 := F6.trans be; have R8 := R7.cat; have H8 := H6.app hdj gr Rc.none_s; have hTj : Mac.tag ks [Kdf.T ks is j, is, [UInt8.ofNat (j + 1)]].flatten = Kdf.T ks is (j + 1) := by simp [Kdf.T]
   rw [hTj] at R8 H8
   refine wl_y (y_assign rfl) rfl ?_
   refine wl_nil ?_
   refine wq_then_norm (hK6 ?_)
   refine wc_goto ?_
   refine wq_then_goto ?_
   refine wq_jump_hit ?_
   refine hG0 _ _ ⟨j + 1, c7, 32, 32, A7, some ⟨g6, 0, none⟩, rfl, rfl, by omega, F7, R8, H8⟩ (by omega) ⟨rfl, rfl, (by first | rfl | exact congrArg some (int_val (by omega))), rfl, rfl, (by first | rfl | exact congrArg some (int_val (by omega))), trivial⟩
  ·skip
   refine wc_skip ?_
   refine wq_then_norm (hK2 ?_)
   refine wc_seq ?_; intro K7 hK7
   refine wc_region ?_
   refine wl_y (y_move rfl) rfl ?_
   refine wl_y (y_move rfl) rfl ?_
   refine wl_y (y_cuth (s := 1) rfl rfl Tryz.underlying23 (by kernel_rfl) (j := k) rfl (by have := R.cap; omega)) rfl ?_
   refine wl_y (y_assign rfl) rfl ?_
   refine wl_y (y_assign rfl) rfl ?_
   refine wl_nil ?_
   refine wq_then_norm (hK7 ?_)
   refine wc_ret ?_
   refine wq_jump_ret ?_
   refine hret rfl rfl ?_
   exact ⟨A8, c8, rfl, by have := R.bs.take (k := k) (by omega); rw [Kdf.expand_of _ _ _ _ (by omega)] at this; exact this, by have := R.cap; omega, F⟩
 ·intro G hG0
  refine wc_seq ?_; intro K8 hK8
  refine wc_seq ?_; intro K9 hK9
  refine wc_region ?_
  refine wl_y (y_move rfl) rfl ?_
  refine wl_y (Y.as (y_lss rfl rfl) (congrArg Value.bool (decide_eq_false (by omega)))) rfl ?_
  refine wl_y (y_move rfl) rfl ?_
  refine wl_gy 13 rfl rfl (y_move rfl) rfl ?_
  refine wl_gy 13 rfl rfl (Y.as (y_gtr rfl rfl) (congrArg Value.bool (decide_eq_false (by omega)))) rfl ?_
  refine wl_y (y_pickf rfl rfl) rfl ?_
  refine wl_nil ?_
  refine wq_then_norm (hK9 ?_)
  refine wc_false rfl rfl ?_
  refine wc_skip ?_
  refine wq_then_norm (hK8 ?_)
  refine wc_seq ?_; intro K10 hK10
  refine wc_region ?_
  refine wl_y (y_assign rfl) rfl ?_
  refine wl_y (y_assign rfl) rfl ?_
  refine wl_nil ?_
  refine wq_then_norm (hK10 ?_)
  refine wc_seq ?_; intro K11 hK11
  refine wc_region ?_
  refine wl_y (y_assign rfl) rfl ?_
  refine wl_nil ?_
  refine wq_then_norm (hK11 ?_)
  refine wc_seq ?_; intro KG0 hKG0
  refine wc_label ?_
  refine wq_then_norm (hKG0 ?_)
  exact hG0 _ _ ⟨0, 0, 0, 0, none, none, rfl, rfl, by omega, Ext.refl _, Row.empty _ _ _, Bs.nil _ none⟩ ⟨rfl, rfl, (by first | rfl | exact congrArg some (int_val (by omega))), rfl, rfl, (by first | rfl | exact congrArg some (int_val (by omega))), trivial⟩
end Go.Proofs.YtjllhimhiekchaaGreat

namespace Go.Proofs.YtjllhimhiekchaaGreat
open Go.RowKit
attribute [local irreducible] Y Ef WL WC WK WQ WM OpM
theorem extract_any (A B : Option Addr) (n c m d : Nat) (xs ys : List UInt8) (w : World) (HA : Bs w A n xs) (hn : n ≤ 35184372088832) (HB : Bs w B m ys) (hm : m ≤ 35184372088000) :
  Calls Tryz.prog 106 #[.slice A n c, .slice B m d] w fun e w' => ∃ A' c', e = .returned (.slice A' 32 c') ∧ Bs w' A' 32 (Mac.tag xs ys) ∧ Ext w w' := by
 have E := Ext.refl w
 refine vc_enter1 9 Tryz.func106 rfl rfl rfl rfl ?_
 intro Q hret
 refine wc_seq ?_; intro K1 hK1
 refine wc_region ?_
 refine wl_y (y_assign rfl) rfl ?_
 refine wl_nil ?_
 refine wq_then_norm (hK1 ?_)
 refine wc_seq ?_; intro K2 hK2
 refine wc_region ?_
 refine wl_y (y_move rfl) rfl ?_
 refine wl_y (y_move rfl) rfl ?_
 refine wl_ef (ef_lit (z := .slice none 0 0) Tryz.underlying145 (by kernel_rfl) rfl rfl rfl rfl rfl) rfl ?_
 rintro _ w1 ⟨g1, rfl, B1, hg1, ex⟩
 replace HA := HA.ext ex
 replace HB := HB.ext ex
 replace E := E.ext ex
 have S1 := bss_one B1 HB
 refine wl_call Tryz.func119 rfl rfl rfl (tag_any A _ n c 1 1 xs _ _ HA hn S1 (by omega) (by simp [HB.1]; omega)) rfl ?_
 rintro e w2 ⟨g2, rfl, hg2, B2, ex⟩
 refine ⟨_, rfl, ?_⟩
 replace HA := HA.ext ex
 replace HB := HB.ext ex
 replace E := E.ext ex
 have H2 := bs_blk' B2 (Mac.tag_length _ _)
 refine wl_y (y_assign rfl) rfl ?_
 refine wl_nil ?_
 refine wq_then_norm (hK2 ?_)
 refine wc_ret ?_
 refine hret rfl ?_
 exact ⟨_, _, rfl, by simpa using H2, E⟩
theorem label_any (A B : Option Addr) (n c m d k : Nat) (s : ByteArray) (ks cs : List UInt8) (w : World) (HA : Bs w A n ks) (hn : n ≤ 35184372088832) (hs : s.size ≤ 1048576) (HB : Bs w B m cs) (hm : m ≤ 1048576) (hk : k ≤ 8160) :
  Calls Tryz.prog 134 #[.slice A n c, .string s, .slice B m d, .int .i64 (k : Int)] w fun e w' => ∃ A' c', e = .returned (.tuple #[.slice A' k c', .int .u8 0]) ∧ Bs w' A' k (Kdf.label ks s.data.toList cs k) ∧ k ≤ c' ∧ Ext w w' := by
 have E := Ext.refl w
 have hl1 := Wire.lsz_le (8 + s.size); have hl2 := Wire.lsz_le m
 have hcs : (⟨#[77, 76, 83, 32, 49, 46, 48, 32]⟩ : ByteArray).size = 8 := rfl
 refine vc_enter2 43 Tryz.func134 rfl rfl rfl rfl ?_
 intro Q hret
 refine wc_seq ?_; intro K1 hK1
 refine wc_region ?_
 refine wl_y (y_assign rfl) rfl ?_
 refine wl_y (y_assign rfl) rfl ?_
 refine wl_nil ?_
 refine wq_then_norm (hK1 ?_)
 refine wc_seq ?_; intro K2 hK2
 refine wc_block ?_
 refine wc_seq ?_; intro K3 hK3
 refine wc_region ?_
 refine wl_y (y_move rfl) rfl ?_
 refine wl_y (Y.as (y_lss rfl rfl) (congrArg Value.bool (decide_eq_false (by omega)))) rfl ?_
 refine wl_y (y_move rfl) rfl ?_
 refine wl_gy 14 rfl rfl (y_move rfl) rfl ?_
 refine wl_gy 14 rfl rfl (Y.as (y_gtr rfl rfl) (congrArg Value.bool (decide_eq_false (by omega)))) rfl ?_
 refine wl_y (y_pickf rfl rfl) rfl ?_
 refine wl_y (y_assign rfl) rfl ?_
 refine wl_nil ?_
 refine wq_then_norm (hK3 ?_)
 refine wc_false rfl rfl ?_
 refine wc_seq ?_; intro K4 hK4
 refine wc_region ?_
 refine wl_y (y_move rfl) rfl ?_
 refine wl_y (y_len_str rfl Tryz.underlying9) rfl ?_
 refine wl_y (Y.as (y_gtr rfl rfl) (congrArg Value.bool (decide_eq_false (by omega)))) rfl ?_
 refine wl_y (y_move rfl) rfl ?_
 refine wl_gy 22 rfl rfl (y_move rfl) rfl ?_
 refine wl_gy 22 rfl rfl (y_len_slice rfl Tryz.underlying23) rfl ?_
 refine wl_gy 22 rfl rfl (Y.as (y_gtr rfl rfl) (congrArg Value.bool (decide_eq_false (by omega)))) rfl ?_
 refine wl_y (y_pickf rfl rfl) rfl ?_
 refine wl_y (y_assign rfl) rfl ?_
 refine wl_nil ?_
 refine wq_then_norm (hK4 ?_)
 refine wc_false rfl rfl ?_
 refine wc_skip ?_
 refine wq_blk_norm ?_
 refine wq_then_norm (hK2 ?_)
 refine wc_seq ?_; intro K5 hK5
 refine wc_region ?_
 refine wl_y (y_move rfl) rfl ?_
 refine wl_y (y_conv rfl Tryz.underlying3 Tryz.underlying38 (IntWalk.u64_in _ ⟨by omega, by omega⟩)) rfl ?_
 refine wl_call Tryz.func135 rfl rfl rfl (putNum_any none 0 0 2 k [] _ (Bs.nil _ _) (by omega) (by omega) (by omega)) rfl ?_
 rintro e w1 ⟨A1, c1, rfl, R1, ex⟩
 refine ⟨_, rfl, ?_⟩
 replace HA := HA.ext ex
 replace HB := HB.ext ex
 replace E := E.ext ex
 have H1 := R1.bs
 refine wl_y (y_assign rfl) rfl ?_
 refine wl_nil ?_
 refine wq_then_norm (hK5 ?_)
 refine wc_seq ?_; intro K6 hK6
 refine wc_region ?_
 refine wl_y (y_move rfl) rfl ?_
 refine wl_y (y_move rfl) rfl ?_
 refine wl_y (y_strcat rfl rfl (by omega)) rfl ?_
 refine wl_ef (ef_str rfl Tryz.underlying9 Tryz.underlying23 Tryz.underlying5) rfl ?_
 rintro _ w2 ⟨g2, c2, rfl, H2, hg2, ex⟩
 replace HA := HA.ext ex
 replace HB := HB.ext ex
 replace E := E.ext ex
 replace H1 := H1.ext ex
 rw [mls_cat, mls_size] at H2
 refine wl_call Tryz.func145 rfl rfl rfl (putVec_any A1 _ _ c1 _ c2 _ _ _ H1 (by omega) (by rw [mls_size]; exact H2) (by rw [mls_size]; omega)) rfl ?_
 rintro e w3 ⟨A3, k3, c3, rfl, R3, hk3, ex⟩
 refine ⟨_, rfl, ?_⟩
 replace HA := HA.ext ex
 replace HB := HB.ext ex
 replace E := E.ext ex
 replace H1 := H1.ext ex
 have H3 := R3.bs; rw [mls_size] at hk3
 refine wl_y (y_assign rfl) rfl ?_
 refine wl_nil ?_
 refine wq_then_norm (hK6 ?_)
 refine wc_seq ?_; intro K7 hK7
 refine wc_region ?_
 refine wl_y (y_move rfl) rfl ?_
 refine wl_y (y_move rfl) rfl ?_
 refine wl_y (y_move rfl) rfl ?_
 refine wl_call Tryz.func145 rfl rfl rfl (putVec_any A3 B k3 c3 m d _ cs _ H3 (by omega) HB (by omega)) rfl ?_
 rintro e w4 ⟨A4, k4, c4, rfl, R4, hk4, ex⟩
 refine ⟨_, rfl, ?_⟩
 replace HA := HA.ext ex
 replace HB := HB.ext ex
 replace E := E.ext ex
 replace H1 := H1.ext ex
 replace H3 := H3.ext ex
 have H4 := R4.bs
 refine wl_y (y_move rfl) rfl ?_
 refine wl_call Tryz.func201 rfl rfl rfl (expand_any A A4 n c k4 c4 k ks _ _ HA hn H4 (by omega) hk) rfl ?_
 rintro e w5 ⟨A5, c5, rfl, H5, hc5, ex⟩
 refine ⟨_, rfl, ?_⟩
 replace HA := HA.ext ex
 replace HB := HB.ext ex
 replace E := E.ext ex
 replace H1 := H1.ext ex
 replace H3 := H3.ext ex
 replace H4 := H4.ext ex
 skip
 refine wl_y (y_extract rfl rfl) rfl ?_
 refine wl_y (y_extract rfl rfl) rfl ?_
 refine wl_y (y_assign rfl) rfl ?_
 refine wl_y (y_assign rfl) rfl ?_
 refine wl_nil ?_
 refine wq_then_norm (hK7 ?_)
 refine wc_ret ?_
 refine hret rfl rfl ?_
 exact ⟨A5, c5, rfl, H5, hc5, E⟩
theorem secret_any (A : Option Addr) (n c : Nat) (s : ByteArray) (ks : List UInt8) (w : World) (HA : Bs w A n ks) (hn : n ≤ 35184372088832) (hs : s.size ≤ 1048576) :
  Calls Tryz.prog 81 #[.slice A n c, .string s] w fun e w' => ∃ A' c', e = .returned (.slice A' 32 c') ∧ Bs w' A' 32 (Kdf.label ks s.data.toList [] 32) ∧ Ext w w' := by
 refine vc_enter1 14 Tryz.func81 rfl rfl rfl rfl ?_
 intro Q hret
 refine wc_seq ?_; intro K1 hK1
 refine wc_region ?_
 refine wl_y (y_assign rfl) rfl ?_
 refine wl_nil ?_
 refine wq_then_norm (hK1 ?_)
 refine wc_seq ?_; intro K2 hK2
 refine wc_region ?_
 refine wl_y (y_move rfl) rfl ?_
 refine wl_y (y_move rfl) rfl ?_
 refine wl_call Tryz.func134 rfl rfl rfl (label_any A none n c 0 0 32 s ks [] _ HA hn hs (Bs.nil _ _) (by omega) (by omega)) rfl ?_
 rintro e w1 ⟨A1, c1, rfl, H1, hc1, ex⟩
 refine ⟨_, rfl, ?_⟩
 skip
 refine wl_y (y_move rfl) rfl ?_
 refine wl_y (y_extract rfl rfl) rfl ?_
 refine wl_y (y_extract rfl rfl) rfl ?_
 refine wl_y (y_assign rfl) rfl ?_
 refine wl_y (y_assign rfl) rfl ?_
 refine wl_nil ?_
 refine wq_then_norm (hK2 ?_)
 refine wc_seq ?_; intro K3 hK3
 refine wc_region ?_
 refine wl_y (y_move rfl) rfl ?_
 refine wl_y (y_assign rfl) rfl ?_
 refine wl_nil ?_
 refine wq_then_norm (hK3 ?_)
 refine wc_ret ?_
 refine hret rfl ?_
 exact ⟨A1, c1, rfl, H1, ex⟩
theorem ref_any (B : Option Addr) (m d : Nat) (s : ByteArray) (cs : List UInt8) (w : World) (HB : Bs w B m cs) (hs : s.size ≤ 1048576) (hm : m ≤ 1048576) :
  Calls Tryz.prog 93 #[.string s, .slice B m d] w fun e w' => ∃ A' c', e = .returned (.slice A' 32 c') ∧ Bs w' A' 32 (Sha.sum (Wire.vec s.data.toList ++ Wire.vec cs)) ∧ Ext w w' := by
 have E := Ext.refl w
 have hl1 := Wire.lsz_le s.size; have hl2 := Wire.lsz_le m
 refine vc_enter1 12 Tryz.func93 rfl rfl rfl rfl ?_
 intro Q hret
 refine wc_seq ?_; intro K1 hK1
 refine wc_region ?_
 refine wl_y (y_assign rfl) rfl ?_
 refine wl_nil ?_
 refine wq_then_norm (hK1 ?_)
 refine wc_seq ?_; intro K2 hK2
 refine wc_region ?_
 refine wl_y (y_move rfl) rfl ?_
 refine wl_ef (ef_str rfl Tryz.underlying9 Tryz.underlying23 Tryz.underlying5) rfl ?_
 rintro _ w2 ⟨g2, c2, rfl, H2, hg2, ex⟩
 replace HB := HB.ext ex
 replace E := E.ext ex
 have hs2 := E.size
 refine wl_call Tryz.func145 rfl rfl rfl (putVec_any none _ 0 0 _ c2 [] _ _ (Bs.nil _ _) (by omega) H2 (by omega)) rfl ?_
 rintro e w3 ⟨A3, k3, c3, rfl, R3, hk3, ex⟩
 refine ⟨_, rfl, ?_⟩
 replace HB := HB.ext ex
 replace E := E.ext ex
 have H3 := R3.bs
 refine wl_y (y_move rfl) rfl ?_
 refine wl_call Tryz.func145 rfl rfl rfl (putVec_any A3 B k3 c3 m d _ cs _ H3 (by omega) HB (by omega)) rfl ?_
 rintro e w4 ⟨A4, k4, c4, rfl, R4, hk4, ex⟩
 refine ⟨_, rfl, ?_⟩
 replace HB := HB.ext ex
 replace E := E.ext ex
 replace H3 := H3.ext ex
 have H4 := R4.bs
 refine wl_ef (ef_lit (z := .slice none 0 0) Tryz.underlying145 (by kernel_rfl) rfl rfl rfl rfl rfl) rfl ?_
 rintro _ w5 ⟨g5, rfl, B5, hg5, ex⟩
 replace HB := HB.ext ex
 replace E := E.ext ex
 replace H3 := H3.ext ex
 replace H4 := H4.ext ex
 have S5 := bss_one B5 H4
 refine wl_call Tryz.func173 rfl rfl rfl (of_any _ 1 1 _ _ S5 (by omega) (by simp only [List.flatten_cons, List.flatten_nil, List.append_nil]; rw [H4.1]; omega)) rfl ?_
 rintro e w6 ⟨g6, rfl, hg6, B6, ex⟩
 refine ⟨_, rfl, ?_⟩
 replace HB := HB.ext ex
 replace E := E.ext ex
 replace H3 := H3.ext ex
 replace H4 := H4.ext ex
 have H6 := bs_blk' B6 (Sha.sum_length _)
 refine wl_y (y_assign rfl) rfl ?_
 refine wl_nil ?_
 refine wq_then_norm (hK2 ?_)
 refine wc_ret ?_
 refine hret rfl ?_
 exact ⟨_, _, rfl, by simpa using H6, E⟩
end Go.Proofs.YtjllhimhiekchaaGreat
