/- mac.Same, held and Tag: what each hands back. Lengths up to 2^45. -/
import Derived.Test.YtjllhimhiekchaaVc5
import Derived.Test.YtjllhimhiekchaaDigest
import Derived.Test.YtjllhimhiekchaaSl
namespace Go.Proofs.Ytjllhimhiekchaa
open Go.RowKit
attribute [local irreducible] Y Ef WL WC WK WQ WM OpM
theorem xor_zero (a b : Nat) : a ^^^ b = 0 ↔ a = b := by
  constructor
  · intro h
    have : (a ^^^ b) ^^^ b = 0 ^^^ b := by rw [h]
    rw [Nat.xor_assoc, Nat.xor_self] at this
    simpa using this
  · rintro rfl; simp
theorem copied {g : Nat} {t : TypeId} {w : World} (ks : List UInt8) (hk : ks.length ≤ 64) (h : Blk w g t ((List.replicate 64 (Value.int .u8 0)).toArray.toList.take 0 ++ ks.map bv ++ (List.replicate 64 (Value.int .u8 0)).toArray.toList.drop (0 + (ks.map bv).length)).toArray) :
    Blk w g t (bys (ks ++ zbs (64 - ks.length))) := by
  have e : (List.replicate 64 (Value.int .u8 0)).toArray.toList.take 0 ++ ks.map bv ++ (List.replicate 64 (Value.int .u8 0)).toArray.toList.drop (0 + (ks.map bv).length) = (ks ++ zbs (64 - ks.length)).map bv := by
    rw [List.toList_toArray, List.take_zero, List.nil_append, List.drop_replicate, List.length_map, Nat.zero_add, List.map_append]
    unfold zbs
    rw [List.map_replicate]
    rfl
  rw [e] at h
  exact h
theorem xor_step (l : List UInt8) (c : UInt8) (k : Nat) (hk : k < l.length) : ((l.take k).map (· ^^^ c) ++ l.drop k).set k (l.getD k 0 ^^^ c) = (l.take (k + 1)).map (· ^^^ c) ++ l.drop (k + 1) := by
  have hl : ((l.take k).map (· ^^^ c)).length = k := by simp; omega
  rw [List.set_append_right _ _ (by omega), hl, Nat.sub_self, List.drop_eq_getElem_cons hk, List.set_cons_zero, List.take_succ_eq_append_getElem hk, List.map_append, List.append_assoc]
  simp [hk]
theorem xor_get (l : List UInt8) (c : UInt8) (k : Nat) (hk : k < l.length) : ((l.take k).map (· ^^^ c) ++ l.drop k).getD k 0 = l.getD k 0 := by
  have hl : ((l.take k).map (· ^^^ c)).length = k := by simp; omega
  have h2 := List.getElem?_append_right (l₁ := (l.take k).map (· ^^^ c)) (l₂ := l.drop k) (i := k) (by omega)
  rw [List.getD_eq_getElem?_getD, h2, hl, Nat.sub_self]
  simp [hk]
theorem held_any (A : Option Addr) (n c : Nat) (xs : List UInt8) (x : UInt8) (w : World) (HA : Bs w A n xs) (hn : n ≤ 35184372088832) :
    Calls Try.prog 83 #[.slice A n c, .int .u8 (x.toNat : Int)] w fun e w' => ∃ g, e = .returned (.slice (some ⟨g, 0, none⟩) 64 64) ∧ w.heap.size ≤ g ∧ Blk w' g 5 (bys (Mac.held xs x)) ∧ Ext w w' := by
  have hk64 : ∀ ks : List UInt8, ks = (if 64 < n then Sha.sum xs else xs) → ks ++ zbs (64 - ks.length) = Mac.k64 xs := fun ks h => by rw [h]; unfold Mac.k64; simp only [HA.1]
  have hx := x.toNat_lt
  obtain ⟨X, hX⟩ : ∃ X, X = Mac.k64 xs := ⟨_, rfl⟩
  have hXl : X.length = 64 := by rw [hX]; exact Mac.k64_length _
  refine vc_enter1 31 Try.func83 rfl rfl rfl rfl ?_
  intro Q hret
  refine wc_seq ?_; intro K1 hK1
  have HK := HA; have E := Ext.refl w
  refine wc_region ?_
  refine wl_y (y_assign rfl) rfl ?_
  refine wl_nil ?_
  refine wq_then_norm (hK1 ?_)
  refine wc_seq ?_; intro K2 hK2
  refine wc_seq ?_; intro K3 hK3
  refine wc_region ?_
  refine wl_y (y_move rfl) rfl ?_
  have hE := E
  refine wl_y (y_len_slice rfl Try.underlying22) rfl ?_
  refine wl_y (y_gtr rfl rfl) rfl ?_
  refine wl_nil ?_
  refine wq_then_norm (hK3 ?_)
  refine wc_dec rfl (fun hc1 => ?_) (fun hc1 => ?_)
  · skip
    refine wc_region ?_
    refine wl_y (y_move rfl) rfl ?_
    refine wl_ef (ef_lit (t := 79) Try.underlying79 (z := .slice none 0 0) (by kernel_rfl) rfl rfl rfl rfl rfl) rfl ?_
    rintro _ w1 ⟨g1, rfl, B1, hg1, ex⟩
    replace HK := HK.ext ex
    have E1 := ex
    refine wl_call Try.func82 rfl rfl rfl (of_any _ 1 1 [xs] _ (bss_one B1 HK) (by omega) (by simp [HA.1]; omega)) rfl ?_
    rintro e w2 ⟨g2, rfl, hg2, B2, ex⟩
    refine ⟨_, rfl, ?_⟩
    replace HK := HK.ext ex
    replace E := E1.tr ex
    replace HK := bs_blk' B2 (Sha.sum_length _)
    refine wl_y (y_assign rfl) rfl ?_
    refine wl_nil ?_
    refine wq_then_norm (hK2 ?_)
    refine wc_seq ?_; intro K4 hK4
    refine wc_region ?_
    refine wl_ef (ef_make (n := 64) (z := .int .u8 0) (bytes := 1) rfl rfl Try.underlying22 (by kernel_rfl) rfl rfl (by omega) (by omega) (by omega) (by omega)) rfl ?_
    rintro _ w3 ⟨g3, rfl, B3, hg3, ex⟩
    replace HK := HK.ext ex
    have hw3 : w.heap.size ≤ g3 := Nat.le_trans E.size hg3; replace E := E.tr ex
    refine wl_y (y_assign rfl) rfl ?_
    refine wl_nil ?_
    refine wq_then_norm (hK4 ?_)
    refine wc_seq ?_; intro K5 hK5
    refine wc_region ?_
    refine wl_y (y_move rfl) rfl ?_
    refine wl_y (y_move rfl) rfl ?_
    refine wl_ef (ef_copy rfl rfl Try.underlying22 (by kernel_rfl) B3 HK.2 (by rw [List.length_map, HK.1]; rfl) (by rw [List.length_map, HK.1]; simp) (by intro u hu; exact bv_one u hu)) rfl ?_
    rintro _ w4 ⟨rfl, B4, cg⟩
    have B5 := copied _ (by rw [HK.1]; omega) B4; rw [hk64 _ (by rw [if_pos (by omega)]; simp), ← hX] at B5; have E5 := E.chg cg hw3
    refine wl_nil ?_
    refine wq_then_norm (hK5 ?_)
    refine wc_seq ?_; intro K6 hK6
    refine wc_seq ?_; intro K7 hK7
    refine wc_region ?_
    refine wl_y (y_move rfl) rfl ?_
    refine wl_y (y_len_slice rfl Try.underlying22) rfl ?_
    refine wl_y (y_move rfl) rfl ?_
    refine wl_nil ?_
    refine wq_then_norm (hK7 ?_)
    refine wc_block ?_
    refine wc_loop (fun n' L wr => ∃ k : Nat, L = [(1, .int .u8 (x.toNat : Int)), (5, .slice (some ⟨g3, 0, none⟩) 64 64), (18, .int .i64 64), (19, .int .i64 (k : Int))] ∧ n' = 64 - k ∧ (k ≤ 64 ∧ Ext w wr ∧ Blk wr g3 5 (bys ((X.take k).map (· ^^^ x) ++ X.drop k)))) _ _ ⟨0, rfl, rfl, by omega, E5, by simpa using B5⟩ ⟨(by first | rfl | exact congrArg some (int_val (by omega))), rfl, (by first | rfl | exact congrArg some (int_val (by omega))), (by first | rfl | exact congrArg some (int_val (by omega))), trivial⟩ ?_
    rintro KL1 n' L wr ⟨k, rfl, rfl, hk, E6, B6⟩ hL1
    refine wc_seq ?_; intro K8 hK8
    refine wc_region ?_
    refine wl_y (y_lss rfl rfl) rfl ?_
    refine wl_nil ?_
    refine wq_then_norm (hK8 ?_)
    refine wc_seq ?_; intro K9 hK9
    refine wc_dec rfl (fun hc2 => ?_) (fun hc2 => ?_)
    · skip
      refine wc_skip ?_
      refine wq_then_norm (hK9 ?_)
      refine wc_seq ?_; intro K10 hK10
      refine wc_block ?_
      refine wc_seq ?_; intro K11 hK11
      refine wc_region ?_
      refine wl_y (y_move rfl) rfl ?_
      refine wl_y (y_assign rfl) rfl ?_
      refine wl_nil ?_
      refine wq_then_norm (hK11 ?_)
      refine wc_region ?_
      refine wl_y (y_move rfl) rfl ?_
      refine wl_y (y_move rfl) rfl ?_
      have hxk := (X.getD k 0).toNat_lt
      refine wl_y (y_ixs1 rfl rfl Try.underlying22 (by kernel_rfl) rfl (by omega)) rfl ?_
      refine wl_y (y_load1 rfl Try.underlying5 rfl (B6.get (by rw [Nat.zero_add, bys_get (by simp; omega), xor_get X x k (by omega)]))) rfl ?_
      refine wl_y (y_move rfl) rfl ?_
      refine wl_y (y_xor rfl rfl (bits_u8 (by omega) (by omega)).2.2) rfl ?_
      refine wl_y (y_ixs1 rfl rfl Try.underlying22 (by kernel_rfl) rfl (by omega)) rfl ?_
      refine wl_ef (ef_storeB rfl rfl rfl (by kernel_rfl) B6 (by rw [bys_size]; simp; omega)) rfl ?_
      rintro _ w5 ⟨rfl, B7, cg⟩
      have B8 := B7.congr (cs' := bys ((X.take (k + 1)).map (· ^^^ x) ++ X.drop (k + 1))) (by rw [Nat.zero_add, ← xor_step X x k (by omega), ← bys_set, UInt8.toNat_xor]); have E7 := E6.chg cg hw3
      refine wl_nil ?_
      refine wq_blk_norm ?_
      refine wq_then_norm (hK10 ?_)
      refine wc_region ?_
      refine wl_y (y_add rfl rfl (i64_ok (by omega) (by omega))) rfl ?_
      refine wl_y (y_move rfl) rfl ?_
      refine wl_nil ?_
      refine wq_then_norm ?_
      refine hL1 _ _ ⟨k + 1, rfl, rfl, by omega, E7, B8⟩ (by omega) ⟨(by first | rfl | exact congrArg some (int_val (by omega))), rfl, (by first | rfl | exact congrArg some (int_val (by omega))), (by first | rfl | exact congrArg some (int_val (by omega))), trivial⟩
    · skip
      refine wc_exit ?_
      refine wq_then_exit ?_
      refine wq_then_exit ?_
      refine wq_blk_hit ?_
      refine wq_then_norm (hK6 ?_)
      refine wc_seq ?_; intro K12 hK12
      refine wc_region ?_
      refine wl_y (y_move rfl) rfl ?_
      refine wl_y (y_assign rfl) rfl ?_
      refine wl_nil ?_
      refine wq_then_norm (hK12 ?_)
      refine wc_ret ?_
      refine hret rfl ?_
      exact ⟨g3, rfl, hw3, B6.congr (by rw [show k = 64 from by omega, List.take_of_length_le (by omega), List.drop_of_length_le (by omega), List.append_nil, hX]; rfl), E6⟩
  · skip
    refine wc_skip ?_
    refine wq_then_norm (hK2 ?_)
    refine wc_seq ?_; intro K13 hK13
    refine wc_region ?_
    refine wl_ef (ef_make (n := 64) (z := .int .u8 0) (bytes := 1) rfl rfl Try.underlying22 (by kernel_rfl) rfl rfl (by omega) (by omega) (by omega) (by omega)) rfl ?_
    rintro _ w3 ⟨g3, rfl, B3, hg3, ex⟩
    replace HK := HK.ext ex
    have hw3 : w.heap.size ≤ g3 := Nat.le_trans E.size hg3; replace E := E.tr ex
    refine wl_y (y_assign rfl) rfl ?_
    refine wl_nil ?_
    refine wq_then_norm (hK13 ?_)
    refine wc_seq ?_; intro K14 hK14
    refine wc_region ?_
    refine wl_y (y_move rfl) rfl ?_
    refine wl_y (y_move rfl) rfl ?_
    refine wl_ef (ef_copy rfl rfl Try.underlying22 (by kernel_rfl) B3 HK.2 (by rw [List.length_map, HK.1]; exact (Nat.min_eq_left (by omega)).symm) (by rw [List.length_map, HK.1]; simp; omega) (by intro u hu; exact bv_one u hu)) rfl ?_
    rintro _ w4 ⟨rfl, B4, cg⟩
    have B5 := copied _ (by rw [HK.1]; omega) B4; rw [hk64 _ (by rw [if_neg (by omega)]), ← hX] at B5; have E5 := E.chg cg hw3
    refine wl_nil ?_
    refine wq_then_norm (hK14 ?_)
    refine wc_seq ?_; intro K15 hK15
    refine wc_seq ?_; intro K16 hK16
    refine wc_region ?_
    refine wl_y (y_move rfl) rfl ?_
    refine wl_y (y_len_slice rfl Try.underlying22) rfl ?_
    refine wl_y (y_move rfl) rfl ?_
    refine wl_nil ?_
    refine wq_then_norm (hK16 ?_)
    refine wc_block ?_
    refine wc_loop (fun n' L wr => ∃ k : Nat, L = [(1, .int .u8 (x.toNat : Int)), (5, .slice (some ⟨g3, 0, none⟩) 64 64), (18, .int .i64 64), (19, .int .i64 (k : Int))] ∧ n' = 64 - k ∧ (k ≤ 64 ∧ Ext w wr ∧ Blk wr g3 5 (bys ((X.take k).map (· ^^^ x) ++ X.drop k)))) _ _ ⟨0, rfl, rfl, by omega, E5, by simpa using B5⟩ ⟨(by first | rfl | exact congrArg some (int_val (by omega))), rfl, (by first | rfl | exact congrArg some (int_val (by omega))), (by first | rfl | exact congrArg some (int_val (by omega))), trivial⟩ ?_
    rintro KL1 n' L wr ⟨k, rfl, rfl, hk, E6, B6⟩ hL1
    refine wc_seq ?_; intro K17 hK17
    refine wc_region ?_
    refine wl_y (y_lss rfl rfl) rfl ?_
    refine wl_nil ?_
    refine wq_then_norm (hK17 ?_)
    refine wc_seq ?_; intro K18 hK18
    refine wc_dec rfl (fun hc2 => ?_) (fun hc2 => ?_)
    · skip
      refine wc_skip ?_
      refine wq_then_norm (hK18 ?_)
      refine wc_seq ?_; intro K19 hK19
      refine wc_block ?_
      refine wc_seq ?_; intro K20 hK20
      refine wc_region ?_
      refine wl_y (y_move rfl) rfl ?_
      refine wl_y (y_assign rfl) rfl ?_
      refine wl_nil ?_
      refine wq_then_norm (hK20 ?_)
      refine wc_region ?_
      refine wl_y (y_move rfl) rfl ?_
      refine wl_y (y_move rfl) rfl ?_
      have hxk := (X.getD k 0).toNat_lt
      refine wl_y (y_ixs1 rfl rfl Try.underlying22 (by kernel_rfl) rfl (by omega)) rfl ?_
      refine wl_y (y_load1 rfl Try.underlying5 rfl (B6.get (by rw [Nat.zero_add, bys_get (by simp; omega), xor_get X x k (by omega)]))) rfl ?_
      refine wl_y (y_move rfl) rfl ?_
      refine wl_y (y_xor rfl rfl (bits_u8 (by omega) (by omega)).2.2) rfl ?_
      refine wl_y (y_ixs1 rfl rfl Try.underlying22 (by kernel_rfl) rfl (by omega)) rfl ?_
      refine wl_ef (ef_storeB rfl rfl rfl (by kernel_rfl) B6 (by rw [bys_size]; simp; omega)) rfl ?_
      rintro _ w5 ⟨rfl, B7, cg⟩
      have B8 := B7.congr (cs' := bys ((X.take (k + 1)).map (· ^^^ x) ++ X.drop (k + 1))) (by rw [Nat.zero_add, ← xor_step X x k (by omega), ← bys_set, UInt8.toNat_xor]); have E7 := E6.chg cg hw3
      refine wl_nil ?_
      refine wq_blk_norm ?_
      refine wq_then_norm (hK19 ?_)
      refine wc_region ?_
      refine wl_y (y_add rfl rfl (i64_ok (by omega) (by omega))) rfl ?_
      refine wl_y (y_move rfl) rfl ?_
      refine wl_nil ?_
      refine wq_then_norm ?_
      refine hL1 _ _ ⟨k + 1, rfl, rfl, by omega, E7, B8⟩ (by omega) ⟨(by first | rfl | exact congrArg some (int_val (by omega))), rfl, (by first | rfl | exact congrArg some (int_val (by omega))), (by first | rfl | exact congrArg some (int_val (by omega))), trivial⟩
    · skip
      refine wc_exit ?_
      refine wq_then_exit ?_
      refine wq_then_exit ?_
      refine wq_blk_hit ?_
      refine wq_then_norm (hK15 ?_)
      refine wc_seq ?_; intro K21 hK21
      refine wc_region ?_
      refine wl_y (y_move rfl) rfl ?_
      refine wl_y (y_assign rfl) rfl ?_
      refine wl_nil ?_
      refine wq_then_norm (hK21 ?_)
      refine wc_ret ?_
      refine hret rfl ?_
      exact ⟨g3, rfl, hw3, B6.congr (by rw [show k = 64 from by omega, List.take_of_length_le (by omega), List.drop_of_length_le (by omega), List.append_nil, hX]; rfl), E6⟩
theorem tag_any (A B : Option Addr) (n c m d : Nat) (xs : List UInt8) (xss : List (List UInt8)) (w : World) (HA : Bs w A n xs) (hn : n ≤ 35184372088832) (HB : Bss w B m xss) (hm : m ≤ 35184372088832) (hl : xss.flatten.length ≤ 35184372088000) :
    Calls Try.prog 69 #[.slice A n c, .slice B m d] w fun e w' => ∃ g, e = .returned (.slice (some ⟨g, 0, none⟩) 32 32) ∧ w.heap.size ≤ g ∧ Blk w' g 95 (bys (Mac.tag xs xss.flatten)) ∧ Ext w w' := by
  have E := Ext.refl w
  refine vc_enter1 19 Try.func69 rfl rfl rfl rfl ?_
  intro Q hret
  refine wc_seq ?_; intro K1 hK1
  refine wc_region ?_
  refine wl_y (y_assign rfl) rfl ?_
  refine wl_nil ?_
  refine wq_then_norm (hK1 ?_)
  refine wc_seq ?_; intro K2 hK2
  refine wc_region ?_
  refine wl_y (y_move rfl) rfl ?_
  refine wl_call Try.func83 rfl rfl rfl (held_any A n c xs 54 _ HA hn) rfl ?_
  rintro e w1 ⟨g1, rfl, hg1, B1, ex⟩
  refine ⟨_, rfl, ?_⟩
  replace HA := HA.ext ex
  replace HB := HB.ext ex
  replace E := E.ext ex
  have H1 := bs_blk' B1 (Mac.held_length _ _)
  refine wl_y (y_move rfl) rfl ?_
  refine wl_call Try.func56 rfl rfl rfl (concat_any B m d xss _ HB (by omega) (by omega)) rfl ?_
  rintro e w2 ⟨A2, m2, c2, rfl, O2, ex⟩
  refine ⟨_, rfl, ?_⟩
  replace HA := HA.ext ex
  replace HB := HB.ext ex
  replace E := E.ext ex
  replace H1 := H1.ext ex
  have H2 := O2.bs; have hm2 := O2.len
  refine wl_ef (ef_lit (z := .slice none 0 0) Try.underlying79 (by kernel_rfl) rfl rfl rfl rfl rfl) rfl ?_
  rintro _ w3 ⟨g3, rfl, B3, hg3, ex⟩
  replace HA := HA.ext ex
  replace HB := HB.ext ex
  replace E := E.ext ex
  replace H1 := H1.ext ex
  replace H2 := H2.ext ex
  have S3 := bss_two B3 H1 H2
  refine wl_call Try.func56 rfl rfl rfl (concat_any _ 2 2 [Mac.held xs 54, xss.flatten] _ S3 (by omega) (by simp [Mac.held_length]; simp at hl; omega)) rfl ?_
  rintro e w4 ⟨A4, m4, c4, rfl, O4, ex⟩
  refine ⟨_, rfl, ?_⟩
  replace HA := HA.ext ex
  replace HB := HB.ext ex
  replace E := E.ext ex
  replace H1 := H1.ext ex
  replace H2 := H2.ext ex
  replace S3 := S3.ext ex
  have H4 := O4.bs; have hm4 := O4.len
  refine wl_ef (ef_lit (z := .slice none 0 0) Try.underlying79 (by kernel_rfl) rfl rfl rfl rfl rfl) rfl ?_
  rintro _ w5 ⟨g5, rfl, B5, hg5, ex⟩
  replace HA := HA.ext ex
  replace HB := HB.ext ex
  replace E := E.ext ex
  replace H1 := H1.ext ex
  replace H2 := H2.ext ex
  replace S3 := S3.ext ex
  replace H4 := H4.ext ex
  have S5 := bss_one B5 H4
  refine wl_call Try.func82 rfl rfl rfl (of_any _ 1 1 _ _ S5 (by omega) (by simp [Mac.held_length]; simp at hl; omega)) rfl ?_
  rintro e w6 ⟨g6, rfl, hg6, B6, ex⟩
  refine ⟨_, rfl, ?_⟩
  replace HA := HA.ext ex
  replace HB := HB.ext ex
  replace E := E.ext ex
  replace H1 := H1.ext ex
  replace H2 := H2.ext ex
  replace S3 := S3.ext ex
  replace H4 := H4.ext ex
  replace S5 := S5.ext ex
  have H6 := bs_blk' B6 (Sha.sum_length _)
  refine wl_y (y_assign rfl) rfl ?_
  refine wl_nil ?_
  refine wq_then_norm (hK2 ?_)
  refine wc_seq ?_; intro K3 hK3
  refine wc_region ?_
  refine wl_y (y_move rfl) rfl ?_
  refine wl_call Try.func83 rfl rfl rfl (held_any A n c xs 92 _ HA hn) rfl ?_
  rintro e w7 ⟨g7, rfl, hg7, B7, ex⟩
  refine ⟨_, rfl, ?_⟩
  replace HA := HA.ext ex
  replace HB := HB.ext ex
  replace E := E.ext ex
  replace H1 := H1.ext ex
  replace H2 := H2.ext ex
  replace S3 := S3.ext ex
  replace H4 := H4.ext ex
  replace S5 := S5.ext ex
  replace H6 := H6.ext ex
  have H7 := bs_blk' B7 (Mac.held_length _ _)
  refine wl_y (y_move rfl) rfl ?_
  refine wl_ef (ef_lit (z := .slice none 0 0) Try.underlying79 (by kernel_rfl) rfl rfl rfl rfl rfl) rfl ?_
  rintro _ w8 ⟨g8, rfl, B8, hg8, ex⟩
  replace HA := HA.ext ex
  replace HB := HB.ext ex
  replace E := E.ext ex
  replace H1 := H1.ext ex
  replace H2 := H2.ext ex
  replace S3 := S3.ext ex
  replace H4 := H4.ext ex
  replace S5 := S5.ext ex
  replace H6 := H6.ext ex
  replace H7 := H7.ext ex
  have S8 := bss_two B8 H7 H6; have h8 := E.size
  refine wl_call Try.func82 rfl rfl rfl (of_any _ 2 2 _ _ S8 (by omega) (by simp [Mac.held_length, Sha.sum_length])) rfl ?_
  rintro e w9 ⟨g9, rfl, hg9, B9, ex⟩
  refine ⟨_, rfl, ?_⟩
  replace HA := HA.ext ex
  replace HB := HB.ext ex
  replace E := E.ext ex
  replace H1 := H1.ext ex
  replace H2 := H2.ext ex
  replace S3 := S3.ext ex
  replace H4 := H4.ext ex
  replace S5 := S5.ext ex
  replace H6 := H6.ext ex
  replace H7 := H7.ext ex
  replace S8 := S8.ext ex
  skip
  refine wl_y (y_assign rfl) rfl ?_
  refine wl_nil ?_
  refine wq_then_norm (hK3 ?_)
  refine wc_ret ?_
  refine hret rfl ?_
  exact ⟨g9, rfl, by omega, B9.congr (by simp [Mac.tag]), E⟩
end Go.Proofs.Ytjllhimhiekchaa
