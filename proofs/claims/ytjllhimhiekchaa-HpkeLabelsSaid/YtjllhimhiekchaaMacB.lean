/- The reference's tag, and which tags are right. Lengths up to 2^45. -/
import Derived.Test.YtjllhimhiekchaaMacA
namespace Go.Proofs.Ytjllhimhiekchaa
open Go.RowKit
attribute [local irreducible] Y Ef WL WC WK WQ WM OpM
theorem k64_get (ks xs : List UInt8) (h : ks = if 64 < xs.length then Sha.sum xs else xs) (k : Nat) : (Mac.k64 xs).getD k 0 = ks.getD k 0 := by
  have e : Mac.k64 xs = ks ++ zbs (64 - ks.length) := by rw [h]; rfl
  rw [e, List.getD_eq_getElem?_getD, List.getD_eq_getElem?_getD, List.getElem?_append]
  by_cases hk : k < ks.length
  · simp [hk]
  · simp only [hk, if_false]
    rw [List.getElem?_eq_none (by omega : ks.length ≤ k)]
    simp [zbs, List.getElem?_replicate]
    split <;> simp
theorem take_xor (X : List UInt8) (k : Nat) (hk : k < X.length) (c y : UInt8) (hy : X.getD k 0 = y) : (X.take k).map (· ^^^ c) ++ [y ^^^ c] = (X.take (k + 1)).map (· ^^^ c) := by
  rw [List.take_succ_eq_append_getElem hk, List.map_append]
  subst hy
  simp [hk]
theorem ref04_any (A B : Option Addr) (n c m d : Nat) (xs ys : List UInt8) (w : World) (HA : Bs w A n xs) (hn : n ≤ 35184372088832) (HB : Bs w B m ys) (hm : m ≤ 35184372088000) :
    Calls Try.prog 51 #[.slice A n c, .slice B m d] w fun e w' => ∃ A' c', e = .returned (.slice A' 32 c') ∧ Row w' w.heap.size 5 A' 32 c' ((Mac.tag xs ys).map bv) ∧ Ext w w' := by
  have E := Ext.refl w
  obtain ⟨X, hX⟩ : ∃ X, X = Mac.k64 xs := ⟨_, rfl⟩
  have hXl : X.length = 64 := by rw [hX]; exact Mac.k64_length _
  refine vc_enter1 43 Try.func51 rfl rfl rfl rfl ?_
  intro Q hret
  refine wc_seq ?_; intro K1 hK1
  refine wc_region ?_
  refine wl_y (y_assign rfl) rfl ?_
  refine wl_nil ?_
  refine wq_then_norm (hK1 ?_)
  refine wc_seq ?_; intro K2 hK2
  refine wc_seq ?_; intro K3 hK3
  refine wc_region ?_
  refine wl_y (y_move rfl) rfl ?_
  refine wl_y (y_len_slice rfl Try.underlying22) rfl ?_
  refine wl_y (y_gtr rfl rfl) rfl ?_
  refine wl_nil ?_
  refine wq_then_norm (hK3 ?_)
  refine wc_dec rfl (fun hc1 => ?_) (fun hc1 => ?_)
  · skip
    refine wc_region ?_
    refine wl_y (y_move rfl) rfl ?_
    refine wl_call Try.func70 rfl rfl rfl (digest_any A n c xs _ HA hn) rfl ?_
    rintro e w1 ⟨A1, c1, rfl, O1, ex⟩
    refine ⟨_, rfl, ?_⟩
    replace HA := HA.ext ex
    replace HB := HB.ext ex
    replace E := E.ext ex
    have HK := O1.bs
    refine wl_y (y_assign rfl) rfl ?_
    refine wl_nil ?_
    refine wq_then_norm (hK2 ?_)
    refine wc_seq ?_; intro K4 hK4
    refine wc_region ?_
    refine wl_y (y_assign rfl) rfl ?_
    refine wl_y (y_assign rfl) rfl ?_
    refine wl_nil ?_
    refine wq_then_norm (hK4 ?_)
    refine wc_seq ?_; intro K5 hK5
    refine wc_seq ?_; intro K6 hK6
    refine wc_region ?_
    refine wl_y (y_assign rfl) rfl ?_
    refine wl_nil ?_
    refine wq_then_norm (hK6 ?_)
    refine wc_block ?_
    have hks : ∀ k, X.getD k 0 = (Sha.sum xs).getD k 0 := fun k => by rw [hX]; exact k64_get _ _ (by have := HA.1; split <;> first | rfl | omega) k
    refine wc_loop (fun n' L wr => ∃ (k c5 c6 : Nat) (A5 A6 : Option Addr), L = [(0, .slice A1 32 c1), (1, .slice B m d), (5, .slice A5 k c5), (6, .slice A6 k c6), (7, .int .i64 (k : Int))] ∧ n' = 64 - k ∧ (k ≤ 64 ∧ Ext w1 wr ∧ Row wr w1.heap.size 5 A5 k c5 (((X.take k).map (· ^^^ 54)).map bv) ∧ Row wr w1.heap.size 5 A6 k c6 (((X.take k).map (· ^^^ 92)).map bv) ∧ Dj A5 A6)) _ _ ⟨0, 0, 0, none, none, rfl, rfl, by omega, Ext.refl _, Row.empty _ _ _, Row.empty _ _ _, Dj.none_l _⟩ ⟨rfl, rfl, rfl, rfl, (by first | rfl | exact congrArg some (int_val (by omega))), trivial⟩ ?_
    rintro KL1 n' L wr ⟨k, c5, c6, A5, A6, rfl, rfl, hk, F, R5, R6, hD⟩ hL1
    refine wc_seq ?_; intro K7 hK7
    refine wc_seq ?_; intro K8 hK8
    refine wc_region ?_
    refine wl_y (y_move rfl) rfl ?_
    refine wl_y (y_lss rfl rfl) rfl ?_
    refine wl_nil ?_
    refine wq_then_norm (hK8 ?_)
    refine wc_dec rfl (fun hc2 => ?_) (fun hc2 => ?_)
    · skip
      refine wc_skip ?_
      refine wq_then_norm (hK7 ?_)
      refine wc_seq ?_; intro K9 hK9
      refine wc_block ?_
      refine wc_seq ?_; intro K10 hK10
      refine wc_region ?_
      refine wl_y (y_assign rfl) rfl ?_
      refine wl_nil ?_
      refine wq_then_norm (hK10 ?_)
      refine wc_seq ?_; intro K11 hK11
      refine wc_seq ?_; intro K12 hK12
      refine wc_region ?_
      refine wl_y (y_move rfl) rfl ?_
      refine wl_y (y_move rfl) rfl ?_
      refine wl_y (y_len_slice rfl Try.underlying22) rfl ?_
      refine wl_yask (y_lss rfl rfl) rfl (fun hlt => ?_) (fun hlt => ?_)
      · skip
        refine wl_nil ?_
        refine wq_then_norm (hK12 ?_)
        refine wc_true rfl rfl ?_
        obtain ⟨b, off, y, rfl, hy, hcy⟩ := (HK.ext F).byte (k := k) (by omega)
        refine wc_region ?_
        refine wl_y (y_move rfl) rfl ?_
        refine wl_y (y_move rfl) rfl ?_
        refine wl_y (y_ixs1 rfl rfl Try.underlying22 (by kernel_rfl) rfl (by omega)) rfl ?_
        refine wl_y (y_load1 rfl Try.underlying5 rfl hcy) rfl ?_
        have hyX : X.getD k 0 = y := by rw [hks, hy.out]
        refine wl_y (y_assign rfl) rfl ?_
        refine wl_nil ?_
        refine wq_then_norm (hK11 ?_)
        refine wc_seq ?_; intro K13 hK13
        refine wc_region ?_
        have hyb := (y).toNat_lt
        refine wl_y (y_move rfl) rfl ?_
        refine wl_y (y_move rfl) rfl ?_
        refine wl_y (y_xor rfl rfl (bits_u8 (p := (y).toNat) (q := 54) (by omega) (by omega)).2.2) rfl ?_
        refine wl_ef (ef_lit (z := .int .u8 0) Try.underlying22 (by kernel_rfl) rfl rfl rfl rfl rfl) rfl ?_
        rintro _ w5 ⟨g5, rfl, B5, hg5, ex⟩
        replace F := F.ext ex
        replace R5 := R5.ext ex; replace R6 := R6.ext ex
        refine wl_ef (ef_app rfl rfl eltB R5 (At.blk (vs := [y ^^^ 54].map bv) (B5.congr (by rfl))) rfl (by intro u hu; exact bv_one u hu) (by omega) (by omega) F.size) rfl ?_
        rintro _ w6 ⟨A7, c7, rfl, R7, be, gr, hl⟩
        have F6 := F.trans be; have q6 := Row.app R6 hD gr hl R5.none_s; have R8 := R7.cat; rw [take_xor X k (by omega) 54 _ hyX] at R8
        refine wl_y (y_assign rfl) rfl ?_
        refine wl_nil ?_
        refine wq_then_norm (hK13 ?_)
        refine wc_region ?_
        have hs6 := F6.size
        refine wl_y (y_move rfl) rfl ?_
        refine wl_y (y_move rfl) rfl ?_
        refine wl_y (y_xor rfl rfl (bits_u8 (p := (y).toNat) (q := 92) (by omega) (by omega)).2.2) rfl ?_
        refine wl_ef (ef_lit (z := .int .u8 0) Try.underlying22 (by kernel_rfl) rfl rfl rfl rfl rfl) rfl ?_
        rintro _ w7 ⟨g7, rfl, B7, hg7, ex⟩
        replace R8 := R8.ext ex; have R9 := q6.1.ext ex; have F7 := F6.ext ex
        refine wl_ef (ef_app rfl rfl eltB R9 (At.blk (vs := [y ^^^ 92].map bv) (B7.congr (by rfl))) rfl (by intro u hu; exact bv_one u hu) (by omega) (by omega) F7.size) rfl ?_
        rintro _ w8 ⟨A9, c9, rfl, R10, be, gr, hl⟩
        have F8 := F7.trans be; have q8 := Row.app R8 q6.2.symm gr hl R9.none_s; have R11 := R10.cat; rw [take_xor X k (by omega) 92 _ hyX] at R11
        refine wl_y (y_assign rfl) rfl ?_
        refine wl_nil ?_
        refine wq_blk_norm ?_
        refine wq_then_norm (hK9 ?_)
        refine wc_region ?_
        refine wl_y (y_move rfl) rfl ?_
        refine wl_y (y_add rfl rfl (i64_ok (by omega) (by omega))) rfl ?_
        refine wl_y (y_assign rfl) rfl ?_
        refine wl_nil ?_
        refine wq_then_norm ?_
        refine hL1 _ _ ⟨k + 1, c7, c9, A7, A9, rfl, rfl, by omega, F8, q8.1, R11, q8.2.symm⟩ (by omega) ⟨rfl, rfl, rfl, rfl, (by first | rfl | exact congrArg some (int_val (by omega))), trivial⟩
      · skip
        refine wl_nil ?_
        refine wq_then_norm (hK12 ?_)
        refine wc_false rfl rfl ?_
        refine wc_skip ?_
        refine wq_then_norm (hK11 ?_)
        refine wc_seq ?_; intro K14 hK14
        have hyX : X.getD k 0 = 0 := by rw [hks, List.getD_eq_getElem?_getD, List.getElem?_eq_none (by rw [HK.1]; omega)]; rfl
        refine wc_region ?_
        have hyb := ((0 : UInt8)).toNat_lt
        refine wl_y (y_move rfl) rfl ?_
        refine wl_y (y_move rfl) rfl ?_
        refine wl_y (y_xor rfl rfl (bits_u8 (p := ((0 : UInt8)).toNat) (q := 54) (by omega) (by omega)).2.2) rfl ?_
        refine wl_ef (ef_lit (z := .int .u8 0) Try.underlying22 (by kernel_rfl) rfl rfl rfl rfl rfl) rfl ?_
        rintro _ w5 ⟨g5, rfl, B5, hg5, ex⟩
        replace F := F.ext ex
        replace R5 := R5.ext ex; replace R6 := R6.ext ex
        refine wl_ef (ef_app rfl rfl eltB R5 (At.blk (vs := [(0 : UInt8) ^^^ 54].map bv) (B5.congr (by rfl))) rfl (by intro u hu; exact bv_one u hu) (by omega) (by omega) F.size) rfl ?_
        rintro _ w6 ⟨A7, c7, rfl, R7, be, gr, hl⟩
        have F6 := F.trans be; have q6 := Row.app R6 hD gr hl R5.none_s; have R8 := R7.cat; rw [take_xor X k (by omega) 54 _ hyX] at R8
        refine wl_y (y_assign rfl) rfl ?_
        refine wl_nil ?_
        refine wq_then_norm (hK14 ?_)
        refine wc_region ?_
        have hs6 := F6.size
        refine wl_y (y_move rfl) rfl ?_
        refine wl_y (y_move rfl) rfl ?_
        refine wl_y (y_xor rfl rfl (bits_u8 (p := ((0 : UInt8)).toNat) (q := 92) (by omega) (by omega)).2.2) rfl ?_
        refine wl_ef (ef_lit (z := .int .u8 0) Try.underlying22 (by kernel_rfl) rfl rfl rfl rfl rfl) rfl ?_
        rintro _ w7 ⟨g7, rfl, B7, hg7, ex⟩
        replace R8 := R8.ext ex; have R9 := q6.1.ext ex; have F7 := F6.ext ex
        refine wl_ef (ef_app rfl rfl eltB R9 (At.blk (vs := [(0 : UInt8) ^^^ 92].map bv) (B7.congr (by rfl))) rfl (by intro u hu; exact bv_one u hu) (by omega) (by omega) F7.size) rfl ?_
        rintro _ w8 ⟨A9, c9, rfl, R10, be, gr, hl⟩
        have F8 := F7.trans be; have q8 := Row.app R8 q6.2.symm gr hl R9.none_s; have R11 := R10.cat; rw [take_xor X k (by omega) 92 _ hyX] at R11
        refine wl_y (y_assign rfl) rfl ?_
        refine wl_nil ?_
        refine wq_blk_norm ?_
        refine wq_then_norm (hK9 ?_)
        refine wc_region ?_
        refine wl_y (y_move rfl) rfl ?_
        refine wl_y (y_add rfl rfl (i64_ok (by omega) (by omega))) rfl ?_
        refine wl_y (y_assign rfl) rfl ?_
        refine wl_nil ?_
        refine wq_then_norm ?_
        refine hL1 _ _ ⟨k + 1, c7, c9, A7, A9, rfl, rfl, by omega, F8, q8.1, R11, q8.2.symm⟩ (by omega) ⟨rfl, rfl, rfl, rfl, (by first | rfl | exact congrArg some (int_val (by omega))), trivial⟩
    · skip
      refine wc_exit ?_
      refine wq_then_exit ?_
      refine wq_then_exit ?_
      refine wq_blk_hit ?_
      refine wq_then_norm (hK5 ?_)
      refine wc_seq ?_; intro K15 hK15
      obtain rfl : k = 64 := by omega
      rw [List.take_of_length_le (by omega), hX] at R5 R6
      have hsF := F.size
      refine wc_region ?_
      refine wl_y (y_move rfl) rfl ?_
      refine wl_y (y_move rfl) rfl ?_
      refine wl_y (y_move rfl) rfl ?_
      refine wl_ef (ef_app rfl rfl eltB R5 (HB.ext F).2 (by rw [List.length_map, HB.1]) (by intro u hu; exact bv_one u hu) (by omega) (by omega) hsF) rfl ?_
      rintro _ w10 ⟨A10, c10, rfl, R10, be, gr, hl⟩
      have F10 := F.trans be; have R11 := (Row.app R6 hD gr hl R5.none_s).1; have R12 := R10.cat.bs
      refine wl_call Try.func70 rfl rfl rfl (digest_any A10 _ c10 _ _ R12 (by omega)) rfl ?_
      rintro e w11 ⟨A11, c11, rfl, O11, ex⟩
      refine ⟨_, rfl, ?_⟩
      have R13 := R11.ext ex; have F11 := F10.ext ex; have hs11 := F11.size
      refine wl_ef (ef_app rfl rfl eltB R13 O11.bs.2 (by rw [List.length_map]; exact O11.bs.1) (by intro u hu; exact bv_one u hu) (by omega) (by omega) hs11) rfl ?_
      rintro _ w12 ⟨A12, c12, rfl, R14, be, gr, hl⟩
      have F12 := F11.trans be; have R15 := R14.cat.bs
      refine wl_call Try.func70 rfl rfl rfl (digest_any A12 _ c12 _ _ R15 (by omega)) rfl ?_
      rintro e w13 ⟨A13, c13, rfl, O13, ex⟩
      refine ⟨_, rfl, ?_⟩
      have F13 := F12.ext ex; have E13 := E.ext F13; have hw12 : w.heap.size ≤ w12.heap.size := Nat.le_trans E.size F12.size; have R16 : Row w13 w.heap.size 5 A13 32 c13 _ := Row.lower O13 hw12
      refine wl_y (y_assign rfl) rfl ?_
      refine wl_nil ?_
      refine wq_then_norm (hK15 ?_)
      refine wc_ret ?_
      refine hret rfl ?_
      exact ⟨_, _, rfl, R16, E13⟩
  · skip
    refine wc_skip ?_
    refine wq_then_norm (hK2 ?_)
    refine wc_seq ?_; intro K16 hK16
    have HK := HA
    refine wc_region ?_
    refine wl_y (y_assign rfl) rfl ?_
    refine wl_y (y_assign rfl) rfl ?_
    refine wl_nil ?_
    refine wq_then_norm (hK16 ?_)
    refine wc_seq ?_; intro K17 hK17
    refine wc_seq ?_; intro K18 hK18
    refine wc_region ?_
    refine wl_y (y_assign rfl) rfl ?_
    refine wl_nil ?_
    refine wq_then_norm (hK18 ?_)
    refine wc_block ?_
    have hks : ∀ k, X.getD k 0 = xs.getD k 0 := fun k => by rw [hX]; exact k64_get _ _ (by have := HA.1; split <;> first | rfl | omega) k
    refine wc_loop (fun n' L wr => ∃ (k c5 c6 : Nat) (A5 A6 : Option Addr), L = [(0, .slice A n c), (1, .slice B m d), (5, .slice A5 k c5), (6, .slice A6 k c6), (7, .int .i64 (k : Int))] ∧ n' = 64 - k ∧ (k ≤ 64 ∧ Ext w wr ∧ Row wr w.heap.size 5 A5 k c5 (((X.take k).map (· ^^^ 54)).map bv) ∧ Row wr w.heap.size 5 A6 k c6 (((X.take k).map (· ^^^ 92)).map bv) ∧ Dj A5 A6)) _ _ ⟨0, 0, 0, none, none, rfl, rfl, by omega, Ext.refl _, Row.empty _ _ _, Row.empty _ _ _, Dj.none_l _⟩ ⟨rfl, rfl, rfl, rfl, (by first | rfl | exact congrArg some (int_val (by omega))), trivial⟩ ?_
    rintro KL1 n' L wr ⟨k, c5, c6, A5, A6, rfl, rfl, hk, F, R5, R6, hD⟩ hL1
    refine wc_seq ?_; intro K19 hK19
    refine wc_seq ?_; intro K20 hK20
    refine wc_region ?_
    refine wl_y (y_move rfl) rfl ?_
    refine wl_y (y_lss rfl rfl) rfl ?_
    refine wl_nil ?_
    refine wq_then_norm (hK20 ?_)
    refine wc_dec rfl (fun hc2 => ?_) (fun hc2 => ?_)
    · skip
      refine wc_skip ?_
      refine wq_then_norm (hK19 ?_)
      refine wc_seq ?_; intro K21 hK21
      refine wc_block ?_
      refine wc_seq ?_; intro K22 hK22
      refine wc_region ?_
      refine wl_y (y_assign rfl) rfl ?_
      refine wl_nil ?_
      refine wq_then_norm (hK22 ?_)
      refine wc_seq ?_; intro K23 hK23
      refine wc_seq ?_; intro K24 hK24
      refine wc_region ?_
      refine wl_y (y_move rfl) rfl ?_
      refine wl_y (y_move rfl) rfl ?_
      refine wl_y (y_len_slice rfl Try.underlying22) rfl ?_
      refine wl_yask (y_lss rfl rfl) rfl (fun hlt => ?_) (fun hlt => ?_)
      · skip
        refine wl_nil ?_
        refine wq_then_norm (hK24 ?_)
        refine wc_true rfl rfl ?_
        obtain ⟨b, off, y, rfl, hy, hcy⟩ := (HK.ext F).byte (k := k) (by omega)
        refine wc_region ?_
        refine wl_y (y_move rfl) rfl ?_
        refine wl_y (y_move rfl) rfl ?_
        refine wl_y (y_ixs1 rfl rfl Try.underlying22 (by kernel_rfl) rfl (by omega)) rfl ?_
        refine wl_y (y_load1 rfl Try.underlying5 rfl hcy) rfl ?_
        have hyX : X.getD k 0 = y := by rw [hks, hy.out]
        refine wl_y (y_assign rfl) rfl ?_
        refine wl_nil ?_
        refine wq_then_norm (hK23 ?_)
        refine wc_seq ?_; intro K25 hK25
        refine wc_region ?_
        have hyb := (y).toNat_lt
        refine wl_y (y_move rfl) rfl ?_
        refine wl_y (y_move rfl) rfl ?_
        refine wl_y (y_xor rfl rfl (bits_u8 (p := (y).toNat) (q := 54) (by omega) (by omega)).2.2) rfl ?_
        refine wl_ef (ef_lit (z := .int .u8 0) Try.underlying22 (by kernel_rfl) rfl rfl rfl rfl rfl) rfl ?_
        rintro _ w5 ⟨g5, rfl, B5, hg5, ex⟩
        replace F := F.ext ex
        replace R5 := R5.ext ex; replace R6 := R6.ext ex
        refine wl_ef (ef_app rfl rfl eltB R5 (At.blk (vs := [y ^^^ 54].map bv) (B5.congr (by rfl))) rfl (by intro u hu; exact bv_one u hu) (by omega) (by omega) F.size) rfl ?_
        rintro _ w6 ⟨A7, c7, rfl, R7, be, gr, hl⟩
        have F6 := F.trans be; have q6 := Row.app R6 hD gr hl R5.none_s; have R8 := R7.cat; rw [take_xor X k (by omega) 54 _ hyX] at R8
        refine wl_y (y_assign rfl) rfl ?_
        refine wl_nil ?_
        refine wq_then_norm (hK25 ?_)
        refine wc_region ?_
        have hs6 := F6.size
        refine wl_y (y_move rfl) rfl ?_
        refine wl_y (y_move rfl) rfl ?_
        refine wl_y (y_xor rfl rfl (bits_u8 (p := (y).toNat) (q := 92) (by omega) (by omega)).2.2) rfl ?_
        refine wl_ef (ef_lit (z := .int .u8 0) Try.underlying22 (by kernel_rfl) rfl rfl rfl rfl rfl) rfl ?_
        rintro _ w7 ⟨g7, rfl, B7, hg7, ex⟩
        replace R8 := R8.ext ex; have R9 := q6.1.ext ex; have F7 := F6.ext ex
        refine wl_ef (ef_app rfl rfl eltB R9 (At.blk (vs := [y ^^^ 92].map bv) (B7.congr (by rfl))) rfl (by intro u hu; exact bv_one u hu) (by omega) (by omega) F7.size) rfl ?_
        rintro _ w8 ⟨A9, c9, rfl, R10, be, gr, hl⟩
        have F8 := F7.trans be; have q8 := Row.app R8 q6.2.symm gr hl R9.none_s; have R11 := R10.cat; rw [take_xor X k (by omega) 92 _ hyX] at R11
        refine wl_y (y_assign rfl) rfl ?_
        refine wl_nil ?_
        refine wq_blk_norm ?_
        refine wq_then_norm (hK21 ?_)
        refine wc_region ?_
        refine wl_y (y_move rfl) rfl ?_
        refine wl_y (y_add rfl rfl (i64_ok (by omega) (by omega))) rfl ?_
        refine wl_y (y_assign rfl) rfl ?_
        refine wl_nil ?_
        refine wq_then_norm ?_
        refine hL1 _ _ ⟨k + 1, c7, c9, A7, A9, rfl, rfl, by omega, F8, q8.1, R11, q8.2.symm⟩ (by omega) ⟨rfl, rfl, rfl, rfl, (by first | rfl | exact congrArg some (int_val (by omega))), trivial⟩
      · skip
        refine wl_nil ?_
        refine wq_then_norm (hK24 ?_)
        refine wc_false rfl rfl ?_
        refine wc_skip ?_
        refine wq_then_norm (hK23 ?_)
        refine wc_seq ?_; intro K26 hK26
        have hyX : X.getD k 0 = 0 := by rw [hks, List.getD_eq_getElem?_getD, List.getElem?_eq_none (by rw [HK.1]; omega)]; rfl
        refine wc_region ?_
        have hyb := ((0 : UInt8)).toNat_lt
        refine wl_y (y_move rfl) rfl ?_
        refine wl_y (y_move rfl) rfl ?_
        refine wl_y (y_xor rfl rfl (bits_u8 (p := ((0 : UInt8)).toNat) (q := 54) (by omega) (by omega)).2.2) rfl ?_
        refine wl_ef (ef_lit (z := .int .u8 0) Try.underlying22 (by kernel_rfl) rfl rfl rfl rfl rfl) rfl ?_
        rintro _ w5 ⟨g5, rfl, B5, hg5, ex⟩
        replace F := F.ext ex
        replace R5 := R5.ext ex; replace R6 := R6.ext ex
        refine wl_ef (ef_app rfl rfl eltB R5 (At.blk (vs := [(0 : UInt8) ^^^ 54].map bv) (B5.congr (by rfl))) rfl (by intro u hu; exact bv_one u hu) (by omega) (by omega) F.size) rfl ?_
        rintro _ w6 ⟨A7, c7, rfl, R7, be, gr, hl⟩
        have F6 := F.trans be; have q6 := Row.app R6 hD gr hl R5.none_s; have R8 := R7.cat; rw [take_xor X k (by omega) 54 _ hyX] at R8
        refine wl_y (y_assign rfl) rfl ?_
        refine wl_nil ?_
        refine wq_then_norm (hK26 ?_)
        refine wc_region ?_
        have hs6 := F6.size
        refine wl_y (y_move rfl) rfl ?_
        refine wl_y (y_move rfl) rfl ?_
        refine wl_y (y_xor rfl rfl (bits_u8 (p := ((0 : UInt8)).toNat) (q := 92) (by omega) (by omega)).2.2) rfl ?_
        refine wl_ef (ef_lit (z := .int .u8 0) Try.underlying22 (by kernel_rfl) rfl rfl rfl rfl rfl) rfl ?_
        rintro _ w7 ⟨g7, rfl, B7, hg7, ex⟩
        replace R8 := R8.ext ex; have R9 := q6.1.ext ex; have F7 := F6.ext ex
        refine wl_ef (ef_app rfl rfl eltB R9 (At.blk (vs := [(0 : UInt8) ^^^ 92].map bv) (B7.congr (by rfl))) rfl (by intro u hu; exact bv_one u hu) (by omega) (by omega) F7.size) rfl ?_
        rintro _ w8 ⟨A9, c9, rfl, R10, be, gr, hl⟩
        have F8 := F7.trans be; have q8 := Row.app R8 q6.2.symm gr hl R9.none_s; have R11 := R10.cat; rw [take_xor X k (by omega) 92 _ hyX] at R11
        refine wl_y (y_assign rfl) rfl ?_
        refine wl_nil ?_
        refine wq_blk_norm ?_
        refine wq_then_norm (hK21 ?_)
        refine wc_region ?_
        refine wl_y (y_move rfl) rfl ?_
        refine wl_y (y_add rfl rfl (i64_ok (by omega) (by omega))) rfl ?_
        refine wl_y (y_assign rfl) rfl ?_
        refine wl_nil ?_
        refine wq_then_norm ?_
        refine hL1 _ _ ⟨k + 1, c7, c9, A7, A9, rfl, rfl, by omega, F8, q8.1, R11, q8.2.symm⟩ (by omega) ⟨rfl, rfl, rfl, rfl, (by first | rfl | exact congrArg some (int_val (by omega))), trivial⟩
    · skip
      refine wc_exit ?_
      refine wq_then_exit ?_
      refine wq_then_exit ?_
      refine wq_blk_hit ?_
      refine wq_then_norm (hK17 ?_)
      refine wc_seq ?_; intro K27 hK27
      obtain rfl : k = 64 := by omega
      rw [List.take_of_length_le (by omega), hX] at R5 R6
      have hsF := F.size
      refine wc_region ?_
      refine wl_y (y_move rfl) rfl ?_
      refine wl_y (y_move rfl) rfl ?_
      refine wl_y (y_move rfl) rfl ?_
      refine wl_ef (ef_app rfl rfl eltB R5 (HB.ext F).2 (by rw [List.length_map, HB.1]) (by intro u hu; exact bv_one u hu) (by omega) (by omega) hsF) rfl ?_
      rintro _ w10 ⟨A10, c10, rfl, R10, be, gr, hl⟩
      have F10 := F.trans be; have R11 := (Row.app R6 hD gr hl R5.none_s).1; have R12 := R10.cat.bs
      refine wl_call Try.func70 rfl rfl rfl (digest_any A10 _ c10 _ _ R12 (by omega)) rfl ?_
      rintro e w11 ⟨A11, c11, rfl, O11, ex⟩
      refine ⟨_, rfl, ?_⟩
      have R13 := R11.ext ex; have F11 := F10.ext ex; have hs11 := F11.size
      refine wl_ef (ef_app rfl rfl eltB R13 O11.bs.2 (by rw [List.length_map]; exact O11.bs.1) (by intro u hu; exact bv_one u hu) (by omega) (by omega) hs11) rfl ?_
      rintro _ w12 ⟨A12, c12, rfl, R14, be, gr, hl⟩
      have F12 := F11.trans be; have R15 := R14.cat.bs
      refine wl_call Try.func70 rfl rfl rfl (digest_any A12 _ c12 _ _ R15 (by omega)) rfl ?_
      rintro e w13 ⟨A13, c13, rfl, O13, ex⟩
      refine ⟨_, rfl, ?_⟩
      have F13 := F12.ext ex; have E13 := E.ext F13; have hw12 : w.heap.size ≤ w12.heap.size := Nat.le_trans E.size F12.size; have R16 : Row w13 w.heap.size 5 A13 32 c13 _ := Row.lower O13 hw12
      refine wl_y (y_assign rfl) rfl ?_
      refine wl_nil ?_
      refine wq_then_norm (hK27 ?_)
      refine wc_ret ?_
      refine hret rfl ?_
      exact ⟨_, _, rfl, R16, E13⟩
end Go.Proofs.Ytjllhimhiekchaa
