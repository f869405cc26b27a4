/- dh's Clamp, Mul, Base, Shared: what each hands back. -/
import Derived.Test.YtjllhimhiekchaaDhB
namespace Go.Proofs.Ytjllhimhiekchaa
open Go.RowKit
attribute [local irreducible] Y Ef WL WC WK WQ WM OpM WN WF OpN
/-- A clamped key. -/
def clampB (xs : List UInt8) : List UInt8 := ((Fp.pad xs).set 0 (UInt8.ofNat (((Fp.pad xs).getD 0 0).toNat / 8 * 8))).set 31 (UInt8.ofNat (((Fp.pad xs).getD 31 0).toNat % 64 + 64))
theorem clampB_length (xs : List UInt8) : (clampB xs).length = 32 := by unfold clampB; rw [List.length_set, List.length_set, Fp.pad_length]
theorem andNot7 : ∀ x : Fin 256, bits .andNot .u8 ((x.val : Nat) : Int) 7 = ((x.val / 8 * 8 : Nat) : Int) := by decide +kernel
theorem and63 : ∀ x : Fin 256, bits .and .u8 ((x.val : Nat) : Int) 63 = ((x.val % 64 : Nat) : Int) := by decide +kernel
theorem or64 : ∀ x : Fin 64, bits .or .u8 ((x.val : Nat) : Int) 64 = ((x.val + 64 : Nat) : Int) := by decide +kernel
theorem bys_at (l : List UInt8) (i : Nat) (h : i < l.length) : (bys l)[i]? = some (.int .u8 ((l.getD i 0).toNat : Int)) := by
  simp [bys, bv, h]
theorem bys_put (l : List UInt8) (i : Nat) (x : UInt8) : (bys l).setIfInBounds i (.int .u8 (x.toNat : Int)) = bys (l.set i x) := by
  simp [bys, bv, List.map_set]
theorem ofNat_val {n : Nat} (h : n < 256) : ((UInt8.ofNat n).toNat : Int) = (n : Int) := by rw [UInt8.toNat_ofNat']; omega
theorem clamp_any (A : Option Addr) (n c : Nat) (xs : List UInt8) (w : World) (HA : Bs w A n xs) :
    Calls Try.prog 53 #[.slice A n c] w fun e w' => ∃ g, e = .returned (.slice (some ⟨g, 0, none⟩) 32 32) ∧ Bs w' (some ⟨g, 0, none⟩) 32 (clampB xs) ∧ Ext w w' := by
  have hl := HA.1
  have hpl := Fp.pad_length xs
  have HT : Bs w A (min n 32) (xs.take 32) := by
    have h := HA.take (Nat.min_le_left n 32)
    have e : xs.take (min n 32) = xs.take 32 := by
      rcases Nat.le_total n 32 with h | h
      · rw [Nat.min_eq_left h, List.take_of_length_le (by omega), List.take_of_length_le (by omega)]
      · rw [Nat.min_eq_right h]
    rwa [e] at h
  obtain ⟨x0, hx0⟩ : ∃ x, x = ((Fp.pad xs).getD 0 0).toNat := ⟨_, rfl⟩
  obtain ⟨x1, hx1⟩ : ∃ x, x = ((Fp.pad xs).getD 31 0).toNat := ⟨_, rfl⟩
  have h0 : x0 < 256 := hx0 ▸ UInt8.toNat_lt _
  have h1 : x1 < 256 := hx1 ▸ UInt8.toNat_lt _
  refine vc_enter1 21 Try.func53 rfl rfl rfl rfl ?_
  intro Q hret
  refine wc_seq ?_; intro K1 hK1
  refine wc_region ?_
  refine wl_y (y_assign rfl) rfl ?_
  refine wl_nil ?_
  refine wq_then_norm (hK1 ?_)
  refine wc_seq ?_; intro K2 hK2
  refine wc_region ?_
  refine wl_ef (ef_make (n := 32) (z := .int .u8 0) (bytes := 1) rfl rfl Try.underlying22 (by kernel_rfl) rfl rfl rfl rfl (by omega) (by omega)) rfl ?_
  rintro _ w1 ⟨g, rfl, B1, hg, ex⟩
  have E1 := ex; replace B1 := B1.congr (show _ = bys (zbs 32) from rfl)
  refine wl_y (y_assign rfl) rfl ?_
  refine wl_nil ?_
  refine wq_then_norm (hK2 ?_)
  refine wc_seq ?_; intro K3 hK3
  refine wc_region ?_
  refine wl_y (y_move rfl) rfl ?_
  refine wl_y (y_move rfl) rfl ?_
  refine wl_ef (ef_copy rfl rfl Try.underlying22 (by kernel_rfl) B1 (HT.wk E1).2 (by rw [List.length_map, HT.1]) (by rw [List.length_map, HT.1, bys_size]; simp [zbs]; omega) (by intro u hu; exact bv_one u hu)) rfl ?_
  rintro _ w2 ⟨rfl, B2, cg⟩
  have E2 := E1.chg cg hg; replace B2 := padded xs B2
  refine wl_nil ?_
  refine wq_then_norm (hK3 ?_)
  refine wc_seq ?_; intro K4 hK4
  refine wc_region ?_
  refine wl_y (y_move rfl) rfl ?_
  refine wl_y (y_ixs1 rfl rfl Try.underlying22 (by kernel_rfl) (j := 0) rfl (by omega)) rfl ?_
  refine wl_y (y_load1 rfl Try.underlying5 rfl (B2.get (bys_at _ 0 (by omega)))) rfl ?_
  refine wl_y (y_andNot rfl rfl (show bits .andNot .u8 _ 7 = ((x0 / 8 * 8 : Nat) : Int) by rw [← hx0]; exact andNot7 ⟨x0, h0⟩)) rfl ?_
  refine wl_y (y_ixs1 rfl rfl Try.underlying22 (by kernel_rfl) (j := 0) rfl (by omega)) rfl ?_
  rw [← ofNat_val (n := x0 / 8 * 8) (by omega)]
  refine wl_ef (ef_storeB rfl rfl rfl (by kernel_rfl) B2 (by rw [bys_size]; omega)) rfl ?_
  rintro _ w3 ⟨rfl, B3, cg⟩
  have E3 := E2.chg cg hg; rw [bys_put] at B3
  refine wl_nil ?_
  refine wq_then_norm (hK4 ?_)
  refine wc_seq ?_; intro K5 hK5
  refine wc_region ?_
  refine wl_y (y_move rfl) rfl ?_
  refine wl_y (y_move rfl) rfl ?_
  refine wl_y (y_ixs1 rfl rfl Try.underlying22 (by kernel_rfl) (j := 31) rfl (by omega)) rfl ?_
  refine wl_y (y_load1 rfl Try.underlying5 rfl (B3.get (bys_at _ 31 (by rw [List.length_set]; omega)))) rfl ?_
  refine wl_y (y_and rfl rfl (show bits .and .u8 _ 63 = ((x1 % 64 : Nat) : Int) by rw [List.getD_eq_getElem?_getD, List.getElem?_set_ne (by omega), ← List.getD_eq_getElem?_getD, ← hx1]; exact and63 ⟨x1, h1⟩)) rfl ?_
  refine wl_y (y_or rfl rfl (or64 ⟨x1 % 64, by omega⟩)) rfl ?_
  refine wl_y (y_ixs1 rfl rfl Try.underlying22 (by kernel_rfl) (j := 31) rfl (by omega)) rfl ?_
  rw [← ofNat_val (n := x1 % 64 + 64) (by omega)]
  refine wl_ef (ef_storeB rfl rfl rfl (by kernel_rfl) B3 (by rw [bys_size, List.length_set]; omega)) rfl ?_
  rintro _ w4 ⟨rfl, B4, cg⟩
  have E4 := E3.chg cg hg; rw [bys_put] at B4
  refine wl_nil ?_
  refine wq_then_norm (hK5 ?_)
  refine wc_seq ?_; intro K6 hK6
  refine wc_region ?_
  refine wl_y (y_move rfl) rfl ?_
  refine wl_y (y_assign rfl) rfl ?_
  refine wl_nil ?_
  refine wq_then_norm (hK6 ?_)
  refine wc_ret ?_
  refine hret rfl ?_
  exact ⟨g, rfl, bs_blk' (xs := clampB xs) (B4.congr (by unfold clampB; rw [← hx0, ← hx1])) (clampB_length xs), E4⟩
/-- The first that a predicate holds of, or none. -/
theorem indexFunc_any (A : Option Addr) (n c : Nat) (xs : List UInt8) (f : FuncId) (us : List Value) (p : UInt8 → Bool) (fn : Func) (b : Code) (w : World) (HA : Bs w A n xs) (hn : n ≤ 1000000) (hf : Try.prog.funcs[f]? = some fn) (hb : fn.body = some b) (hnm : (fn.name == "runtime.NumGoroutine") = false)
    (hp : ∀ (x : UInt8) (w1 : World), Ext w w1 → Calls Try.prog f ([Value.int .u8 (x.toNat : Int)] ++ us).toArray w1 fun e w' => e = .returned (.bool (p x)) ∧ Ext w1 w') :
    Calls Try.prog 57 #[.slice A n c, .func (.func f) #[] us.toArray] w fun e w' => ∃ z : Int, e = .returned (.int .i64 z) ∧ (0 ≤ z ↔ xs.any p = true) ∧ Ext w w' := by
  have hl := HA.1
  refine vc_enter1 19 Try.func57 rfl rfl rfl rfl ?_
  intro Q hret
  refine wc_seq ?_; intro K1 hK1
  refine wc_region ?_
  refine wl_y (y_assign rfl) rfl ?_
  refine wl_nil ?_
  refine wq_then_norm (hK1 ?_)
  refine wc_seq ?_; intro K2 hK2
  refine wc_seq ?_; intro K3 hK3
  refine wc_region ?_
  refine wl_y (y_move rfl) rfl ?_
  refine wl_y (y_len_slice rfl Try.underlying22) rfl ?_
  refine wl_y (y_move rfl) rfl ?_
  refine wl_nil ?_
  refine wq_then_norm (hK3 ?_)
  refine wc_block ?_
  refine wc_loop (fun n' L wr => ∃ i : Nat, L = [(0, .slice A n c), (1, .func (.func f) #[] us.toArray), (7, .int .i64 (n : Int)), (8, .int .i64 (i : Int))] ∧ n' = n - i ∧ (i ≤ n ∧ Ext w wr ∧ (xs.take i).any p = false)) _ _ ⟨0, rfl, rfl, by omega, Ext.refl _, rfl⟩ ⟨rfl, rfl, (by first | rfl | exact congrArg some (int_val (by omega))), (by first | rfl | exact congrArg some (int_val (by omega))), trivial⟩ ?_
  rintro KL1 n' L wr ⟨i, rfl, rfl, hi, E, hno⟩ hL1
  refine wc_seq ?_; intro K4 hK4
  refine wc_region ?_
  refine wl_y (y_lss rfl rfl) rfl ?_
  refine wl_nil ?_
  refine wq_then_norm (hK4 ?_)
  refine wc_seq ?_; intro K5 hK5
  refine wc_dec rfl (fun hc1 => ?_) (fun hc1 => ?_)
  · skip
    refine wc_skip ?_
    refine wq_then_norm (hK5 ?_)
    refine wc_seq ?_; intro K6 hK6
    refine wc_block ?_
    refine wc_seq ?_; intro K7 hK7
    refine wc_region ?_
    refine wl_y (y_move rfl) rfl ?_
    refine wl_y (y_assign rfl) rfl ?_
    refine wl_nil ?_
    refine wq_then_norm (hK7 ?_)
    refine wc_seq ?_; intro K8 hK8
    obtain ⟨b1, off1, x, rfl, hx, hcx⟩ := (HA.wk E).byte (k := i) (by omega)
    have htk : xs.take (i + 1) = xs.take i ++ [x] := by
      rw [List.take_succ_eq_append_getElem (by omega), hx.out, List.getD_eq_getElem?_getD, List.getElem?_eq_getElem (by omega)]; rfl
    refine wc_region ?_
    refine wl_y (y_move rfl) rfl ?_
    refine wl_y (y_move rfl) rfl ?_
    refine wl_y (y_move rfl) rfl ?_
    refine wl_y (y_ixs1 rfl rfl Try.underlying22 (by kernel_rfl) rfl (by omega)) rfl ?_
    refine wl_y (y_load1 rfl Try.underlying5 rfl hcx) rfl ?_
    refine wl_ef (ef_callv (Φ := fun v w' => v = .bool (p x) ∧ Ext _ w') (xs := [_]) (vs := [.int .u8 (x.toNat : Int)]) rfl hf hb hnm rfl (hp x _ E) (fun _ _ h => ⟨_, h.1, rfl, h.2⟩)) rfl ?_
    rintro _ w2 ⟨rfl, ex⟩
    have E2 := E.ext ex
    refine wl_nil ?_
    refine wq_then_norm (hK8 ?_)
    refine wc_cond rfl (fun hc2 => ?_) (fun hc2 => ?_)
    · skip
      refine wc_seq ?_; intro K9 hK9
      refine wc_region ?_
      refine wl_y (y_move rfl) rfl ?_
      refine wl_y (y_assign rfl) rfl ?_
      refine wl_nil ?_
      refine wq_then_norm (hK9 ?_)
      refine wc_ret ?_
      refine wq_blk_ret ?_
      refine wq_then_ret ?_
      refine wq_then_ret ?_
      refine wq_blk_ret ?_
      refine wq_then_ret ?_
      refine hret rfl ?_
      refine ⟨i, rfl, ⟨fun _ => ?_, fun _ => by omega⟩, E2⟩
      rw [List.any_eq_true]
      exact ⟨x, List.mem_of_mem_take (i := i + 1) (by rw [htk]; simp), hc2⟩
    · skip
      refine wc_skip ?_
      refine wq_blk_norm ?_
      refine wq_then_norm (hK6 ?_)
      refine wc_region ?_
      refine wl_y (y_add rfl rfl (i64_ok (by omega) (by omega))) rfl ?_
      refine wl_y (y_move rfl) rfl ?_
      refine wl_nil ?_
      refine wq_then_norm ?_
      refine hL1 _ _ ⟨i + 1, rfl, rfl, by omega, E2, by rw [htk, List.any_append, hno]; simpa using hc2⟩ (by omega) ⟨rfl, rfl, (by first | rfl | exact congrArg some (int_val (by omega))), (by first | rfl | exact congrArg some (int_val (by omega))), trivial⟩
  · skip
    refine wc_exit ?_
    refine wq_then_exit ?_
    refine wq_then_exit ?_
    refine wq_blk_hit ?_
    refine wq_then_norm (hK2 ?_)
    refine wc_seq ?_; intro K10 hK10
    refine wc_region ?_
    refine wl_y (y_assign rfl) rfl ?_
    refine wl_nil ?_
    refine wq_then_norm (hK10 ?_)
    refine wc_ret ?_
    refine hret rfl ?_
    refine ⟨-1, rfl, ⟨fun h => absurd h (by omega), fun h => ?_⟩, E⟩
    rw [List.take_of_length_le (by omega)] at hno
    rw [hno] at h
    cases h
theorem containsFunc_any (A : Option Addr) (n c : Nat) (xs : List UInt8) (f : FuncId) (us : List Value) (p : UInt8 → Bool) (fn : Func) (b : Code) (w : World) (HA : Bs w A n xs) (hn : n ≤ 1000000) (hf : Try.prog.funcs[f]? = some fn) (hb : fn.body = some b) (hnm : (fn.name == "runtime.NumGoroutine") = false)
    (hp : ∀ (x : UInt8) (w1 : World), Ext w w1 → Calls Try.prog f ([Value.int .u8 (x.toNat : Int)] ++ us).toArray w1 fun e w' => e = .returned (.bool (p x)) ∧ Ext w1 w') :
    Calls Try.prog 36 #[.slice A n c, .func (.func f) #[] us.toArray] w fun e w' => e = .returned (.bool (xs.any p)) ∧ Ext w w' := by
  refine vc_enter1 9 Try.func36 rfl rfl rfl rfl ?_
  intro Q hret
  refine wc_seq ?_; intro K1 hK1
  refine wc_region ?_
  refine wl_y (y_assign rfl) rfl ?_
  refine wl_nil ?_
  refine wq_then_norm (hK1 ?_)
  refine wc_seq ?_; intro K2 hK2
  refine wc_region ?_
  refine wl_y (y_move rfl) rfl ?_
  refine wl_y (y_move rfl) rfl ?_
  refine wl_call Try.func57 rfl rfl rfl (indexFunc_any A n c xs f us p fn b _ HA hn hf hb hnm hp) rfl ?_
  rintro e w2 ⟨z, rfl, hz, ex⟩
  refine ⟨_, rfl, ?_⟩
  skip
  refine wl_y (y_geq rfl rfl) rfl ?_
  refine wl_y (y_assign rfl) rfl ?_
  refine wl_nil ?_
  refine wq_then_norm (hK2 ?_)
  refine wc_ret ?_
  refine hret rfl ?_
  exact ⟨(ret_bool_of hz.symm).symm, ex⟩
theorem shared1_any (x : UInt8) (w : World) : Calls Try.prog 37 #[.int .u8 (x.toNat : Int)] w fun e w' => e = .returned (.bool (decide (x ≠ 0))) ∧ Ext w w' := by
  refine vc_enter1 5 Try.func37 rfl rfl rfl rfl ?_
  intro Q hret
  refine wc_seq ?_; intro K1 hK1
  refine wc_region ?_
  refine wl_y (y_assign rfl) rfl ?_
  refine wl_nil ?_
  refine wq_then_norm (hK1 ?_)
  refine wc_seq ?_; intro K2 hK2
  refine wc_region ?_
  refine wl_y (y_move rfl) rfl ?_
  refine wl_y (y_neq rfl rfl) rfl ?_
  refine wl_y (y_assign rfl) rfl ?_
  refine wl_nil ?_
  refine wq_then_norm (hK2 ?_)
  refine wc_ret ?_
  refine hret rfl ?_
  exact ⟨ret_bool ⟨fun h e => h (by rw [e]; rfl), fun h e => h (UInt8.toNat_inj.1 (by simpa using e))⟩, Ext.refl _⟩
end Go.Proofs.Ytjllhimhiekchaa
