/- dh's Mul, Base, Shared, and the reference's Clamp: what each hands back. -/
import Derived.Test.YtbcbihdfpkeacaaDhC
namespace Go.Proofs.Ytbcbihdfpkeacaa
open Go.RowKit
attribute [local irreducible] Y Ef WL WC WK WQ WM OpM WN WF OpN
/-- A product, or why there is none. -/
def dhM (xs ys : List UInt8) : List UInt8 × Nat := if xs.length ≠ 32 then ([], 1) else if ys.length ≠ 32 then ([], 3) else (Fp.le 32 (dhMul (Fp.num (clampB xs)) (Fp.of (Fp.ofB ys))).val, 0)
def dhS (xs ys : List UInt8) : List UInt8 × Nat := if (dhM xs ys).2 ≠ 0 then ([], (dhM xs ys).2) else if (dhM xs ys).1.any (fun x => decide (x ≠ 0)) then ((dhM xs ys).1, 0) else ([], 9)
/-- Bytes and an error's number; the bytes are new. -/
def RetB (w : World) (r : List UInt8 × Nat) (e : Ending) (w' : World) : Prop := ∃ A k c, e = .returned (.tuple #[.slice A k c, .int .u8 (r.2 : Int)]) ∧ Bs w' A k r.1 ∧ (∀ b o, A = some ⟨b, o, none⟩ → w.heap.size ≤ b) ∧ Ext w w'
theorem dhmul_any (A B : Option Addr) (n c m d : Nat) (xs ys : List UInt8) (w : World) (HA : Bs w A n xs) (HB : Bs w B m ys) :
    Calls Try.prog 59 #[.slice A n c, .slice B m d] w (RetB w (dhM xs ys)) := by
  have hx := HA.1; have hy := HB.1
  refine vc_enter2 19 Try.func59 rfl rfl rfl rfl ?_
  intro Q hret
  refine wc_seq ?_; intro K1 hK1
  refine wc_region ?_
  refine wl_y (y_assign rfl) rfl ?_
  refine wl_y (y_assign rfl) rfl ?_
  refine wl_nil ?_
  refine wq_then_norm (hK1 ?_)
  refine wc_seq ?_; intro K2 hK2
  refine wc_block ?_
  refine wc_seq ?_; intro K3 hK3
  refine wc_region ?_
  refine wl_y (y_move rfl) rfl ?_
  refine wl_y (y_len_slice rfl Try.underlying22) rfl ?_
  refine wl_y (y_neq rfl rfl) rfl ?_
  refine wl_y (y_assign rfl) rfl ?_
  refine wl_nil ?_
  refine wq_then_norm (hK3 ?_)
  refine wc_dec rfl (fun hc1 => ?_) (fun hc1 => ?_)
  · skip
    refine wc_seq ?_; intro K4 hK4
    refine wc_region ?_
    refine wl_y (y_assign rfl) rfl ?_
    refine wl_y (y_assign rfl) rfl ?_
    refine wl_nil ?_
    refine wq_then_norm (hK4 ?_)
    refine wc_ret ?_
    refine wq_blk_ret ?_
    refine wq_then_ret ?_
    refine hret rfl rfl ?_
    exact ⟨none, 0, 0, by rw [dhM, if_pos (by omega)]; rfl, by rw [dhM, if_pos (by omega)]; exact Bs.nil _ _, fun _ _ h => (by cases h), Ext.refl _⟩
  · skip
    refine wc_seq ?_; intro K5 hK5
    refine wc_region ?_
    refine wl_y (y_move rfl) rfl ?_
    refine wl_y (y_len_slice rfl Try.underlying22) rfl ?_
    refine wl_y (y_neq rfl rfl) rfl ?_
    refine wl_y (y_assign rfl) rfl ?_
    refine wl_nil ?_
    refine wq_then_norm (hK5 ?_)
    refine wc_dec rfl (fun hc2 => ?_) (fun hc2 => ?_)
    · skip
      refine wc_seq ?_; intro K6 hK6
      refine wc_region ?_
      refine wl_y (y_assign rfl) rfl ?_
      refine wl_y (y_assign rfl) rfl ?_
      refine wl_nil ?_
      refine wq_then_norm (hK6 ?_)
      refine wc_ret ?_
      refine wq_blk_ret ?_
      refine wq_then_ret ?_
      refine hret rfl rfl ?_
      exact ⟨none, 0, 0, by rw [dhM, if_neg (by omega), if_pos (by omega)]; rfl, by rw [dhM, if_neg (by omega), if_pos (by omega)]; exact Bs.nil _ _, fun _ _ h => (by cases h), Ext.refl _⟩
    · skip
      refine wc_skip ?_
      refine wq_blk_norm ?_
      refine wq_then_norm (hK2 ?_)
      refine wc_seq ?_; intro K7 hK7
      have hM : dhM xs ys = (Fp.le 32 (dhMul (Fp.num (clampB xs)) (Fp.of (Fp.ofB ys))).val, 0) := by rw [dhM, if_neg (by omega), if_neg (by omega)]
      refine wc_region ?_
      refine wl_y (y_move rfl) rfl ?_
      refine wl_call Try.func57 rfl rfl rfl (clamp_any A n c xs _ HA) rfl ?_
      rintro e w1 ⟨g1, rfl, H1, ex⟩
      refine ⟨_, rfl, ?_⟩
      replace HB := HB.ext ex
      have E1 := ex
      refine wl_y (y_move rfl) rfl ?_
      refine wl_call Try.func19 rfl rfl rfl (Fof_any B m d ys _ HB) rfl ?_
      rintro e w2 ⟨c2, rfl, F2, ex⟩
      refine ⟨_, rfl, ?_⟩
      replace HB := HB.ext ex
      replace H1 := H1.ext ex
      obtain ⟨f2, rfl, F2⟩ := F2.fe; have E2 := E1.ext ex
      refine wl_call Try.func120 rfl rfl rfl (product_any _ 32 _ f2 _ _ H1 F2) rfl ?_
      rintro e w3 ⟨g3, rfl, hg3, B3, ex⟩
      refine ⟨_, rfl, ?_⟩
      replace HB := HB.ext ex
      replace H1 := H1.ext ex
      have E3 := E2.ext ex; have hs := E2.size
      refine wl_y (y_assign rfl) rfl ?_
      refine wl_y (y_assign rfl) rfl ?_
      refine wl_nil ?_
      refine wq_then_norm (hK7 ?_)
      refine wc_ret ?_
      refine hret rfl rfl ?_
      exact ⟨some ⟨g3, 0, none⟩, 32, 32, by rw [hM]; rfl, by rw [hM]; exact bs_blk' B3 (Fp.le_length 32 _), fun b o h => by injection h with h; injection h with h; omega, E3⟩
theorem dhbase_any (A : Option Addr) (n c : Nat) (xs : List UInt8) (w : World) (HA : Bs w A n xs) :
    Calls Try.prog 62 #[.slice A n c] w (RetB w (dhM xs (Fp.le 32 9))) := by
  refine vc_enter2 10 Try.func62 rfl rfl rfl rfl ?_
  intro Q hret
  refine wc_seq ?_; intro K1 hK1
  refine wc_region ?_
  refine wl_y (y_assign rfl) rfl ?_
  refine wl_y (y_assign rfl) rfl ?_
  refine wl_nil ?_
  refine wq_then_norm (hK1 ?_)
  refine wc_seq ?_; intro K2 hK2
  refine wc_region ?_
  refine wl_y (y_move rfl) rfl ?_
  refine wl_call Try.func23 rfl rfl rfl (Fnum_any 9 _ (by omega)) rfl ?_
  rintro e w1 ⟨c1, rfl, F1, ex⟩
  refine ⟨_, rfl, ?_⟩
  replace HA := HA.ext ex
  have E1 := ex
  refine wl_call Try.func51 rfl rfl rfl (fbytes_any F1 _) rfl ?_
  rintro e w2 ⟨g2, rfl, hg2, B2, ex⟩
  refine ⟨_, rfl, ?_⟩
  replace HA := HA.ext ex
  have E2 := E1.ext ex; have H2 := bs_blk' B2 (Fp.le_length 32 _)
  refine wl_call Try.func59 rfl rfl rfl (dhmul_any A _ n c 32 32 xs (Fp.le 32 9) _ HA H2) rfl ?_
  rintro e w3 ⟨A3, k3, c3, rfl, H3, hf, ex⟩
  refine ⟨_, rfl, ?_⟩
  replace HA := HA.ext ex
  have E3 := E2.ext ex; have hs := E2.size
  refine wl_y (y_extract rfl rfl) rfl ?_
  refine wl_y (y_extract rfl rfl) rfl ?_
  refine wl_y (y_assign rfl) rfl ?_
  refine wl_y (y_assign rfl) rfl ?_
  refine wl_nil ?_
  refine wq_then_norm (hK2 ?_)
  refine wc_ret ?_
  refine hret rfl rfl ?_
  exact ⟨A3, k3, c3, rfl, H3, fun b o h => by have := hf b o h; omega, E3⟩
theorem dhshared_any (A B : Option Addr) (n c m d : Nat) (xs ys : List UInt8) (w : World) (HA : Bs w A n xs) (HB : Bs w B m ys) :
    Calls Try.prog 60 #[.slice A n c, .slice B m d] w (RetB w (dhS xs ys)) := by
  refine vc_enter2 23 Try.func60 rfl rfl rfl rfl ?_
  intro Q hret
  refine wc_seq ?_; intro K1 hK1
  refine wc_region ?_
  refine wl_y (y_assign rfl) rfl ?_
  refine wl_y (y_assign rfl) rfl ?_
  refine wl_nil ?_
  refine wq_then_norm (hK1 ?_)
  refine wc_seq ?_; intro K2 hK2
  refine wc_region ?_
  refine wl_y (y_move rfl) rfl ?_
  refine wl_y (y_move rfl) rfl ?_
  refine wl_call Try.func59 rfl rfl rfl (dhmul_any A B n c m d xs ys _ HA HB) rfl ?_
  rintro e w1 ⟨A1, k1, c1, rfl, H1, hf, ex⟩
  refine ⟨_, rfl, ?_⟩
  have E1 := ex; have hl1 := H1.1; have hk : k1 ≤ 32 := by rw [← hl1]; unfold dhM; split <;> (try split) <;> simp [Fp.le_length]
  refine wl_y (y_move rfl) rfl ?_
  refine wl_y (y_extract rfl rfl) rfl ?_
  refine wl_y (y_extract rfl rfl) rfl ?_
  refine wl_y (y_assign rfl) rfl ?_
  refine wl_y (y_assign rfl) rfl ?_
  refine wl_nil ?_
  refine wq_then_norm (hK2 ?_)
  refine wc_seq ?_; intro K3 hK3
  refine wc_block ?_
  refine wc_seq ?_; intro K4 hK4
  refine wc_region ?_
  refine wl_y (y_move rfl) rfl ?_
  refine wl_y (y_neq rfl rfl) rfl ?_
  refine wl_y (y_assign rfl) rfl ?_
  refine wl_nil ?_
  refine wq_then_norm (hK4 ?_)
  refine wc_dec rfl (fun hc1 => ?_) (fun hc1 => ?_)
  · skip
    refine wc_seq ?_; intro K5 hK5
    refine wc_region ?_
    refine wl_y (y_move rfl) rfl ?_
    refine wl_y (y_assign rfl) rfl ?_
    refine wl_y (y_assign rfl) rfl ?_
    refine wl_nil ?_
    refine wq_then_norm (hK5 ?_)
    refine wc_ret ?_
    refine wq_blk_ret ?_
    refine wq_then_ret ?_
    refine hret rfl rfl ?_
    exact ⟨none, 0, 0, by rw [dhS, if_pos (by omega)], by rw [dhS, if_pos (by omega)]; exact Bs.nil _ _, fun _ _ h => (by cases h), E1⟩
  · skip
    refine wc_seq ?_; intro K6 hK6
    refine wc_region ?_
    refine wl_y (y_move rfl) rfl ?_
    refine wl_call Try.func121 rfl rfl rfl (containsFunc_any A1 k1 c1 _ 122 [] (fun x => decide (x ≠ 0)) _ _ _ H1 (by omega) Try.func122 rfl rfl (fun x w1 _ => shared1_any x w1)) rfl ?_
    rintro e w2 ⟨rfl, ex⟩
    refine ⟨_, rfl, ?_⟩
    have E2 := E1.ext ex; have H2 := H1.ext ex
    refine wl_y (y_not rfl) rfl ?_
    refine wl_y (y_assign rfl) rfl ?_
    refine wl_nil ?_
    refine wq_then_norm (hK6 ?_)
    refine wc_cond rfl (fun hc2 => ?_) (fun hc2 => ?_)
    · skip
      have hno : ¬ (dhM xs ys).1.any (fun x => decide (x ≠ 0)) = true := by simpa using hc2
      refine wc_seq ?_; intro K7 hK7
      refine wc_region ?_
      refine wl_y (y_assign rfl) rfl ?_
      refine wl_y (y_assign rfl) rfl ?_
      refine wl_nil ?_
      refine wq_then_norm (hK7 ?_)
      refine wc_ret ?_
      refine wq_blk_ret ?_
      refine wq_then_ret ?_
      refine hret rfl rfl ?_
      exact ⟨none, 0, 0, by rw [dhS, if_neg (by omega), if_neg hno]; rfl, by rw [dhS, if_neg (by omega), if_neg hno]; exact Bs.nil _ _, fun _ _ h => (by cases h), E2⟩
    · skip
      have hno : (dhM xs ys).1.any (fun x => decide (x ≠ 0)) = true := by simpa using hc2
      refine wc_skip ?_
      refine wq_blk_norm ?_
      refine wq_then_norm (hK3 ?_)
      refine wc_seq ?_; intro K8 hK8
      refine wc_region ?_
      refine wl_y (y_move rfl) rfl ?_
      refine wl_y (y_assign rfl) rfl ?_
      refine wl_y (y_assign rfl) rfl ?_
      refine wl_nil ?_
      refine wq_then_norm (hK8 ?_)
      refine wc_ret ?_
      refine hret rfl rfl ?_
      exact ⟨A1, k1, c1, by rw [dhS, if_neg (by omega), if_pos hno]; rfl, by rw [dhS, if_neg (by omega), if_pos hno]; exact H2, hf, E2⟩
theorem pad_full {l : List UInt8} (h : l.length = 32) : Fp.pad l = l := by unfold Fp.pad; rw [List.take_of_length_le (by omega), h]; simp
theorem pad_more (xs : List UInt8) (j : Nat) (h : 32 ≤ xs.length + j) : (xs ++ List.replicate j (0 : UInt8)).take 32 = Fp.pad xs := by
  unfold Fp.pad
  rw [List.take_append]
  congr 1
  rw [List.length_take, List.take_replicate]
  congr 1
  omega
theorem rclamp_any (A : Option Addr) (n c : Nat) (xs : List UInt8) (w : World) (HA : Bs w A n xs) (hn : n ≤ 1000) :
    Calls Try.prog 58 #[.slice A n c] w fun e w' => ∃ A' c', e = .returned (.slice A' 32 c') ∧ Row w' w.heap.size 5 A' 32 c' ((clampB xs).map bv) ∧ Bs w' A' 32 (clampB xs) ∧ Ext w w' := by
  have hl := HA.1
  have hpl := Fp.pad_length xs
  obtain ⟨x0, hx0⟩ : ∃ x, x = ((Fp.pad xs).getD 0 0).toNat := ⟨_, rfl⟩
  obtain ⟨x1, hx1⟩ : ∃ x, x = ((Fp.pad xs).getD 31 0).toNat := ⟨_, rfl⟩
  have h0 : x0 < 256 := hx0 ▸ UInt8.toNat_lt _
  have h1 : x1 < 256 := hx1 ▸ UInt8.toNat_lt _
  refine vc_enter1 30 Try.func58 rfl rfl rfl rfl ?_
  intro Q hret
  refine wc_seq ?_; intro K1 hK1
  refine wc_region ?_
  refine wl_y (y_assign rfl) rfl ?_
  refine wl_nil ?_
  refine wq_then_norm (hK1 ?_)
  refine wc_seq ?_; intro K2 hK2
  refine wc_region ?_
  refine wl_ef (ef_lit (z := .int .u8 0) Try.underlying22 (by kernel_rfl) rfl rfl rfl rfl rfl) rfl ?_
  rintro _ w1 ⟨g1, rfl, B1, hg1, ex⟩
  have E1 := ex; have R1 : Row w1 w.heap.size 5 (some ⟨g1, 0, none⟩) 0 0 [] := Row.new B1 hg1 rfl (by unfold maxLen; omega)
  refine wl_y (y_move rfl) rfl ?_
  refine wl_ef (ef_app0 rfl rfl eltB R1 (HA.ext E1).2 (by rw [List.length_map, HA.1]) (by intro u hu; exact bv_one u hu) (by omega) (by omega) E1.size) rfl ?_
  rintro _ w2 ⟨A2, c2, rfl, R2, be, gr, hgl⟩
  have E2 := E1.trans be
  refine wl_y (y_assign rfl) rfl ?_
  refine wl_nil ?_
  refine wq_then_norm (hK2 ?_)
  refine wc_seq ?_; intro K3 hK3
  refine wc_block ?_
  refine wc_loop (fun n' L wr => ∃ (j c5 : Nat) (A5 : Option Addr), L = [(3, .slice A5 (n + j) c5)] ∧ n' = 32 - (n + j) ∧ ((n + j ≤ 32 ∨ j = 0) ∧ Ext w wr ∧ Row wr w.heap.size 5 A5 (n + j) c5 ((xs ++ List.replicate j 0).map bv))) _ _ ⟨0, c2, A2, rfl, rfl, by omega, E2, by simpa using R2⟩ ⟨rfl, trivial⟩ ?_
  rintro KL1 n' L wr ⟨j, c5, A5, rfl, rfl, hj, E, R⟩ hL1
  refine wc_seq ?_; intro K4 hK4
  refine wc_seq ?_; intro K5 hK5
  refine wc_region ?_
  refine wl_y (y_move rfl) rfl ?_
  refine wl_y (y_len_slice rfl Try.underlying22) rfl ?_
  refine wl_y (y_lss rfl rfl) rfl ?_
  refine wl_nil ?_
  refine wq_then_norm (hK5 ?_)
  refine wc_dec rfl (fun hc1 => ?_) (fun hc1 => ?_)
  · skip
    refine wc_skip ?_
    refine wq_then_norm (hK4 ?_)
    refine wc_block ?_
    refine wc_region ?_
    refine wl_y (y_move rfl) rfl ?_
    refine wl_ef (ef_lit (z := .int .u8 0) Try.underlying22 (by kernel_rfl) rfl rfl rfl rfl rfl) rfl ?_
    rintro _ w3 ⟨g3, rfl, B3, hg3, ex⟩
    have E3 := E.ext ex; have R3 := R.ext ex
    refine wl_ef (ef_app rfl rfl eltB R3 (At.blk (vs := [(0 : UInt8)].map bv) (B3.congr (by rfl))) rfl (by intro u hu; exact bv_one u hu) (by omega) (by omega) E3.size) rfl ?_
    rintro _ w4 ⟨A6, c6, rfl, R6, be, gr, hgl⟩
    have E4 := E3.trans be; have R7 := R6.cat
    refine wl_y (y_assign rfl) rfl ?_
    refine wl_nil ?_
    refine wq_blk_norm ?_
    refine wq_then_norm ?_
    refine hL1 _ _ ⟨j + 1, c6, A6, rfl, rfl, by omega, E4, R7.congr (by omega) (by rw [List.append_assoc, List.replicate_succ'])⟩ (by omega) ⟨rfl, trivial⟩
  · skip
    refine wc_exit ?_
    refine wq_then_exit ?_
    refine wq_then_exit ?_
    refine wq_blk_hit ?_
    refine wq_then_norm (hK3 ?_)
    refine wc_seq ?_; intro K6 hK6
    have R8 : Row wr w.heap.size 5 A5 32 c5 ((Fp.pad xs).map bv) := by
      have := R.cut (k := 32) (by omega) (by omega)
      rwa [← List.map_take, pad_more xs j (by omega)] at this
    have hcap := R.cap
    obtain ⟨g5, rfl, hcx, hg5, hl5⟩ := R8.byte (i := 0) (by omega)
    rw [← hx0] at hcx
    refine wc_region ?_
    refine wl_y (y_move rfl) rfl ?_
    refine wl_y (y_cuth (s := 1) rfl rfl Try.underlying22 (by kernel_rfl) (j := 32) rfl (by omega)) rfl ?_
    refine wl_y (y_assign rfl) rfl ?_
    refine wl_nil ?_
    refine wq_then_norm (hK6 ?_)
    refine wc_seq ?_; intro K7 hK7
    refine wc_region ?_
    refine wl_y (y_move rfl) rfl ?_
    refine wl_y (y_move rfl) rfl ?_
    refine wl_y (y_ixs1 rfl rfl Try.underlying22 (by kernel_rfl) (j := 0) rfl (by omega)) rfl ?_
    refine wl_y (y_load1 rfl Try.underlying5 rfl hcx) rfl ?_
    refine wl_y (y_quo rfl rfl (by omega) (show IntKind.u8.wrap (((x0 : Nat) : Int).tdiv 8) = ((x0 / 8 : Nat) : Int) by rw [IntKind.wrap_u8']; show ((x0 / 8 : Nat) : Int) % 256 = _; omega)) rfl ?_
    refine wl_y (y_mul rfl rfl (show IntKind.u8.wrap (((x0 / 8 : Nat) : Int) * 8) = ((x0 / 8 * 8 : Nat) : Int) by rw [IntKind.wrap_u8']; omega)) rfl ?_
    refine wl_y (y_ixs1 rfl rfl Try.underlying22 (by kernel_rfl) (j := 0) rfl (by omega)) rfl ?_
    rw [← ofNat_val (n := x0 / 8 * 8) (by omega)]
    refine wl_ef (ef_storeR rfl rfl rfl (by kernel_rfl) R8 (by omega)) rfl ?_
    rintro _ w5 ⟨rfl, R9, cg⟩
    have E5 := E.chg cg hg5; replace R9 := R9.congr rfl (show _ = ((Fp.pad xs).set 0 (UInt8.ofNat (x0 / 8 * 8))).map bv by rw [List.map_set]; rfl)
    refine wl_nil ?_
    refine wq_then_norm (hK7 ?_)
    refine wc_seq ?_; intro K8 hK8
    refine wc_region ?_
    obtain ⟨g6, hg6e, hcy, hg6, hl6⟩ := R9.byte (i := 31) (by omega)
    injection hg6e with hg6e
    injection hg6e with hg6e
    subst hg6e
    rw [List.getD_eq_getElem?_getD, List.getElem?_set_ne (by omega), ← List.getD_eq_getElem?_getD, ← hx1] at hcy
    refine wl_y (y_move rfl) rfl ?_
    refine wl_y (y_move rfl) rfl ?_
    refine wl_y (y_ixs1 rfl rfl Try.underlying22 (by kernel_rfl) (j := 31) rfl (by omega)) rfl ?_
    refine wl_y (y_load1 rfl Try.underlying5 rfl hcy) rfl ?_
    refine wl_y (y_rem rfl rfl (by omega) (show (((x1 : Nat) : Int).tmod 64) = ((x1 % 64 : Nat) : Int) from rfl)) rfl ?_
    refine wl_y (y_add rfl rfl (show IntKind.u8.wrap (((x1 % 64 : Nat) : Int) + 64) = ((x1 % 64 + 64 : Nat) : Int) by rw [IntKind.wrap_u8']; omega)) rfl ?_
    refine wl_y (y_ixs1 rfl rfl Try.underlying22 (by kernel_rfl) (j := 31) rfl (by omega)) rfl ?_
    rw [← ofNat_val (n := x1 % 64 + 64) (by omega)]
    refine wl_ef (ef_storeR rfl rfl rfl (by kernel_rfl) R9 (by omega)) rfl ?_
    rintro _ w6 ⟨rfl, R10, cg⟩
    have E6 := E5.chg cg hg5; replace R10 := R10.congr rfl (show _ = (clampB xs).map bv by unfold clampB; rw [← hx0, ← hx1]; simp only [List.map_set]; rfl)
    refine wl_nil ?_
    refine wq_then_norm (hK8 ?_)
    refine wc_seq ?_; intro K9 hK9
    refine wc_region ?_
    refine wl_y (y_move rfl) rfl ?_
    refine wl_y (y_assign rfl) rfl ?_
    refine wl_nil ?_
    refine wq_then_norm (hK9 ?_)
    refine wc_ret ?_
    refine hret rfl ?_
    exact ⟨_, _, rfl, R10, R10.bs, E6⟩
end Go.Proofs.Ytbcbihdfpkeacaa
