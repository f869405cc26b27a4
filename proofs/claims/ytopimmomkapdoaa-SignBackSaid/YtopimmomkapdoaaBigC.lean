/- The reference's Div, Primes, Root, Roots, Sum: what each hands back. -/
import Derived.Test.YtopimmomkapdoaaBigA
import Derived.Test.YtopimmomkapdoaaBigP
namespace Go.Proofs.Ytopimmomkapdoaa
open Go.RowKit
attribute [local irreducible] Y Ef WL WC WK WQ WM OpM
theorem Ns.chg {w w' : World} {k : IntKind} {A : Option Addr} {n g : Nat} {xs : List Nat} (h : Ns k w A n xs) (cg : Chg w g w') (hne : ∀ b off, A = some ⟨b, off, none⟩ → b ≠ g) : Ns k w' A n xs := h.grown cg hne
theorem Bg.cells {w : World} {A : Option Addr} {n v : Nat} (h : Bg w A n v) : At w A ((Big.digs v).map (iv .i64)) := h.2
theorem u64_nat {a : Int} {n : Nat} (h : a = (n : Int)) (hn : n < 18446744073709551616) : IntKind.u64.wrap a = (n : Int) := by
  subst h; rw [wrap_u64']; omega
theorem div_any (A B : Option Addr) (n c m d a b : Nat) (w : World) (HA : Bg w A n a) (HB : Bg w B m b) (hb : 0 < b) (hn : n ≤ 100000) (hm : m ≤ 100000) :
    Calls Try.prog 103 #[.slice A n c, .slice B m d] w fun e w' => ∃ A1 n1 c1 A2 n2 c2, e = .returned (.tuple #[.slice A1 n1 c1, .slice A2 n2 c2]) ∧ Bg w' A1 n1 (a / b) ∧ Bg w' A2 n2 (a % b) ∧ n1 ≤ c1 ∧ n2 ≤ c2 ∧ (∀ b o, A1 = some ⟨b, o, none⟩ → w.heap.size ≤ b) ∧ Ext w w' := by
  have hla := HA.len; have hlb := HB.len
  refine vc_enter2 62 Try.func103 rfl rfl rfl rfl ?_
  intro Q hret
  refine wc_seq ?_; intro K1 hK1
  refine wc_region ?_
  refine wl_y (y_assign rfl) rfl ?_
  refine wl_y (y_assign rfl) rfl ?_
  refine wl_nil ?_
  refine wq_then_norm (hK1 ?_)
  refine wc_seq ?_; intro K2 hK2
  refine wc_region ?_
  refine wl_y (y_move rfl) rfl ?_
  refine wl_y (y_len_slice rfl Try.underlying67) rfl ?_
  refine wl_ef (ef_make (n := n) (z := .int .i64 0) (bytes := 8) rfl rfl Try.underlying67 (by kernel_rfl) rfl rfl rfl rfl (by omega) (by omega)) rfl ?_
  rintro _ w1 ⟨g, rfl, B0, hg, ex⟩
  have E1 := ex; have B1 : Blk w1 g 3 (nums .i64 (List.replicate n 0)) := B0.congr (by simp [nums, iv])
  refine wl_y (y_assign rfl) rfl ?_
  refine wl_nil ?_
  refine wq_then_norm (hK2 ?_)
  refine wc_seq ?_; intro K3 hK3
  refine wc_region ?_
  refine wl_y (y_assign rfl) rfl ?_
  refine wl_nil ?_
  refine wq_then_norm (hK3 ?_)
  refine wc_seq ?_; intro K4 hK4
  refine wc_seq ?_; intro K5 hK5
  refine wc_region ?_
  refine wl_y (y_move rfl) rfl ?_
  refine wl_y (y_len_slice rfl Try.underlying67) rfl ?_
  refine wl_y (y_sub rfl rfl (i64_ok (by omega) (by omega))) rfl ?_
  refine wl_y (y_assign rfl) rfl ?_
  refine wl_nil ?_
  refine wq_then_norm (hK5 ?_)
  refine wc_block ?_
  refine wc_loop (fun n' L wr => ∃ (j n5 c5 r : Nat) (A5 : Option Addr) (q : List Nat), L = [(0, .slice A n c), (1, .slice B m d), (6, .slice (some ⟨g, 0, none⟩) n n), (7, .slice A5 n5 c5), (8, .int .i64 ((j : Int) - 1))] ∧ n' = 1 + j ∧ (j ≤ n ∧ Ext w wr ∧ Blk wr g 3 (nums .i64 q) ∧ q.length = n ∧ Big.ok q ∧ Bg wr A5 n5 r ∧ n5 ≤ c5 ∧ r < b ∧ Big.val (q.drop j) * b + r = Big.val ((Big.digs a).drop j))) _ _ ⟨n, 0, 0, 0, none, List.replicate n 0, rfl, rfl, Nat.le_refl _, E1, B1, by simp, Big.ok_zeros _, Ns.nil _ _, Nat.le_refl _, hb, by rw [List.drop_of_length_le (by simp), List.drop_of_length_le (by omega)]; simp [Big.val]⟩ ⟨rfl, rfl, rfl, rfl, (by first | rfl | exact congrArg some (int_val (by omega))), trivial⟩ ?_
  rintro KL1 n' L wr ⟨j, n5, c5, r, A5, q, rfl, rfl, hj, E, Bq, hq, hoq, HR, hcr, hrb, hv⟩ hL1
  refine wc_seq ?_; intro K6 hK6
  refine wc_seq ?_; intro K7 hK7
  refine wc_region ?_
  refine wl_y (y_move rfl) rfl ?_
  refine wl_y (y_geq rfl rfl) rfl ?_
  refine wl_nil ?_
  refine wq_then_norm (hK7 ?_)
  refine wc_dec rfl (fun hc1 => ?_) (fun hc1 => ?_)
  · skip
    refine wc_skip ?_
    refine wq_then_norm (hK6 ?_)
    refine wc_seq ?_; intro K8 hK8
    refine wc_block ?_
    refine wc_seq ?_; intro K9 hK9
    obtain ⟨j, rfl⟩ : ∃ i, j = i + 1 := ⟨j - 1, by omega⟩
    rw [show (((j + 1 : Nat) : Int) - 1) = (j : Int) by omega]
    obtain ⟨b1, off1, x, rfl, hx, hcx⟩ := (HA.wk E).cell (i := j) (by omega)
    have hxl := Big.ok_get (Big.ok_digs a) j; rw [← hx.out] at hxl
    have hlr := HR.len
    have hn5 : n5 ≤ m := by have := Big.length_le (Nat.le_of_lt hrb); omega
    have hgr := Bq.lt
    refine wc_region ?_
    refine wl_y (y_move rfl) rfl ?_
    refine wl_y (y_move rfl) rfl ?_
    refine wl_y (y_ixs1 rfl rfl Try.underlying67 (by kernel_rfl) rfl (by omega)) rfl ?_
    refine wl_y (y_load1 rfl Try.underlying3 rfl (by assumption)) rfl ?_
    refine wl_ef (ef_lit (z := .int .i64 0) Try.underlying67 (by kernel_rfl) rfl rfl rfl rfl rfl) rfl ?_
    rintro _ w4 ⟨g4, rfl, B4, hg4, ex⟩
    have F4 := ex; have R4 : Row w4 wr.heap.size 3 (some ⟨g4, 0, none⟩) 1 1 ([x].map (iv .i64)) := Row.new B4 hg4 rfl (by unfold maxLen; omega)
    refine wl_y (y_move rfl) rfl ?_
    refine wl_ef (ef_app rfl rfl eltI R4 (HR.ext F4).cells (by rw [List.length_map, hlr]) (by intro u hu; exact iv_one u hu) (by omega) (by omega) F4.size) rfl ?_
    rintro _ w6 ⟨A6, c6, rfl, R6, be, gr, hl⟩
    have F6 := F4.trans be; have R7 := R6.ivs
    refine wl_call Try.func112 rfl rfl rfl (trim_any A6 (1 + n5) c6 ([x] ++ Big.digs r) _ (Ns.of_row R7) (Big.ok_append (Big.ok_one hxl) (Big.ok_digs r)) R7.cap (by omega)) rfl ?_
    rintro e w7 ⟨n7, rfl, H7, h7, ex⟩
    refine ⟨_, rfl, ?_⟩
    have F7 := F6.ext ex; obtain ⟨R, hR⟩ : ∃ R, R = x + 32768 * r := ⟨_, rfl⟩; replace H7 : Bg w7 A6 n7 R := H7.congr (by rw [hR]; show x + 32768 * Big.val (Big.digs r) = _; rw [Big.val_digs]); have hl7 := H7.len; have E7 := E.tr F7; have hA6 : ∀ b' off, A6 = some ⟨b', off, none⟩ → b' ≠ g := fun b' off h => by subst h; have := R7.lt; omega
    refine wl_y (y_assign rfl) rfl ?_
    refine wl_nil ?_
    refine wq_then_norm (hK9 ?_)
    refine wc_seq ?_; intro K10 hK10
    refine wc_region ?_
    refine wl_y (y_assign rfl) rfl ?_
    refine wl_y (y_assign rfl) rfl ?_
    refine wl_nil ?_
    refine wq_then_norm (hK10 ?_)
    refine wc_seq ?_; intro K11 hK11
    refine wc_block ?_
    have hRb : R < (32767 + 1) * b := by have : r + 1 ≤ b := hrb; have := Nat.mul_le_mul_left 32768 this; omega
    refine wc_loop (fun n' L wq => ∃ lo hi : Nat, L = [(0, .slice (some ⟨b1, off1, none⟩) n c), (1, .slice B m d), (6, .slice (some ⟨g, 0, none⟩) n n), (7, .slice A6 n7 c6), (8, .int .i64 (j : Int)), (9, .int .i64 (lo : Int)), (10, .int .i64 (hi : Int))] ∧ n' = hi - lo ∧ (lo ≤ hi ∧ hi ≤ 32767 ∧ Ext w7 wq ∧ b * lo ≤ R ∧ R < (hi + 1) * b)) _ _ ⟨0, 32767, rfl, rfl, by omega, by omega, Ext.refl _, by rw [Nat.mul_zero]; exact Nat.zero_le _, hRb⟩ ⟨rfl, rfl, rfl, rfl, (by first | rfl | exact congrArg some (int_val (by omega))), (by first | rfl | exact congrArg some (int_val (by omega))), (by first | rfl | exact congrArg some (int_val (by omega))), trivial⟩ ?_
    rintro KL2 n' L wq ⟨lo, hi, rfl, rfl, hlh, hh, F, hlo, hhi⟩ hL2
    refine wc_seq ?_; intro K12 hK12
    refine wc_seq ?_; intro K13 hK13
    refine wc_region ?_
    refine wl_y (y_move rfl) rfl ?_
    refine wl_y (y_move rfl) rfl ?_
    refine wl_y (y_lss rfl rfl) rfl ?_
    refine wl_nil ?_
    refine wq_then_norm (hK13 ?_)
    refine wc_dec rfl (fun hc2 => ?_) (fun hc2 => ?_)
    · skip
      refine wc_skip ?_
      refine wq_then_norm (hK12 ?_)
      refine wc_block ?_
      refine wc_seq ?_; intro K14 hK14
      obtain ⟨mid, hmid⟩ : ∃ k, k = (lo + hi + 1) / 2 := ⟨_, rfl⟩
      refine wc_region ?_
      refine wl_y (y_move rfl) rfl ?_
      refine wl_y (y_move rfl) rfl ?_
      refine wl_y (y_add rfl rfl (i64_nat (n := lo + hi) (by omega) (by omega))) rfl ?_
      refine wl_y (y_add rfl rfl (i64_nat (n := lo + hi + 1) (by omega) (by omega))) rfl ?_
      refine wl_y (y_quo rfl rfl (by omega) (show IntKind.i64.wrap (((lo + hi + 1 : Nat) : Int).tdiv 2) = ((mid : Nat) : Int) from i64_nat (by rw [hmid]; rfl) (by omega))) rfl ?_
      refine wl_y (y_assign rfl) rfl ?_
      refine wl_nil ?_
      refine wq_then_norm (hK14 ?_)
      refine wc_seq ?_; intro K15 hK15
      refine wc_region ?_
      refine wl_y (y_move rfl) rfl ?_
      refine wl_y (y_move rfl) rfl ?_
      refine wl_y (y_move rfl) rfl ?_
      refine wl_y (y_conv rfl Try.underlying3 Try.underlying59 (IntWalk.u64_in _ ⟨by omega, by omega⟩)) rfl ?_
      refine wl_call Try.func88 rfl rfl rfl (num_any mid _ (by omega)) rfl ?_
      rintro e w8 ⟨A8, n8, c8, rfl, H8, hk10_4, ex⟩
      refine ⟨_, rfl, ?_⟩
      have G8 := F.ext ex; have hl8 := H8.len; have h8 := Big.digs_length_le mid 2 (by omega)
      refine wl_call Try.func53 rfl rfl rfl (mul_any B A8 m d n8 c8 b mid _ (HB.wk (E7.tr G8)) H8 (by omega) (by omega)) rfl ?_
      rintro e w9 ⟨A9, n9, c9, rfl, H9, h9, hk10_5, ex⟩
      refine ⟨_, rfl, ?_⟩
      have G9 := G8.ext ex
      refine wl_call Try.func35 rfl rfl rfl (less_any A6 A9 n7 c6 n9 c9 R (b * mid) _ (H7.wk G9) H9 (by omega) (by omega)) rfl ?_
      rintro e w10 ⟨rfl, ex⟩
      refine ⟨_, rfl, ?_⟩
      have G10 := G9.ext ex
      refine wl_nil ?_
      refine wq_then_norm (hK15 ?_)
      refine wc_dec rfl (fun hc3 => ?_) (fun hc3 => ?_)
      · skip
        refine wc_region ?_
        refine wl_y (y_move rfl) rfl ?_
        refine wl_y (y_sub rfl rfl (i64_nat (n := mid - 1) (by omega) (by omega))) rfl ?_
        refine wl_y (y_assign rfl) rfl ?_
        refine wl_nil ?_
        refine wq_blk_norm ?_
        refine wq_then_norm ?_
        refine hL2 _ _ ⟨lo, mid - 1, rfl, rfl, by omega, by omega, G10, hlo, by rw [Nat.sub_add_cancel (by omega), Nat.mul_comm]; omega⟩ (by omega) ⟨rfl, rfl, rfl, rfl, (by first | rfl | exact congrArg some (int_val (by omega))), (by first | rfl | exact congrArg some (int_val (by omega))), (by first | rfl | exact congrArg some (int_val (by omega))), trivial⟩
      · skip
        refine wc_region ?_
        refine wl_y (y_move rfl) rfl ?_
        refine wl_y (y_assign rfl) rfl ?_
        refine wl_nil ?_
        refine wq_blk_norm ?_
        refine wq_then_norm ?_
        refine hL2 _ _ ⟨mid, hi, rfl, rfl, by omega, hh, G10, by omega, hhi⟩ (by omega) ⟨rfl, rfl, rfl, rfl, (by first | rfl | exact congrArg some (int_val (by omega))), (by first | rfl | exact congrArg some (int_val (by omega))), (by first | rfl | exact congrArg some (int_val (by omega))), trivial⟩
    · skip
      refine wc_exit ?_
      refine wq_then_exit ?_
      refine wq_then_exit ?_
      refine wq_blk_hit ?_
      refine wq_then_norm (hK11 ?_)
      refine wc_seq ?_; intro K16 hK16
      obtain rfl : lo = hi := by omega
      have hgl : g < w7.heap.size := by have := F7.size; omega
      have B7 := Bq.ext (F7.tr F)
      refine wc_region ?_
      refine wl_y (y_move rfl) rfl ?_
      refine wl_y (y_move rfl) rfl ?_
      refine wl_y (y_move rfl) rfl ?_
      refine wl_y (y_ixs1 rfl rfl Try.underlying67 (by kernel_rfl) rfl (by omega)) rfl ?_
      refine wl_ef (ef_storeB rfl rfl rfl (by kernel_rfl) B7 (by rw [nums_size]; omega)) rfl ?_
      rintro _ w13 ⟨rfl, B13, cg⟩
      rw [Nat.zero_add, nums_set] at B13; have E13 := (E7.tr F).chg cg hg; have H13 : Bg w13 A6 n7 R := Ns.chg (H7.wk F) cg hA6
      refine wl_nil ?_
      refine wq_then_norm (hK16 ?_)
      refine wc_region ?_
      refine wl_y (y_move rfl) rfl ?_
      refine wl_y (y_move rfl) rfl ?_
      refine wl_y (y_move rfl) rfl ?_
      refine wl_y (y_conv rfl Try.underlying3 Try.underlying59 (IntWalk.u64_in _ ⟨by omega, by omega⟩)) rfl ?_
      refine wl_call Try.func88 rfl rfl rfl (num_any lo _ (by omega)) rfl ?_
      rintro e w14 ⟨A8, n8, c8, rfl, H8, hk14_4, ex⟩
      refine ⟨_, rfl, ?_⟩
      have G8 := E13.ext ex; have J8 := ex; have hl8 := H8.len; have h8 := Big.digs_length_le lo 2 (by omega)
      refine wl_call Try.func53 rfl rfl rfl (mul_any B A8 m d n8 c8 b lo _ (HB.wk G8) H8 (by omega) (by omega)) rfl ?_
      rintro e w15 ⟨A9, n9, c9, rfl, H9, h9, hk14_5, ex⟩
      refine ⟨_, rfl, ?_⟩
      have G9 := G8.ext ex; have J9 := J8.ext ex
      refine wl_call Try.func145 rfl rfl rfl (sub_any A6 A9 n7 c6 n9 c9 R (b * lo) _ (H13.wk J9) H9 hlo (by omega)) rfl ?_
      rintro e w16 ⟨A10, n10, c10, rfl, H10, hk14_6, ex⟩
      refine ⟨_, rfl, ?_⟩
      have G10 := G9.ext ex; have J10 := J9.ext ex
      refine wl_y (y_assign rfl) rfl ?_
      refine wl_nil ?_
      refine wq_blk_norm ?_
      refine wq_then_norm (hK8 ?_)
      refine wc_region ?_
      refine wl_y (y_move rfl) rfl ?_
      refine wl_y (y_sub rfl rfl (i64_ok (by omega) (by omega))) rfl ?_
      refine wl_y (y_assign rfl) rfl ?_
      refine wl_nil ?_
      refine wq_then_norm ?_
      refine hL1 _ _ ⟨j, n10, c10, R - b * lo, A10, q.set j lo, rfl, rfl, by omega, G10, B13.ext J10, by rw [List.length_set]; exact hq, Big.ok_set hoq _ _ (by omega), H10, hk14_6, by rw [Nat.add_mul, Nat.one_mul, Nat.mul_comm lo] at hhi; omega, by rw [Big.drop_set (l := q) (j := j) (by omega), Big.val_drop (Big.digs a) j (by omega), Big.val, ← hx.out]; exact Big.div_step hv hR hlo⟩ (by omega) ⟨rfl, rfl, rfl, rfl, (by first | rfl | exact congrArg some (int_val (by omega))), trivial⟩
  · skip
    refine wc_exit ?_
    refine wq_then_exit ?_
    refine wq_then_exit ?_
    refine wq_blk_hit ?_
    refine wq_then_norm (hK4 ?_)
    refine wc_seq ?_; intro K17 hK17
    refine wc_region ?_
    refine wl_y (y_move rfl) rfl ?_
    obtain rfl : j = 0 := by omega
    refine wl_call Try.func112 rfl rfl rfl (trim_any (some ⟨g, 0, none⟩) n n q _ (Ns.blk Bq hq) hoq (Nat.le_refl _) (by omega)) rfl ?_
    rintro e w17 ⟨n8, rfl, H8, h8, ex⟩
    refine ⟨_, rfl, ?_⟩
    skip
    refine wl_y (y_move rfl) rfl ?_
    refine wl_y (y_assign rfl) rfl ?_
    refine wl_y (y_assign rfl) rfl ?_
    refine wl_nil ?_
    refine wq_then_norm (hK17 ?_)
    refine wc_ret ?_
    refine hret rfl rfl ?_
    rw [List.drop_zero, List.drop_zero, Big.val_digs] at hv
    have h12 : a / b = Big.val q ∧ a % b = r := (Nat.div_mod_unique hb).2 ⟨by rw [Nat.mul_comm b]; omega, hrb⟩
    obtain ⟨h1, h2⟩ := h12
    exact ⟨_, n8, _, A5, n5, c5, rfl, H8.congr h1.symm, (HR.ext ex).congr h2.symm, h8, hcr, fun b' o' e => (by injection e with e; injection e with e _ _; omega), E.ext ex⟩
theorem ne_dec (a : Nat) : decide ((a : Int) ≠ 0) = (a != 0) := by by_cases h : a = 0 <;> simp [h]
theorem eltU : Elt Try.prog 123 59 8 := Elt.of Try.underlying123 (z := .int .u64 0) (by kernel_rfl) rfl
theorem primes_any (n : Nat) (w : World) (hn : n ≤ 80) :
    Calls Try.prog 134 #[.int .i64 (n : Int)] w fun e w' => ∃ A' c', e = .returned (.slice A' n c') ∧ Ns .u64 w' A' n (Big.primes n) ∧ Ext w w' := by
  refine vc_enter1 35 Try.func134 rfl rfl rfl rfl ?_
  intro Q hret
  refine wc_seq ?_; intro K1 hK1
  refine wc_region ?_
  refine wl_y (y_assign rfl) rfl ?_
  refine wl_nil ?_
  refine wq_then_norm (hK1 ?_)
  refine wc_seq ?_; intro K2 hK2
  refine wc_region ?_
  refine wl_y (y_assign rfl) rfl ?_
  refine wl_nil ?_
  refine wq_then_norm (hK2 ?_)
  refine wc_seq ?_; intro K3 hK3
  refine wc_seq ?_; intro K4 hK4
  refine wc_region ?_
  refine wl_y (y_assign rfl) rfl ?_
  refine wl_nil ?_
  refine wq_then_norm (hK4 ?_)
  refine wc_block ?_
  refine wc_loop (fun n' L wr => ∃ (t k c5 : Nat) (A5 : Option Addr), L = [(0, .int .i64 (n : Int)), (3, .slice A5 k c5), (4, .int .u64 ((t + 2 : Nat) : Int))] ∧ n' = 408 - t ∧ (t ≤ 408 ∧ k ≤ n ∧ Ext w wr ∧ Row wr w.heap.size 59 A5 k c5 ((Big.pit t).2.map (iv .u64)))) _ _ ⟨0, 0, 0, none, rfl, rfl, by omega, by omega, Ext.refl _, Row.empty _ _ _⟩ ⟨(by first | rfl | exact congrArg some (int_val (by omega))), rfl, (by first | rfl | exact congrArg some (int_val (by omega))), trivial⟩ ?_
  rintro KL1 n' L wr ⟨t, k, c5, A5, rfl, rfl, ht, hk, E, R⟩ hL1
  refine wc_seq ?_; intro K5 hK5
  refine wc_seq ?_; intro K6 hK6
  refine wc_region ?_
  refine wl_y (y_move rfl) rfl ?_
  refine wl_y (y_len_slice rfl Try.underlying123) rfl ?_
  refine wl_y (y_move rfl) rfl ?_
  refine wl_y (y_lss rfl rfl) rfl ?_
  refine wl_nil ?_
  refine wq_then_norm (hK6 ?_)
  refine wc_dec rfl (fun hc1 => ?_) (fun hc1 => ?_)
  · skip
    refine wc_skip ?_
    refine wq_then_norm (hK5 ?_)
    refine wc_seq ?_; intro K7 hK7
    refine wc_block ?_
    refine wc_seq ?_; intro K8 hK8
    refine wc_region ?_
    refine wl_y (y_assign rfl) rfl ?_
    refine wl_nil ?_
    refine wq_then_norm (hK8 ?_)
    refine wc_seq ?_; intro K9 hK9
    refine wc_seq ?_; intro K10 hK10
    refine wc_region ?_
    refine wl_y (y_assign rfl) rfl ?_
    refine wl_nil ?_
    refine wq_then_norm (hK10 ?_)
    refine wc_block ?_
    have hlk : (Big.pit t).2.length = k := by have := R.len; simpa using this
    have ht4 := Big.pit_more (n := n) ht (by omega) hn
    refine wc_loop (fun n' L wq => ∃ (i : Nat) (pr : Bool), L = [(0, .int .i64 (n : Int)), (3, .slice A5 k c5), (4, .int .u64 ((t + 2 : Nat) : Int)), (5, .bool pr), (6, .int .i64 (i : Int))] ∧ n' = k - i ∧ (i ≤ k ∧ wq = wr ∧ pr = ((Big.pit t).2.take i).all (fun x => (t + 2) % x != 0))) _ _ ⟨0, true, rfl, rfl, by omega, rfl, by simp⟩ ⟨(by first | rfl | exact congrArg some (int_val (by omega))), rfl, (by first | rfl | exact congrArg some (int_val (by omega))), rfl, (by first | rfl | exact congrArg some (int_val (by omega))), trivial⟩ ?_
    rintro KL2 n' L wq ⟨i, pr, rfl, rfl, hi, rfl, hpr⟩ hL2
    refine wc_seq ?_; intro K11 hK11
    refine wc_seq ?_; intro K12 hK12
    refine wc_region ?_
    refine wl_y (y_move rfl) rfl ?_
    refine wl_y (y_move rfl) rfl ?_
    refine wl_y (y_len_slice rfl Try.underlying123) rfl ?_
    refine wl_y (y_lss rfl rfl) rfl ?_
    refine wl_nil ?_
    refine wq_then_norm (hK12 ?_)
    refine wc_dec rfl (fun hc2 => ?_) (fun hc2 => ?_)
    · skip
      refine wc_skip ?_
      refine wq_then_norm (hK11 ?_)
      refine wc_seq ?_; intro K13 hK13
      refine wc_block ?_
      refine wc_region ?_
      refine wl_y (y_move rfl) rfl ?_
      refine wl_yaskb (y_move rfl) rfl (fun hp => ?_) (fun hp => ?_)
      · skip
        obtain ⟨b1, off1, x, rfl, hx, hcx⟩ := (Ns.of_row R).cell (i := i) (by omega)
        have hx2 := Big.pit_ge t _ (List.getElem_mem (l := (Big.pit t).2) (n := i) (by omega))
        have hxe : x = (Big.pit t).2[i]'(by omega) := by rw [hx.out, List.getD_eq_getElem?_getD, List.getElem?_eq_getElem (by omega)]; rfl
        rw [← hxe] at hx2
        refine wl_gy 20 rfl rfl (y_move rfl) rfl ?_
        refine wl_gy 20 rfl rfl (y_move rfl) rfl ?_
        refine wl_gy 20 rfl rfl (y_move rfl) rfl ?_
        refine wl_gy 20 rfl rfl (y_ixs1 rfl rfl Try.underlying123 (by kernel_rfl) rfl (by omega)) rfl ?_
        refine wl_gy 20 rfl rfl (y_load1 rfl Try.underlying59 rfl (by assumption)) rfl ?_
        refine wl_gy 20 rfl rfl (y_rem rfl rfl (by omega) (show (((t + 2 : Nat) : Int).tmod (x : Int)) = (((t + 2) % x : Nat) : Int) from rfl)) rfl ?_
        refine wl_gy 20 rfl rfl (y_neq rfl rfl) rfl ?_
        refine wl_y (y_pickt rfl rfl) rfl ?_
        refine wl_y (y_assign rfl) rfl ?_
        refine wl_nil ?_
        refine wq_blk_norm ?_
        refine wq_then_norm (hK13 ?_)
        refine wc_region ?_
        refine wl_y (y_move rfl) rfl ?_
        refine wl_y (y_add rfl rfl (i64_ok (by omega) (by omega))) rfl ?_
        refine wl_y (y_assign rfl) rfl ?_
        refine wl_nil ?_
        refine wq_then_norm ?_
        refine hL2 _ _ ⟨i + 1, decide ((((t + 2) % x : Nat) : Int) ≠ 0), rfl, rfl, by omega, rfl, by rw [Big.all_take (by omega), ← hpr, hp, ← hx.out, Bool.true_and]; exact ne_dec _⟩ (by omega) ⟨(by first | rfl | exact congrArg some (int_val (by omega))), rfl, (by first | rfl | exact congrArg some (int_val (by omega))), rfl, (by first | rfl | exact congrArg some (int_val (by omega))), trivial⟩
      · skip
        refine wl_gno 20 rfl rfl rfl rfl ?_
        refine wl_gno 20 rfl rfl rfl rfl ?_
        refine wl_gno 20 rfl rfl rfl rfl ?_
        refine wl_gno 20 rfl rfl rfl rfl ?_
        refine wl_gno 20 rfl rfl rfl rfl ?_
        refine wl_gno 20 rfl rfl rfl rfl ?_
        refine wl_gno 20 rfl rfl rfl rfl ?_
        refine wl_y (y_pickf rfl rfl) rfl ?_
        refine wl_y (y_assign rfl) rfl ?_
        refine wl_nil ?_
        refine wq_blk_norm ?_
        refine wq_then_norm (hK13 ?_)
        refine wc_region ?_
        refine wl_y (y_move rfl) rfl ?_
        refine wl_y (y_add rfl rfl (i64_ok (by omega) (by omega))) rfl ?_
        refine wl_y (y_assign rfl) rfl ?_
        refine wl_nil ?_
        refine wq_then_norm ?_
        refine hL2 _ _ ⟨i + 1, false, rfl, rfl, by omega, rfl, by rw [Big.all_take (by omega), ← hpr, hp, Bool.false_and]⟩ (by omega) ⟨(by first | rfl | exact congrArg some (int_val (by omega))), rfl, (by first | rfl | exact congrArg some (int_val (by omega))), rfl, (by first | rfl | exact congrArg some (int_val (by omega))), trivial⟩
    · skip
      refine wc_exit ?_
      refine wq_then_exit ?_
      refine wq_then_exit ?_
      refine wq_blk_hit ?_
      refine wq_then_norm (hK9 ?_)
      refine wc_seq ?_; intro K14 hK14
      obtain rfl : i = k := by omega
      rw [List.take_of_length_le (by omega)] at hpr
      refine wc_region ?_
      refine wl_y (y_move rfl) rfl ?_
      refine wl_nil ?_
      refine wq_then_norm (hK14 ?_)
      refine wc_cond rfl (fun hc3 => ?_) (fun hc3 => ?_)
      · skip
        refine wc_region ?_
        refine wl_y (y_move rfl) rfl ?_
        refine wl_y (y_move rfl) rfl ?_
        refine wl_ef (ef_lit (z := .int .u64 0) Try.underlying123 (by kernel_rfl) rfl rfl rfl rfl rfl) rfl ?_
        rintro _ w5 ⟨g5, rfl, B5, hg5, ex⟩
        have R5 := R.ext ex; have F5 := E.ext ex; have hs5 := F5.size
        refine wl_ef (ef_app rfl rfl eltU R5 (At.blk (vs := [t + 2].map (iv .u64)) (B5.congr rfl)) rfl (by intro u hu; exact iv_one u hu) (by omega) (by omega) hs5) rfl ?_
        rintro _ w6 ⟨A6, c6, rfl, R6, be, gr, hl⟩
        have F6 := F5.trans be; have R7 := R6.ivs; rw [← Big.pit_yes t (by rw [← hpr, hc3])] at R7
        refine wl_y (y_assign rfl) rfl ?_
        refine wl_nil ?_
        refine wq_blk_norm ?_
        refine wq_then_norm (hK7 ?_)
        refine wc_region ?_
        refine wl_y (y_move rfl) rfl ?_
        refine wl_y (y_add rfl rfl (u64_nat (n := t + 1 + 2) (by omega) (by omega))) rfl ?_
        refine wl_y (y_assign rfl) rfl ?_
        refine wl_nil ?_
        refine wq_then_norm ?_
        refine hL1 _ _ ⟨t + 1, i + 1, c6, A6, rfl, rfl, by omega, by omega, F6, R7⟩ (by omega) ⟨(by first | rfl | exact congrArg some (int_val (by omega))), rfl, (by first | rfl | exact congrArg some (int_val (by omega))), trivial⟩
      · skip
        refine wc_skip ?_
        refine wq_blk_norm ?_
        refine wq_then_norm (hK7 ?_)
        refine wc_region ?_
        refine wl_y (y_move rfl) rfl ?_
        refine wl_y (y_add rfl rfl (u64_nat (n := t + 1 + 2) (by omega) (by omega))) rfl ?_
        refine wl_y (y_assign rfl) rfl ?_
        refine wl_nil ?_
        refine wq_then_norm ?_
        refine hL1 _ _ ⟨t + 1, i, c5, A5, rfl, rfl, by omega, by omega, E, by rw [Big.pit_no t (by rw [← hpr, hc3])]; exact R⟩ (by omega) ⟨(by first | rfl | exact congrArg some (int_val (by omega))), rfl, (by first | rfl | exact congrArg some (int_val (by omega))), trivial⟩
  · skip
    refine wc_exit ?_
    refine wq_then_exit ?_
    refine wq_then_exit ?_
    refine wq_blk_hit ?_
    refine wq_then_norm (hK3 ?_)
    refine wc_seq ?_; intro K15 hK15
    refine wc_region ?_
    refine wl_y (y_move rfl) rfl ?_
    refine wl_y (y_assign rfl) rfl ?_
    refine wl_nil ?_
    refine wq_then_norm (hK15 ?_)
    refine wc_ret ?_
    refine hret rfl ?_
    obtain rfl : k = n := by omega
    exact ⟨A5, c5, rfl, by rw [← Big.primes_of ht (by have := R.len; simpa using this)]; exact Ns.of_row R, E⟩
theorem root_any (n k : Nat) (w : World) (hn : n < 18446744073709551616) (hk : k = 2 ∨ k = 3) :
    Calls Try.prog 135 #[.int .u64 (n : Int), .int .i64 (k : Int)] w fun e w' => e = .returned (.int .u64 ((Big.root n k : Nat) : Int)) ∧ Ext w w' := by
  have hl0 := Big.digs_length_le n 5 (by omega)
  refine vc_enter1 47 Try.func135 rfl rfl rfl rfl ?_
  intro Q hret
  refine wc_seq ?_; intro K1 hK1
  refine wc_region ?_
  refine wl_y (y_assign rfl) rfl ?_
  refine wl_nil ?_
  refine wq_then_norm (hK1 ?_)
  refine wc_seq ?_; intro K2 hK2
  refine wc_region ?_
  refine wl_y (y_move rfl) rfl ?_
  refine wl_call Try.func88 rfl rfl rfl (num_any n _ hn) rfl ?_
  rintro e w1 ⟨A1, n1, c1, rfl, H1, hk1_1, ex⟩
  refine ⟨_, rfl, ?_⟩
  have E1 := ex; have hl1 := H1.len
  refine wl_y (y_move rfl) rfl ?_
  refine wl_y (y_mul rfl rfl (i64_nat (n := 64 * k) (by omega) (by omega))) rfl ?_
  refine wl_call Try.func89 rfl rfl rfl (pow_any (64 * k) _ (by omega)) rfl ?_
  rintro e w2 ⟨A2, n2, c2, rfl, H2, h2, hk1_4, ex⟩
  refine ⟨_, rfl, ?_⟩
  have E2 := E1.ext ex; have H1' := H1.ext ex
  refine wl_call Try.func53 rfl rfl rfl (mul_any A1 A2 n1 c1 n2 c2 n (2 ^ (64 * k)) _ H1' H2 (by omega) (by omega)) rfl ?_
  rintro e w3 ⟨A3, n3, c3, rfl, H3, h3, hk1_5, ex⟩
  refine ⟨_, rfl, ?_⟩
  have E3 := E2.ext ex; obtain ⟨T, hT⟩ : ∃ T, T = n * 2 ^ (64 * k) := ⟨_, rfl⟩; rw [← hT] at H3
  refine wl_y (y_assign rfl) rfl ?_
  refine wl_nil ?_
  refine wq_then_norm (hK2 ?_)
  refine wc_seq ?_; intro K3 hK3
  refine wc_region ?_
  refine wl_y (y_assign rfl) rfl ?_
  refine wl_nil ?_
  refine wq_then_norm (hK3 ?_)
  refine wc_seq ?_; intro K4 hK4
  refine wc_seq ?_; intro K5 hK5
  refine wc_region ?_
  refine wl_y (y_assign rfl) rfl ?_
  refine wl_nil ?_
  refine wq_then_norm (hK5 ?_)
  refine wc_block ?_
  refine wc_loop (fun n' L wr => ∃ (j x n5 c5 : Nat) (A5 : Option Addr), L = [(1, .int .i64 (k : Int)), (5, .slice A3 n3 c3), (6, .slice A5 n5 c5), (7, .int .i64 ((j : Int) - 1))] ∧ n' = 1 + j ∧ (j ≤ 70 ∧ n5 + j ≤ 100 ∧ Ext w3 wr ∧ Bg wr A5 n5 x ∧ Big.rootF T k j x = Big.rootF T k 70 0)) _ _ ⟨70, 0, 0, 0, none, rfl, rfl, by omega, by omega, Ext.refl _, Ns.nil _ _, rfl⟩ ⟨(by first | rfl | exact congrArg some (int_val (by omega))), rfl, rfl, (by first | rfl | exact congrArg some (int_val (by omega))), trivial⟩ ?_
  rintro KL1 n' L wr ⟨j, x, n5, c5, A5, rfl, rfl, hj, hn5, E, H5, hv⟩ hL1
  refine wc_seq ?_; intro K6 hK6
  refine wc_seq ?_; intro K7 hK7
  refine wc_region ?_
  refine wl_y (y_move rfl) rfl ?_
  refine wl_y (y_geq rfl rfl) rfl ?_
  refine wl_nil ?_
  refine wq_then_norm (hK7 ?_)
  refine wc_dec rfl (fun hc1 => ?_) (fun hc1 => ?_)
  · skip
    refine wc_skip ?_
    refine wq_then_norm (hK6 ?_)
    refine wc_seq ?_; intro K8 hK8
    refine wc_block ?_
    refine wc_seq ?_; intro K9 hK9
    obtain ⟨j, rfl⟩ : ∃ i, j = i + 1 := ⟨j - 1, by omega⟩
    rw [show (((j + 1 : Nat) : Int) - 1) = (j : Int) by omega]
    refine wc_region ?_
    refine wl_y (y_move rfl) rfl ?_
    refine wl_y (y_move rfl) rfl ?_
    refine wl_call Try.func89 rfl rfl rfl (pow_any j _ (by omega)) rfl ?_
    rintro e w6 ⟨A6, n6, c6, rfl, H6, h6, hk6_2, ex⟩
    refine ⟨_, rfl, ?_⟩
    have F6 := E.ext ex; have H5' := H5.ext ex
    refine wl_call Try.func52 rfl rfl rfl (add_any A5 A6 n5 c5 n6 c6 x (2 ^ j) _ H5' H6 (by omega) (by omega)) rfl ?_
    rintro e w7 ⟨A7, n7, c7, rfl, H7, h7, hk6_3, ex⟩
    refine ⟨_, rfl, ?_⟩
    have F7 := F6.ext ex; obtain ⟨y, hy⟩ : ∃ y, y = x + 2 ^ j := ⟨_, rfl⟩; rw [← hy] at H7; have K5 := H5'.ext ex
    refine wl_y (y_assign rfl) rfl ?_
    refine wl_nil ?_
    refine wq_then_norm (hK9 ?_)
    refine wc_seq ?_; intro K10 hK10
    refine wc_region ?_
    refine wl_y (y_move rfl) rfl ?_
    refine wl_y (y_move rfl) rfl ?_
    refine wl_call Try.func53 rfl rfl rfl (mul_any A7 A7 n7 c7 n7 c7 y y _ H7 H7 (by omega) (by omega)) rfl ?_
    rintro e w8 ⟨A8, n8, c8, rfl, H8, h8, hk7_2, ex⟩
    refine ⟨_, rfl, ?_⟩
    have F8 := F7.ext ex; have H7' := H7.ext ex; replace K5 := K5.ext ex
    refine wl_y (y_assign rfl) rfl ?_
    refine wl_nil ?_
    refine wq_then_norm (hK10 ?_)
    refine wc_seq ?_; intro K11 hK11
    refine wc_seq ?_; intro K12 hK12
    refine wc_region ?_
    refine wl_y (y_move rfl) rfl ?_
    refine wl_y (y_eql rfl rfl) rfl ?_
    refine wl_nil ?_
    refine wq_then_norm (hK12 ?_)
    refine wc_dec rfl (fun hc2 => ?_) (fun hc2 => ?_)
    · skip
      refine wc_region ?_
      refine wl_y (y_move rfl) rfl ?_
      refine wl_y (y_move rfl) rfl ?_
      refine wl_call Try.func53 rfl rfl rfl (mul_any A8 A7 n8 c8 n7 c7 (y * y) y _ H8 H7' (by omega) (by omega)) rfl ?_
      rintro e w9 ⟨A9, n9, c9, rfl, H9, h9, hk9_2, ex⟩
      refine ⟨_, rfl, ?_⟩
      have F9 := F8.ext ex; have H7q := H7'.ext ex; replace K5 := K5.ext ex
      refine wl_y (y_assign rfl) rfl ?_
      refine wl_nil ?_
      refine wq_then_norm (hK11 ?_)
      refine wc_seq ?_; intro K13 hK13
      refine wc_region ?_
      refine wl_y (y_move rfl) rfl ?_
      refine wl_y (y_move rfl) rfl ?_
      refine wl_call Try.func35 rfl rfl rfl (less_any A3 A9 n3 c3 n9 c9 T (y * y * y) _ (H3.wk F9) H9 (by omega) (by omega)) rfl ?_
      rintro e w10 ⟨rfl, ex⟩
      refine ⟨_, rfl, ?_⟩
      have F10 := F9.ext ex; have hz : y ^ k = y * y * y := by rw [show k = 3 by omega, Nat.pow_succ, Nat.pow_two]
      have H7z := H7q.ext ex; replace K5 := K5.ext ex
      refine wl_y (y_not rfl) rfl ?_
      refine wl_nil ?_
      refine wq_then_norm (hK13 ?_)
      refine wc_cond rfl (fun hc3 => ?_) (fun hc3 => ?_)
      · skip
        simp at hc3
        refine wc_region ?_
        refine wl_y (y_move rfl) rfl ?_
        refine wl_y (y_assign rfl) rfl ?_
        refine wl_nil ?_
        refine wq_blk_norm ?_
        refine wq_then_norm (hK8 ?_)
        refine wc_region ?_
        refine wl_y (y_move rfl) rfl ?_
        refine wl_y (y_sub rfl rfl (i64_ok (by omega) (by omega))) rfl ?_
        refine wl_y (y_assign rfl) rfl ?_
        refine wl_nil ?_
        refine wq_then_norm ?_
        refine hL1 _ _ ⟨j, y, n7, c7, A7, rfl, rfl, by omega, by omega, F10, H7z, by rw [← hv, Big.rootF_yes (by rw [← hy, hz]; exact hc3), hy]⟩ (by omega) ⟨(by first | rfl | exact congrArg some (int_val (by omega))), rfl, rfl, (by first | rfl | exact congrArg some (int_val (by omega))), trivial⟩
      · skip
        simp at hc3
        refine wc_skip ?_
        refine wq_blk_norm ?_
        refine wq_then_norm (hK8 ?_)
        refine wc_region ?_
        refine wl_y (y_move rfl) rfl ?_
        refine wl_y (y_sub rfl rfl (i64_ok (by omega) (by omega))) rfl ?_
        refine wl_y (y_assign rfl) rfl ?_
        refine wl_nil ?_
        refine wq_then_norm ?_
        refine hL1 _ _ ⟨j, x, n5, c5, A5, rfl, rfl, by omega, by omega, F10, K5, by rw [← hv, Big.rootF_no (by rw [← hy, hz]; omega)]⟩ (by omega) ⟨(by first | rfl | exact congrArg some (int_val (by omega))), rfl, rfl, (by first | rfl | exact congrArg some (int_val (by omega))), trivial⟩
    · skip
      refine wc_skip ?_
      refine wq_then_norm (hK11 ?_)
      refine wc_seq ?_; intro K14 hK14
      refine wc_region ?_
      refine wl_y (y_move rfl) rfl ?_
      refine wl_y (y_move rfl) rfl ?_
      refine wl_call Try.func35 rfl rfl rfl (less_any A3 A8 n3 c3 n8 c8 T (y * y) _ (H3.wk F8) H8 (by omega) (by omega)) rfl ?_
      rintro e w10 ⟨rfl, ex⟩
      refine ⟨_, rfl, ?_⟩
      have F10 := F8.ext ex; have hz : y ^ k = y * y := by rw [show k = 2 by omega, Nat.pow_two]
      have H7z := H7'.ext ex; replace K5 := K5.ext ex
      refine wl_y (y_not rfl) rfl ?_
      refine wl_nil ?_
      refine wq_then_norm (hK14 ?_)
      refine wc_cond rfl (fun hc3 => ?_) (fun hc3 => ?_)
      · skip
        simp at hc3
        refine wc_region ?_
        refine wl_y (y_move rfl) rfl ?_
        refine wl_y (y_assign rfl) rfl ?_
        refine wl_nil ?_
        refine wq_blk_norm ?_
        refine wq_then_norm (hK8 ?_)
        refine wc_region ?_
        refine wl_y (y_move rfl) rfl ?_
        refine wl_y (y_sub rfl rfl (i64_ok (by omega) (by omega))) rfl ?_
        refine wl_y (y_assign rfl) rfl ?_
        refine wl_nil ?_
        refine wq_then_norm ?_
        refine hL1 _ _ ⟨j, y, n7, c7, A7, rfl, rfl, by omega, by omega, F10, H7z, by rw [← hv, Big.rootF_yes (by rw [← hy, hz]; exact hc3), hy]⟩ (by omega) ⟨(by first | rfl | exact congrArg some (int_val (by omega))), rfl, rfl, (by first | rfl | exact congrArg some (int_val (by omega))), trivial⟩
      · skip
        simp at hc3
        refine wc_skip ?_
        refine wq_blk_norm ?_
        refine wq_then_norm (hK8 ?_)
        refine wc_region ?_
        refine wl_y (y_move rfl) rfl ?_
        refine wl_y (y_sub rfl rfl (i64_ok (by omega) (by omega))) rfl ?_
        refine wl_y (y_assign rfl) rfl ?_
        refine wl_nil ?_
        refine wq_then_norm ?_
        refine hL1 _ _ ⟨j, x, n5, c5, A5, rfl, rfl, by omega, by omega, F10, K5, by rw [← hv, Big.rootF_no (by rw [← hy, hz]; omega)]⟩ (by omega) ⟨(by first | rfl | exact congrArg some (int_val (by omega))), rfl, rfl, (by first | rfl | exact congrArg some (int_val (by omega))), trivial⟩
  · skip
    refine wc_exit ?_
    refine wq_then_exit ?_
    refine wq_then_exit ?_
    refine wq_blk_hit ?_
    refine wq_then_norm (hK4 ?_)
    refine wc_seq ?_; intro K15 hK15
    refine wc_region ?_
    refine wl_y (y_move rfl) rfl ?_
    refine wl_call Try.func89 rfl rfl rfl (pow_any 64 _ (by omega)) rfl ?_
    rintro e w11 ⟨A11, n11, c11, rfl, H11, h11, hk12_1, ex⟩
    refine ⟨_, rfl, ?_⟩
    have F11 := E.ext ex; have H5' := H5.ext ex
    refine wl_call Try.func103 rfl rfl rfl (div_any A5 A11 n5 c5 n11 c11 x (2 ^ 64) _ H5' H11 (by decide) (by omega) (by omega)) rfl ?_
    rintro e w12 ⟨B1, m1, d1, B2, m2, d2, rfl, H12, H13, _, _, _, ex⟩
    refine ⟨_, rfl, ?_⟩
    have F12 := F11.ext ex; have hlm := H13.len; have h13 := Big.digs_length_le (x % 2 ^ 64) 5 (by omega)
    refine wl_y (y_move rfl) rfl ?_
    refine wl_y (y_extract rfl rfl) rfl ?_
    refine wl_y (y_extract rfl rfl) rfl ?_
    refine wl_y (y_assign rfl) rfl ?_
    refine wl_y (y_assign rfl) rfl ?_
    refine wl_nil ?_
    refine wq_then_norm (hK15 ?_)
    refine wc_seq ?_; intro K16 hK16
    refine wc_region ?_
    refine wl_y (y_move rfl) rfl ?_
    refine wl_call Try.func104 rfl rfl rfl (low_any B2 m2 d2 (x % 2 ^ 64) _ H13 (by omega)) rfl ?_
    rintro e w13 ⟨rfl, ex⟩
    refine ⟨_, rfl, ?_⟩
    have F13 := F12.ext ex
    refine wl_y (y_assign rfl) rfl ?_
    refine wl_nil ?_
    refine wq_then_norm (hK16 ?_)
    refine wc_ret ?_
    refine hret rfl ?_
    obtain rfl : j = 0 := by omega
    refine ⟨?_, E3.tr F13⟩
    rw [show x % 2 ^ 64 % 18446744073709551616 = Big.root n k from by unfold Big.root; rw [← hT, ← hv]; show x % 2 ^ 64 % 18446744073709551616 = x % 18446744073709551616; omega]
end Go.Proofs.Ytopimmomkapdoaa
