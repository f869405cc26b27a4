/- The reference's whole numbers (digits of base 2^15): trim, Num, digit, Less: what each hands back. Lengths up to 10^6. The reference's whole numbers: Add, Sub, Mul, Pow, Low: what each hands back. Lengths up to 10^6. -/
import Derived.Test.YtopimmomkapdoaaVc5
import Derived.Test.YtopimmomkapdoaaSl
import Derived.Test.YtopimmomkapdoaaNum
import Derived.Test.YtopimmomkapdoaaBigS
namespace Go.Proofs.Ytopimmomkapdoaa
section
open Go.RowKit
attribute [local irreducible] Y Ef WL WC WK WQ WM OpM
theorem eltI : Elt Try.prog 67 3 8 := Elt.of Try.underlying67 (z := .int .i64 0) (by kernel_rfl) rfl
/-- A number's digits at an address. -/
def Bg (w : World) (A : Option Addr) (n v : Nat) : Prop := Ns .i64 w A n (Big.digs v)
section
variable {w w' : World} {A : Option Addr} {n v : Nat} {xs : List Nat} {k : IntKind}
theorem Ns.ext (h : Ns k w A n xs) (E : Ext w w') : Ns k w' A n xs := h.below E
theorem Ns.wk {w0 : World} (h : Ns k w0 A n xs) (E : Ext w0 w) : Ns k w A n xs := h.below E
theorem Bg.ext (h : Bg w A n v) (E : Ext w w') : Bg w' A n v := Ns.ext h E
theorem Bg.wk {w0 : World} (h : Bg w0 A n v) (E : Ext w0 w) : Bg w A n v := Ns.ext h E
theorem Bg.len (h : Bg w A n v) : (Big.digs v).length = n := h.1
theorem Bg.congr {u : Nat} (h : Bg w A n v) (e : v = u) : Bg w A n u := e ▸ h
theorem Ns.take (h : Ns k w A n xs) {j : Nat} (hj : j ≤ n) : Ns k w A j (xs.take j) := by
  refine ⟨by have := h.1; simp; omega, ?_⟩
  rcases h.2 with h0 | ⟨b, off, hA, hc⟩
  · left; have : xs = [] := by simpa using h0
    rw [this]; simp
  · refine .inr ⟨b, off, hA, fun i u hu => hc i u ?_⟩
    rw [List.map_take, List.getElem?_take] at hu
    split at hu
    · exact hu
    · cases hu
theorem Ns.of_row {base c : Nat} {e : TypeId} (h : Row w base e A n c (xs.map (iv k))) : Ns k w A n xs := ⟨by have := h.len; simpa using this, Row.at h⟩
theorem Ns.nil (w : World) (A : Option Addr) : Ns k w A 0 [] := ⟨rfl, .inl rfl⟩
theorem Row.ivs {base c : Nat} {e : TypeId} {ys : List Nat} (h : Row w base e A n c (xs.map (iv k) ++ ys.map (iv k))) : Row w base e A n c ((xs ++ ys).map (iv k)) := by rw [List.map_append]; exact h
theorem Ns.blk {g : Nat} {t : TypeId} (h : Blk w g t (nums k xs)) (hn : xs.length = n) : Ns k w (some ⟨g, 0, none⟩) n xs :=
  ⟨hn, At.blk (vs := xs.map (iv k)) h⟩
theorem Ns.cell {i : Nat} (h : Ns k w A n xs) (hi : i < n) : ∃ b off x, A = some ⟨b, off, none⟩ ∧ Hid (x = xs.getD i 0) ∧ w.cell? ⟨b, off + i, none⟩ = some (.int k (x : Int)) := by
  obtain ⟨b, off, x, e, hx, _, hc⟩ := h.get hi
  exact ⟨b, off, x, e, hx, hc⟩
end
theorem i64_nat {a : Int} {n : Nat} (h : a = (n : Int)) (hn : n ≤ 9223372036854775807) : IntKind.i64.wrap a = (n : Int) := by
  subst h; exact i64_ok (by omega) (by omega)
theorem trim_any (A : Option Addr) (n c : Nat) (xs : List Nat) (w : World) (H : Ns .i64 w A n xs) (hok : Big.ok xs) (hc : n ≤ c) (hn : n ≤ 10000000) :
    Calls Try.prog 112 #[.slice A n c] w fun e w' => ∃ n', e = .returned (.slice A n' c) ∧ Bg w' A n' (Big.val xs) ∧ n' ≤ n ∧ Ext w w' := by
  have hl := H.1
  refine vc_enter1 21 Try.func112 rfl rfl rfl rfl ?_
  intro Q hret
  refine wc_seq ?_; intro K1 hK1
  refine wc_region ?_
  refine wl_y (y_assign rfl) rfl ?_
  refine wl_nil ?_
  refine wq_then_norm (hK1 ?_)
  refine wc_seq ?_; intro K2 hK2
  refine wc_block ?_
  refine wc_loop (fun n' L wr => ∃ k : Nat, L = [(0, .slice A k c)] ∧ n' = 1 + k ∧ (k ≤ n ∧ Ext w wr ∧ Big.trimmed xs k)) _ _ ⟨n, rfl, rfl, Nat.le_refl _, Ext.refl _, by rw [← hl]; exact Big.trimmed_all xs⟩ ⟨rfl, trivial⟩ ?_
  rintro KL1 n' L wr ⟨k, rfl, rfl, hk, E, hT⟩ hL1
  refine wc_seq ?_; intro K3 hK3
  refine wc_seq ?_; intro K4 hK4
  refine wc_region ?_
  refine wl_y (y_move rfl) rfl ?_
  refine wl_y (y_len_slice rfl Try.underlying67) rfl ?_
  refine wl_yask (y_gtr rfl rfl) rfl (fun h1 => ?_) (fun h1 => ?_)
  · skip
    refine wl_y (y_move rfl) rfl ?_
    obtain ⟨b, off, x, rfl, hx, hcx⟩ := (H.wk E).cell (i := k - 1) (by omega)
    refine wl_gy 6 rfl rfl (y_move rfl) rfl ?_
    refine wl_gy 6 rfl rfl (y_move rfl) rfl ?_
    refine wl_gy 6 rfl rfl (y_len_slice rfl Try.underlying67) rfl ?_
    refine wl_gy 6 rfl rfl (y_sub rfl rfl (i64_ok (by omega) (by omega))) rfl ?_
    refine wl_gy 6 rfl rfl (y_ixs1 rfl rfl Try.underlying67 (by kernel_rfl) (j := k - 1) (by omega) (by omega)) rfl ?_
    refine wl_gy 6 rfl rfl (y_load1 rfl Try.underlying3 rfl (by assumption)) rfl ?_
    refine wl_gy 6 rfl rfl (y_eql rfl rfl) rfl ?_
    refine wl_y (y_pickt rfl rfl) rfl ?_
    refine wl_nil ?_
    refine wq_then_norm (hK4 ?_)
    refine wc_dec rfl (fun hc1 => ?_) (fun hc1 => ?_)
    · skip
      refine wc_skip ?_
      refine wq_then_norm (hK3 ?_)
      refine wc_block ?_
      refine wc_region ?_
      refine wl_y (y_move rfl) rfl ?_
      refine wl_y (y_move rfl) rfl ?_
      refine wl_y (y_len_slice rfl Try.underlying67) rfl ?_
      refine wl_y (y_sub rfl rfl (i64_ok (by omega) (by omega))) rfl ?_
      refine wl_y (y_cuth (s := 1) rfl rfl Try.underlying67 (by kernel_rfl) (j := k - 1) (by omega) (by omega)) rfl ?_
      refine wl_y (y_assign rfl) rfl ?_
      refine wl_nil ?_
      refine wq_blk_norm ?_
      refine wq_then_norm ?_
      refine hL1 _ _ ⟨k - 1, rfl, rfl, by omega, E, by obtain ⟨k, rfl⟩ : ∃ j, k = j + 1 := ⟨k - 1, by omega⟩; exact Big.trimmed_step hT (by show xs.getD k 0 = 0; rw [Nat.add_sub_cancel] at hx; rw [← hx.out]; omega)⟩ (by omega) ⟨rfl, trivial⟩
    · skip
      refine wc_exit ?_
      refine wq_then_exit ?_
      refine wq_then_exit ?_
      refine wq_blk_hit ?_
      refine wq_then_norm (hK2 ?_)
      refine wc_seq ?_; intro K5 hK5
      refine wc_region ?_
      refine wl_y (y_move rfl) rfl ?_
      refine wl_y (y_assign rfl) rfl ?_
      refine wl_nil ?_
      refine wq_then_norm (hK5 ?_)
      refine wc_ret ?_
      refine hret rfl ?_
      exact ⟨k, rfl, by have := (H.wk E).take (j := k) hk; rw [Big.trimmed_end hT hok (.inr (by rw [← hx.out]; omega))] at this; exact this, hk, E⟩
  · skip
    refine wl_y (y_move rfl) rfl ?_
    refine wl_gno 6 rfl rfl rfl rfl ?_
    refine wl_gno 6 rfl rfl rfl rfl ?_
    refine wl_gno 6 rfl rfl rfl rfl ?_
    refine wl_gno 6 rfl rfl rfl rfl ?_
    refine wl_gno 6 rfl rfl rfl rfl ?_
    refine wl_gno 6 rfl rfl rfl rfl ?_
    refine wl_gno 6 rfl rfl rfl rfl ?_
    refine wl_y (y_pickf rfl rfl) rfl ?_
    refine wl_nil ?_
    refine wq_then_norm (hK4 ?_)
    refine wc_false rfl rfl ?_
    refine wc_exit ?_
    refine wq_then_exit ?_
    refine wq_then_exit ?_
    refine wq_blk_hit ?_
    refine wq_then_norm (hK2 ?_)
    refine wc_seq ?_; intro K6 hK6
    refine wc_region ?_
    refine wl_y (y_move rfl) rfl ?_
    refine wl_y (y_assign rfl) rfl ?_
    refine wl_nil ?_
    refine wq_then_norm (hK6 ?_)
    refine wc_ret ?_
    refine hret rfl ?_
    exact ⟨k, rfl, by have := (H.wk E).take (j := k) hk; rw [Big.trimmed_end hT hok (.inl (by omega))] at this; exact this, hk, E⟩
theorem u64_dig (n : Nat) : ((n % 32768 : Nat) : Int) = ((n % 32768 : Nat) : Int) := rfl
theorem num_any (n : Nat) (w : World) (hn : n < 18446744073709551616) :
    Calls Try.prog 88 #[.int .u64 (n : Int)] w fun e w' => ∃ A' n' c', e = .returned (.slice A' n' c') ∧ Bg w' A' n' n ∧ n' ≤ c' ∧ Ext w w' := by
  have hlen := Big.digs_length_le n 5 (by omega)
  refine vc_enter1 15 Try.func88 rfl rfl rfl rfl ?_
  intro Q hret
  refine wc_seq ?_; intro K1 hK1
  refine wc_region ?_
  refine wl_y (y_assign rfl) rfl ?_
  refine wl_nil ?_
  refine wq_then_norm (hK1 ?_)
  refine wc_seq ?_; intro K2 hK2
  refine wc_region ?_
  refine wl_y (y_assign rfl) rfl ?_
  refine wl_nil ?_
  refine wq_then_norm (hK2 ?_)
  refine wc_seq ?_; intro K3 hK3
  refine wc_block ?_
  refine wc_loop (fun n' L wr => ∃ (m j c5 : Nat) (A5 : Option Addr) (l : List Nat), L = [(0, .int .u64 (m : Int)), (3, .slice A5 j c5)] ∧ n' = 1 + m ∧ (Ext w wr ∧ Row wr w.heap.size 3 A5 j c5 (l.map (iv .i64)) ∧ l.length = j ∧ m < 18446744073709551616 ∧ Big.digs n = l ++ Big.digs m)) _ _ ⟨n, 0, 0, none, [], rfl, rfl, Ext.refl _, Row.empty _ _ _, rfl, hn, rfl⟩ ⟨(by first | rfl | exact congrArg some (int_val (by omega))), rfl, trivial⟩ ?_
  rintro KL1 n' L wr ⟨m, j, c5, A5, l, rfl, rfl, E, R, hj, hm, hd⟩ hL1
  refine wc_seq ?_; intro K4 hK4
  refine wc_seq ?_; intro K5 hK5
  refine wc_region ?_
  refine wl_y (y_move rfl) rfl ?_
  refine wl_y (y_gtr rfl rfl) rfl ?_
  refine wl_nil ?_
  refine wq_then_norm (hK5 ?_)
  refine wc_dec rfl (fun hc1 => ?_) (fun hc1 => ?_)
  · skip
    refine wc_skip ?_
    refine wq_then_norm (hK4 ?_)
    refine wc_block ?_
    refine wc_seq ?_; intro K6 hK6
    have hmp : 0 < m := by omega
    have hj5 : j < 5 := by rw [hd, List.length_append, Big.digs_pos hmp, List.length_cons] at hlen; omega
    refine wc_region ?_
    refine wl_y (y_move rfl) rfl ?_
    refine wl_y (y_move rfl) rfl ?_
    refine wl_y (y_rem rfl rfl (by omega) (show ((m : Int).tmod 32768 = ((m % 32768 : Nat) : Int)) from rfl)) rfl ?_
    refine wl_y (y_conv rfl Try.underlying59 Try.underlying3 (i64_ok (by omega) (by omega))) rfl ?_
    refine wl_ef (ef_lit (z := .int .i64 0) Try.underlying67 (by kernel_rfl) rfl rfl rfl rfl rfl) rfl ?_
    rintro _ w5 ⟨g5, rfl, B5, hg5, ex⟩
    have R5 := R.ext ex; have F5 := E.ext ex; have hs5 := F5.size
    refine wl_ef (ef_app rfl rfl eltI R5 (At.blk (vs := [m % 32768].map (iv .i64)) (B5.congr rfl)) rfl (by intro u hu; exact iv_one u hu) (by omega) (by omega) hs5) rfl ?_
    rintro _ w6 ⟨A6, c6, rfl, R6, be, gr, hl⟩
    have F6 := F5.trans be; have R7 := R6.ivs
    refine wl_y (y_assign rfl) rfl ?_
    refine wl_nil ?_
    refine wq_then_norm (hK6 ?_)
    refine wc_region ?_
    refine wl_y (y_move rfl) rfl ?_
    refine wl_y (y_quo rfl rfl (by omega) (show IntKind.u64.wrap ((m : Int).tdiv 32768) = ((m / 32768 : Nat) : Int) from IntWalk.u64_in _ (by rw [show ((m : Int).tdiv 32768) = ((m / 32768 : Nat) : Int) from rfl]; exact ⟨by omega, by omega⟩))) rfl ?_
    refine wl_y (y_assign rfl) rfl ?_
    refine wl_nil ?_
    refine wq_blk_norm ?_
    refine wq_then_norm ?_
    refine hL1 _ _ ⟨m / 32768, j + 1, c6, A6, l ++ [m % 32768], rfl, rfl, F6, R7, by simp [hj], by omega, by rw [hd, Big.digs_pos hmp, List.append_assoc]; rfl⟩ (by omega) ⟨(by first | rfl | exact congrArg some (int_val (by omega))), rfl, trivial⟩
  · skip
    refine wc_exit ?_
    refine wq_then_exit ?_
    refine wq_then_exit ?_
    refine wq_blk_hit ?_
    refine wq_then_norm (hK3 ?_)
    refine wc_seq ?_; intro K7 hK7
    refine wc_region ?_
    refine wl_y (y_move rfl) rfl ?_
    refine wl_y (y_assign rfl) rfl ?_
    refine wl_nil ?_
    refine wq_then_norm (hK7 ?_)
    refine wc_ret ?_
    refine hret rfl ?_
    obtain rfl : m = 0 := by omega
    rw [Big.digs_zero, List.append_nil] at hd
    exact ⟨A5, j, c5, rfl, by unfold Bg; rw [hd]; exact Ns.of_row R, R.cap, E⟩
theorem digit_any (A : Option Addr) (n c i : Nat) (xs : List Nat) (w : World) (H : Ns .i64 w A n xs) (hn : n ≤ 10000000) :
    Calls Try.prog 111 #[.slice A n c, .int .i64 (i : Int)] w fun e w' => e = .returned (.int .i64 ((xs.getD i 0 : Nat) : Int)) ∧ Ext w w' := by
  refine vc_enter1 13 Try.func111 rfl rfl rfl rfl ?_
  intro Q hret
  refine wc_seq ?_; intro K1 hK1
  refine wc_region ?_
  refine wl_y (y_assign rfl) rfl ?_
  refine wl_nil ?_
  refine wq_then_norm (hK1 ?_)
  refine wc_seq ?_; intro K2 hK2
  refine wc_seq ?_; intro K3 hK3
  refine wc_region ?_
  refine wl_y (y_move rfl) rfl ?_
  refine wl_y (y_move rfl) rfl ?_
  refine wl_y (y_len_slice rfl Try.underlying67) rfl ?_
  refine wl_yask (y_lss rfl rfl) rfl (fun h1 => ?_) (fun h1 => ?_)
  · skip
    refine wl_nil ?_
    refine wq_then_norm (hK3 ?_)
    refine wc_true rfl rfl ?_
    refine wc_seq ?_; intro K4 hK4
    obtain ⟨b, off, x, rfl, hx, hcx⟩ := H.cell (i := i) (by omega)
    refine wc_region ?_
    refine wl_y (y_move rfl) rfl ?_
    refine wl_y (y_move rfl) rfl ?_
    refine wl_y (y_ixs1 rfl rfl Try.underlying67 (by kernel_rfl) rfl (by omega)) rfl ?_
    refine wl_y (y_load1 rfl Try.underlying3 rfl (by assumption)) rfl ?_
    refine wl_y (y_assign rfl) rfl ?_
    refine wl_nil ?_
    refine wq_then_norm (hK4 ?_)
    refine wc_ret ?_
    refine wq_then_ret ?_
    refine hret rfl ?_
    exact ⟨by rw [hx.out], Ext.refl _⟩
  · skip
    refine wl_nil ?_
    refine wq_then_norm (hK3 ?_)
    refine wc_false rfl rfl ?_
    refine wc_skip ?_
    refine wq_then_norm (hK2 ?_)
    refine wc_seq ?_; intro K5 hK5
    refine wc_region ?_
    refine wl_y (y_assign rfl) rfl ?_
    refine wl_nil ?_
    refine wq_then_norm (hK5 ?_)
    refine wc_ret ?_
    refine hret rfl ?_
    exact ⟨by have := H.1; rw [Big.getD_over (by omega)]; rfl, Ext.refl _⟩
theorem less_any (A B : Option Addr) (n c m d a b : Nat) (w : World) (HA : Bg w A n a) (HB : Bg w B m b) (hn : n ≤ 10000000) (hm : m ≤ 10000000) :
    Calls Try.prog 35 #[.slice A n c, .slice B m d] w fun e w' => e = .returned (.bool (decide (a < b))) ∧ Ext w w' := by
  have hla := HA.len; have hlb := HB.len
  refine vc_enter1 41 Try.func35 rfl rfl rfl rfl ?_
  intro Q hret
  refine wc_seq ?_; intro K1 hK1
  refine wc_region ?_
  refine wl_y (y_assign rfl) rfl ?_
  refine wl_nil ?_
  refine wq_then_norm (hK1 ?_)
  refine wc_seq ?_; intro K2 hK2
  refine wc_seq ?_; intro K3 hK3
  refine wc_region ?_
  refine wl_y (y_move rfl) rfl ?_
  refine wl_y (y_len_slice rfl Try.underlying67) rfl ?_
  refine wl_y (y_move rfl) rfl ?_
  refine wl_y (y_len_slice rfl Try.underlying67) rfl ?_
  refine wl_y (y_neq rfl rfl) rfl ?_
  refine wl_nil ?_
  refine wq_then_norm (hK3 ?_)
  refine wc_dec rfl (fun hc1 => ?_) (fun hc1 => ?_)
  · skip
    refine wc_seq ?_; intro K4 hK4
    refine wc_region ?_
    refine wl_y (y_move rfl) rfl ?_
    refine wl_y (y_len_slice rfl Try.underlying67) rfl ?_
    refine wl_y (y_move rfl) rfl ?_
    refine wl_y (y_len_slice rfl Try.underlying67) rfl ?_
    refine wl_y (y_lss rfl rfl) rfl ?_
    refine wl_y (y_assign rfl) rfl ?_
    refine wl_nil ?_
    refine wq_then_norm (hK4 ?_)
    refine wc_ret ?_
    refine wq_then_ret ?_
    refine hret rfl ?_
    exact ⟨ret_bool (by
      constructor
      · intro h; exact Big.length_lt (by omega)
      · intro h; have := Big.length_le (Nat.le_of_lt h); omega), Ext.refl _⟩
  · skip
    refine wc_skip ?_
    refine wq_then_norm (hK2 ?_)
    refine wc_seq ?_; intro K5 hK5
    refine wc_seq ?_; intro K6 hK6
    have hnm : n = m := by omega
    refine wc_region ?_
    refine wl_y (y_move rfl) rfl ?_
    refine wl_y (y_len_slice rfl Try.underlying67) rfl ?_
    refine wl_y (y_sub rfl rfl (i64_ok (by omega) (by omega))) rfl ?_
    refine wl_y (y_assign rfl) rfl ?_
    refine wl_nil ?_
    refine wq_then_norm (hK6 ?_)
    refine wc_block ?_
    refine wc_loop (fun n' L wr => ∃ j : Nat, L = [(0, .slice A n c), (1, .slice B m d), (5, .int .i64 ((j : Int) - 1))] ∧ n' = 1 + j ∧ (j ≤ n ∧ Ext w wr ∧ (Big.digs a).drop j = (Big.digs b).drop j)) _ _ ⟨n, rfl, rfl, Nat.le_refl _, Ext.refl _, by rw [List.drop_of_length_le (by omega), List.drop_of_length_le (by omega)]⟩ ⟨rfl, rfl, (by first | rfl | exact congrArg some (int_val (by omega))), trivial⟩ ?_
    rintro KL1 n' L wr ⟨j, rfl, rfl, hj, E, hD⟩ hL1
    refine wc_seq ?_; intro K7 hK7
    refine wc_seq ?_; intro K8 hK8
    refine wc_region ?_
    refine wl_y (y_move rfl) rfl ?_
    refine wl_y (y_geq rfl rfl) rfl ?_
    refine wl_nil ?_
    refine wq_then_norm (hK8 ?_)
    refine wc_dec rfl (fun hc2 => ?_) (fun hc2 => ?_)
    · skip
      refine wc_skip ?_
      refine wq_then_norm (hK7 ?_)
      refine wc_seq ?_; intro K9 hK9
      refine wc_block ?_
      refine wc_seq ?_; intro K10 hK10
      obtain ⟨g, off, x, rfl, hx, hcx⟩ := (HA.wk E).cell (i := j - 1) (by omega)
      obtain ⟨g', off', y, rfl, hy, hcy⟩ := (HB.wk E).cell (i := j - 1) (by omega)
      refine wc_draw (by kernel_rfl) 9 rfl ?_; intro wd6 ex hd6
      replace hcx := (ex.cell (cell_lt hcx)).trans hcx; replace hcy := (ex.cell (cell_lt hcy)).trans hcy; have E6 := E.ext ex
      obtain ⟨j, rfl⟩ : ∃ i, j = i + 1 := ⟨j - 1, by omega⟩
      rw [Nat.add_sub_cancel] at hcx hcy hx hy
      refine wm_y 0 rfl (by kernel_rfl) (y_move rfl) rfl ?_
      refine wm_y 1 rfl (by kernel_rfl) (y_move rfl) rfl ?_
      refine wm_y 2 rfl (by kernel_rfl) (y_ixs1 rfl rfl Try.underlying67 (by kernel_rfl) (j := j) (by omega) (by omega)) rfl ?_
      refine wm_y 3 rfl (by kernel_rfl) (y_load1 rfl Try.underlying3 rfl (by assumption)) rfl ?_
      refine wm_y 4 rfl (by kernel_rfl) (y_move rfl) rfl ?_
      refine wm_y 5 rfl (by kernel_rfl) (y_move rfl) rfl ?_
      refine wm_y 6 rfl (by kernel_rfl) (y_ixs1 rfl rfl Try.underlying67 (by kernel_rfl) (j := j) (by omega) (by omega)) rfl ?_
      refine wm_y 7 rfl (by kernel_rfl) (y_load1 rfl Try.underlying3 rfl (by assumption)) rfl ?_
      refine wm_y 8 rfl (by kernel_rfl) (y_neq rfl rfl) rfl ?_
      refine wm_done (by kernel_rfl) ?_
      refine wq_nop ?_
      refine wq_then_norm (hK10 ?_)
      refine wc_dec rfl (fun hc3 => ?_) (fun hc3 => ?_)
      · skip
        refine wc_seq ?_; intro K11 hK11
        refine wc_draw (by kernel_rfl) 10 rfl ?_; intro wd7 ex hd7
        replace hcx := (ex.cell (cell_lt hcx)).trans hcx; replace hcy := (ex.cell (cell_lt hcy)).trans hcy; have E7 := E6.ext ex
        refine wm_y 0 rfl (by kernel_rfl) (y_move rfl) rfl ?_
        refine wm_y 1 rfl (by kernel_rfl) (y_move rfl) rfl ?_
        refine wm_y 2 rfl (by kernel_rfl) (y_ixs1 rfl rfl Try.underlying67 (by kernel_rfl) (j := j) (by omega) (by omega)) rfl ?_
        refine wm_y 3 rfl (by kernel_rfl) (y_load1 rfl Try.underlying3 rfl (by assumption)) rfl ?_
        refine wm_y 4 rfl (by kernel_rfl) (y_move rfl) rfl ?_
        refine wm_y 5 rfl (by kernel_rfl) (y_move rfl) rfl ?_
        refine wm_y 6 rfl (by kernel_rfl) (y_ixs1 rfl rfl Try.underlying67 (by kernel_rfl) (j := j) (by omega) (by omega)) rfl ?_
        refine wm_y 7 rfl (by kernel_rfl) (y_load1 rfl Try.underlying3 rfl (by assumption)) rfl ?_
        refine wm_y 8 rfl (by kernel_rfl) (y_lss rfl rfl) rfl ?_
        refine wm_y 9 rfl (by kernel_rfl) (y_assign rfl) rfl ?_
        refine wm_done (by kernel_rfl) ?_
        refine wq_nop ?_
        refine wq_then_norm (hK11 ?_)
        refine wc_ret ?_
        refine wq_blk_ret ?_
        refine wq_then_ret ?_
        refine wq_then_ret ?_
        refine wq_blk_ret ?_
        refine wq_then_ret ?_
        refine hret rfl ?_
        exact ⟨ret_bool (by
          constructor
          · intro h
            have := Big.lt_of_digit (Big.ok_digs a) (Big.ok_digs b) j (by omega) (by omega) hD (by omega) (by rw [← hx.out, ← hy.out]; omega)
            rwa [Big.val_digs, Big.val_digs] at this
          · intro h
            rcases Nat.lt_or_ge x y with h1 | h1
            · omega
            · have := Big.lt_of_digit (Big.ok_digs b) (Big.ok_digs a) j (by omega) (by omega) hD.symm (by omega) (by rw [← hx.out, ← hy.out]; omega)
              rw [Big.val_digs, Big.val_digs] at this
              omega), E7⟩
      · skip
        refine wc_skip ?_
        refine wq_blk_norm ?_
        refine wq_then_norm (hK9 ?_)
        refine wc_region ?_
        refine wl_y (y_move rfl) rfl ?_
        refine wl_y (y_sub rfl rfl (i64_ok (by omega) (by omega))) rfl ?_
        refine wl_y (y_assign rfl) rfl ?_
        refine wl_nil ?_
        refine wq_then_norm ?_
        refine hL1 _ _ ⟨j, rfl, rfl, by omega, E6, Big.drop_step (by omega) (by omega) hD (by rw [← hx.out, ← hy.out]; omega)⟩ (by omega) ⟨rfl, rfl, (by first | rfl | exact congrArg some (int_val (by omega))), trivial⟩
    · skip
      refine wc_exit ?_
      refine wq_then_exit ?_
      refine wq_then_exit ?_
      refine wq_blk_hit ?_
      refine wq_then_norm (hK5 ?_)
      refine wc_seq ?_; intro K12 hK12
      refine wc_region ?_
      refine wl_y (y_assign rfl) rfl ?_
      refine wl_nil ?_
      refine wq_then_norm (hK12 ?_)
      refine wc_ret ?_
      refine hret rfl ?_
      exact ⟨by
        obtain rfl : j = 0 := by omega
        have := Big.digs_inj hD
        rw [decide_eq_false (by omega)], E⟩
end
section
open Go.RowKit
attribute [local irreducible] Y Ef WL WC WK WQ WM OpM
theorem wrap_u64' (n : Int) : IntKind.u64.wrap n = n % 18446744073709551616 := by simp [IntKind.wrap, IntKind.bits, IntKind.signed]
theorem u64_mod {a : Int} {n : Nat} (h : a = (n : Int)) : IntKind.u64.wrap a = ((n % 18446744073709551616 : Nat) : Int) := by
  subst h; rw [wrap_u64']; omega
theorem add_any (A B : Option Addr) (n c m d a b : Nat) (w : World) (HA : Bg w A n a) (HB : Bg w B m b) (hn : n ≤ 1000000) (hm : m ≤ 1000000) :
    Calls Try.prog 52 #[.slice A n c, .slice B m d] w fun e w' => ∃ A' n' c', e = .returned (.slice A' n' c') ∧ Bg w' A' n' (a + b) ∧ n' ≤ max n m + 1 ∧ n' ≤ c' ∧ Ext w w' := by
  have hla := HA.len; have hlb := HB.len
  refine vc_enter1 43 Try.func52 rfl rfl rfl rfl ?_
  intro Q hret
  refine wc_seq ?_; intro K1 hK1
  refine wc_region ?_
  refine wl_y (y_assign rfl) rfl ?_
  refine wl_nil ?_
  refine wq_then_norm (hK1 ?_)
  refine wc_seq ?_; intro K2 hK2
  refine wc_region ?_
  refine wl_y (y_assign rfl) rfl ?_
  refine wl_nil ?_
  refine wq_then_norm (hK2 ?_)
  refine wc_seq ?_; intro K3 hK3
  refine wc_region ?_
  refine wl_y (y_assign rfl) rfl ?_
  refine wl_nil ?_
  refine wq_then_norm (hK3 ?_)
  refine wc_seq ?_; intro K4 hK4
  refine wc_seq ?_; intro K5 hK5
  refine wc_region ?_
  refine wl_y (y_assign rfl) rfl ?_
  refine wl_nil ?_
  refine wq_then_norm (hK5 ?_)
  refine wc_block ?_
  refine wc_loop (fun n' L wr => ∃ (i k c5 : Nat) (A5 : Option Addr) (l : List Nat), L = [(0, .slice A n c), (1, .slice B m d), (5, .slice A5 i c5), (6, .int .i64 (k : Int)), (7, .int .i64 (i : Int))] ∧ n' = 2 * ((n - i) + (m - i)) + k ∧ (Ext w wr ∧ Row wr w.heap.size 3 A5 i c5 (l.map (iv .i64)) ∧ Big.ok l ∧ k ≤ 1 ∧ i + k ≤ max n m + 1 ∧ Big.val l + k * 32768 ^ i = Big.val ((Big.digs a).take i) + Big.val ((Big.digs b).take i))) _ _ ⟨0, 0, 0, none, [], rfl, rfl, Ext.refl _, Row.empty _ _ _, (by intro x hx; cases hx), by omega, by omega, rfl⟩ ⟨rfl, rfl, rfl, (by first | rfl | exact congrArg some (int_val (by omega))), (by first | rfl | exact congrArg some (int_val (by omega))), trivial⟩ ?_
  rintro KL1 n' L wr ⟨i, k, c5, A5, l, rfl, rfl, E, R, hok, hk, hik, hv⟩ hL1
  refine wc_seq ?_; intro K6 hK6
  refine wc_seq ?_; intro K7 hK7
  refine wc_region ?_
  refine wl_y (y_move rfl) rfl ?_
  refine wl_y (y_move rfl) rfl ?_
  refine wl_y (y_len_slice rfl Try.underlying67) rfl ?_
  refine wl_yask (y_lss rfl rfl) rfl (fun h1 => ?_) (fun h1 => ?_)
  · skip
    refine wl_y (y_move rfl) rfl ?_
    refine wl_gno 13 rfl rfl rfl rfl ?_
    refine wl_gno 13 rfl rfl rfl rfl ?_
    refine wl_gno 13 rfl rfl rfl rfl ?_
    refine wl_gno 13 rfl rfl rfl rfl ?_
    refine wl_y (y_pickt rfl rfl) rfl ?_
    refine wl_y (y_move rfl) rfl ?_
    refine wl_gno 19 rfl rfl rfl rfl ?_
    refine wl_gno 19 rfl rfl rfl rfl ?_
    refine wl_y (y_pickt rfl rfl) rfl ?_
    refine wl_nil ?_
    refine wq_then_norm (hK7 ?_)
    refine wc_true rfl rfl ?_
    refine wc_skip ?_
    refine wq_then_norm (hK6 ?_)
    refine wc_seq ?_; intro K8 hK8
    refine wc_block ?_
    refine wc_seq ?_; intro K9 hK9
    have hil : l.length = i := by have := R.len; simpa using this
    obtain ⟨x, hx⟩ : ∃ x, x = (Big.digs a).getD i 0 := ⟨_, rfl⟩
    obtain ⟨y, hy⟩ : ∃ y, y = (Big.digs b).getD i 0 := ⟨_, rfl⟩
    have hxl := Big.ok_get (Big.ok_digs a) i; have hyl := Big.ok_get (Big.ok_digs b) i; rw [← hx] at hxl; rw [← hy] at hyl
    have hx0 : n ≤ i → x = 0 := fun h => by rw [hx, Big.getD_over (by omega)]
    have hy0 : m ≤ i → y = 0 := fun h => by rw [hy, Big.getD_over (by omega)]
    refine wc_region ?_
    refine wl_y (y_move rfl) rfl ?_
    refine wl_y (y_move rfl) rfl ?_
    refine wl_call Try.func111 rfl rfl rfl (digit_any A n c i _ _ (HA.wk E) (by omega)) rfl ?_
    rintro e w2 ⟨rfl, ex⟩
    refine ⟨_, rfl, ?_⟩
    have E2 := E.ext ex; have R2 := R.ext ex; rw [← hx]
    refine wl_y (y_move rfl) rfl ?_
    refine wl_y (y_move rfl) rfl ?_
    refine wl_call Try.func111 rfl rfl rfl (digit_any B m d i _ _ (HB.wk E2) (by omega)) rfl ?_
    rintro e w3 ⟨rfl, ex⟩
    refine ⟨_, rfl, ?_⟩
    have E3 := E2.ext ex; have R3 := R2.ext ex; rw [← hy]
    refine wl_y (y_add rfl rfl (i64_ok (by omega) (by omega))) rfl ?_
    refine wl_y (y_move rfl) rfl ?_
    refine wl_y (y_add rfl rfl (i64_nat (n := x + y + k) (by omega) (by omega))) rfl ?_
    refine wl_y (y_assign rfl) rfl ?_
    refine wl_nil ?_
    refine wq_then_norm (hK9 ?_)
    refine wc_seq ?_; intro K10 hK10
    refine wc_region ?_
    refine wl_y (y_move rfl) rfl ?_
    refine wl_y (y_move rfl) rfl ?_
    refine wl_y (y_rem rfl rfl (by omega) (show (((x + y + k : Nat) : Int).tmod 32768 = (((x + y + k) % 32768 : Nat) : Int)) from rfl)) rfl ?_
    refine wl_ef (ef_lit (z := .int .i64 0) Try.underlying67 (by kernel_rfl) rfl rfl rfl rfl rfl) rfl ?_
    rintro _ w5 ⟨g5, rfl, B5, hg5, ex⟩
    have R5 := R3.ext ex; have F5 := E3.ext ex; have hs5 := F5.size
    refine wl_ef (ef_app rfl rfl eltI R5 (At.blk (vs := [(x + y + k) % 32768].map (iv .i64)) (B5.congr rfl)) rfl (by intro u hu; exact iv_one u hu) (by omega) (by omega) hs5) rfl ?_
    rintro _ w6 ⟨A6, c6, rfl, R6, be, gr, hl⟩
    have F6 := F5.trans be; have R7 := R6.ivs
    refine wl_y (y_assign rfl) rfl ?_
    refine wl_nil ?_
    refine wq_then_norm (hK10 ?_)
    refine wc_region ?_
    refine wl_y (y_move rfl) rfl ?_
    refine wl_y (y_quo rfl rfl (by omega) (show IntKind.i64.wrap (((x + y + k : Nat) : Int).tdiv 32768) = (((x + y + k) / 32768 : Nat) : Int) from i64_nat rfl (by omega))) rfl ?_
    refine wl_y (y_assign rfl) rfl ?_
    refine wl_nil ?_
    refine wq_blk_norm ?_
    refine wq_then_norm (hK8 ?_)
    refine wc_region ?_
    refine wl_y (y_move rfl) rfl ?_
    refine wl_y (y_add rfl rfl (i64_ok (by omega) (by omega))) rfl ?_
    refine wl_y (y_assign rfl) rfl ?_
    refine wl_nil ?_
    refine wq_then_norm ?_
    refine hL1 _ _ ⟨i + 1, (x + y + k) / 32768, c6, A6, l ++ [(x + y + k) % 32768], rfl, rfl, F6, R7, Big.ok_append hok (Big.ok_one (by omega)), by omega, by omega, by rw [Nat.pow_succ, Big.val_take_succ, Big.val_take_succ, ← hx, ← hy]; exact Big.add_step (by rw [hil]) hv⟩ (by omega) ⟨rfl, rfl, rfl, (by first | rfl | exact congrArg some (int_val (by omega))), (by first | rfl | exact congrArg some (int_val (by omega))), trivial⟩
  · skip
    refine wl_y (y_move rfl) rfl ?_
    refine wl_gy 13 rfl rfl (y_move rfl) rfl ?_
    refine wl_gy 13 rfl rfl (y_move rfl) rfl ?_
    refine wl_gy 13 rfl rfl (y_len_slice rfl Try.underlying67) rfl ?_
    refine wl_gyask 13 rfl rfl (y_lss rfl rfl) rfl (fun h2 => ?_) (fun h2 => ?_)
    · skip
      refine wl_y (y_pickf rfl rfl) rfl ?_
      refine wl_y (y_move rfl) rfl ?_
      refine wl_gno 19 rfl rfl rfl rfl ?_
      refine wl_gno 19 rfl rfl rfl rfl ?_
      refine wl_y (y_pickt rfl rfl) rfl ?_
      refine wl_nil ?_
      refine wq_then_norm (hK7 ?_)
      refine wc_true rfl rfl ?_
      refine wc_skip ?_
      refine wq_then_norm (hK6 ?_)
      refine wc_seq ?_; intro K11 hK11
      refine wc_block ?_
      refine wc_seq ?_; intro K12 hK12
      have hil : l.length = i := by have := R.len; simpa using this
      obtain ⟨x, hx⟩ : ∃ x, x = (Big.digs a).getD i 0 := ⟨_, rfl⟩
      obtain ⟨y, hy⟩ : ∃ y, y = (Big.digs b).getD i 0 := ⟨_, rfl⟩
      have hxl := Big.ok_get (Big.ok_digs a) i; have hyl := Big.ok_get (Big.ok_digs b) i; rw [← hx] at hxl; rw [← hy] at hyl
      have hx0 : n ≤ i → x = 0 := fun h => by rw [hx, Big.getD_over (by omega)]
      have hy0 : m ≤ i → y = 0 := fun h => by rw [hy, Big.getD_over (by omega)]
      refine wc_region ?_
      refine wl_y (y_move rfl) rfl ?_
      refine wl_y (y_move rfl) rfl ?_
      refine wl_call Try.func111 rfl rfl rfl (digit_any A n c i _ _ (HA.wk E) (by omega)) rfl ?_
      rintro e w2 ⟨rfl, ex⟩
      refine ⟨_, rfl, ?_⟩
      have E2 := E.ext ex; have R2 := R.ext ex; rw [← hx]
      refine wl_y (y_move rfl) rfl ?_
      refine wl_y (y_move rfl) rfl ?_
      refine wl_call Try.func111 rfl rfl rfl (digit_any B m d i _ _ (HB.wk E2) (by omega)) rfl ?_
      rintro e w3 ⟨rfl, ex⟩
      refine ⟨_, rfl, ?_⟩
      have E3 := E2.ext ex; have R3 := R2.ext ex; rw [← hy]
      refine wl_y (y_add rfl rfl (i64_ok (by omega) (by omega))) rfl ?_
      refine wl_y (y_move rfl) rfl ?_
      refine wl_y (y_add rfl rfl (i64_nat (n := x + y + k) (by omega) (by omega))) rfl ?_
      refine wl_y (y_assign rfl) rfl ?_
      refine wl_nil ?_
      refine wq_then_norm (hK12 ?_)
      refine wc_seq ?_; intro K13 hK13
      refine wc_region ?_
      refine wl_y (y_move rfl) rfl ?_
      refine wl_y (y_move rfl) rfl ?_
      refine wl_y (y_rem rfl rfl (by omega) (show (((x + y + k : Nat) : Int).tmod 32768 = (((x + y + k) % 32768 : Nat) : Int)) from rfl)) rfl ?_
      refine wl_ef (ef_lit (z := .int .i64 0) Try.underlying67 (by kernel_rfl) rfl rfl rfl rfl rfl) rfl ?_
      rintro _ w5 ⟨g5, rfl, B5, hg5, ex⟩
      have R5 := R3.ext ex; have F5 := E3.ext ex; have hs5 := F5.size
      refine wl_ef (ef_app rfl rfl eltI R5 (At.blk (vs := [(x + y + k) % 32768].map (iv .i64)) (B5.congr rfl)) rfl (by intro u hu; exact iv_one u hu) (by omega) (by omega) hs5) rfl ?_
      rintro _ w6 ⟨A6, c6, rfl, R6, be, gr, hl⟩
      have F6 := F5.trans be; have R7 := R6.ivs
      refine wl_y (y_assign rfl) rfl ?_
      refine wl_nil ?_
      refine wq_then_norm (hK13 ?_)
      refine wc_region ?_
      refine wl_y (y_move rfl) rfl ?_
      refine wl_y (y_quo rfl rfl (by omega) (show IntKind.i64.wrap (((x + y + k : Nat) : Int).tdiv 32768) = (((x + y + k) / 32768 : Nat) : Int) from i64_nat rfl (by omega))) rfl ?_
      refine wl_y (y_assign rfl) rfl ?_
      refine wl_nil ?_
      refine wq_blk_norm ?_
      refine wq_then_norm (hK11 ?_)
      refine wc_region ?_
      refine wl_y (y_move rfl) rfl ?_
      refine wl_y (y_add rfl rfl (i64_ok (by omega) (by omega))) rfl ?_
      refine wl_y (y_assign rfl) rfl ?_
      refine wl_nil ?_
      refine wq_then_norm ?_
      refine hL1 _ _ ⟨i + 1, (x + y + k) / 32768, c6, A6, l ++ [(x + y + k) % 32768], rfl, rfl, F6, R7, Big.ok_append hok (Big.ok_one (by omega)), by omega, by omega, by rw [Nat.pow_succ, Big.val_take_succ, Big.val_take_succ, ← hx, ← hy]; exact Big.add_step (by rw [hil]) hv⟩ (by omega) ⟨rfl, rfl, rfl, (by first | rfl | exact congrArg some (int_val (by omega))), (by first | rfl | exact congrArg some (int_val (by omega))), trivial⟩
    · skip
      refine wl_y (y_pickf rfl rfl) rfl ?_
      refine wl_y (y_move rfl) rfl ?_
      refine wl_gy 19 rfl rfl (y_move rfl) rfl ?_
      refine wl_gyask 19 rfl rfl (y_gtr rfl rfl) rfl (fun h3 => ?_) (fun h3 => ?_)
      · skip
        refine wl_y (y_pickf rfl rfl) rfl ?_
        refine wl_nil ?_
        refine wq_then_norm (hK7 ?_)
        refine wc_true rfl rfl ?_
        refine wc_skip ?_
        refine wq_then_norm (hK6 ?_)
        refine wc_seq ?_; intro K14 hK14
        refine wc_block ?_
        refine wc_seq ?_; intro K15 hK15
        have hil : l.length = i := by have := R.len; simpa using this
        obtain ⟨x, hx⟩ : ∃ x, x = (Big.digs a).getD i 0 := ⟨_, rfl⟩
        obtain ⟨y, hy⟩ : ∃ y, y = (Big.digs b).getD i 0 := ⟨_, rfl⟩
        have hxl := Big.ok_get (Big.ok_digs a) i; have hyl := Big.ok_get (Big.ok_digs b) i; rw [← hx] at hxl; rw [← hy] at hyl
        have hx0 : n ≤ i → x = 0 := fun h => by rw [hx, Big.getD_over (by omega)]
        have hy0 : m ≤ i → y = 0 := fun h => by rw [hy, Big.getD_over (by omega)]
        refine wc_region ?_
        refine wl_y (y_move rfl) rfl ?_
        refine wl_y (y_move rfl) rfl ?_
        refine wl_call Try.func111 rfl rfl rfl (digit_any A n c i _ _ (HA.wk E) (by omega)) rfl ?_
        rintro e w2 ⟨rfl, ex⟩
        refine ⟨_, rfl, ?_⟩
        have E2 := E.ext ex; have R2 := R.ext ex; rw [← hx]
        refine wl_y (y_move rfl) rfl ?_
        refine wl_y (y_move rfl) rfl ?_
        refine wl_call Try.func111 rfl rfl rfl (digit_any B m d i _ _ (HB.wk E2) (by omega)) rfl ?_
        rintro e w3 ⟨rfl, ex⟩
        refine ⟨_, rfl, ?_⟩
        have E3 := E2.ext ex; have R3 := R2.ext ex; rw [← hy]
        refine wl_y (y_add rfl rfl (i64_ok (by omega) (by omega))) rfl ?_
        refine wl_y (y_move rfl) rfl ?_
        refine wl_y (y_add rfl rfl (i64_nat (n := x + y + k) (by omega) (by omega))) rfl ?_
        refine wl_y (y_assign rfl) rfl ?_
        refine wl_nil ?_
        refine wq_then_norm (hK15 ?_)
        refine wc_seq ?_; intro K16 hK16
        refine wc_region ?_
        refine wl_y (y_move rfl) rfl ?_
        refine wl_y (y_move rfl) rfl ?_
        refine wl_y (y_rem rfl rfl (by omega) (show (((x + y + k : Nat) : Int).tmod 32768 = (((x + y + k) % 32768 : Nat) : Int)) from rfl)) rfl ?_
        refine wl_ef (ef_lit (z := .int .i64 0) Try.underlying67 (by kernel_rfl) rfl rfl rfl rfl rfl) rfl ?_
        rintro _ w5 ⟨g5, rfl, B5, hg5, ex⟩
        have R5 := R3.ext ex; have F5 := E3.ext ex; have hs5 := F5.size
        refine wl_ef (ef_app rfl rfl eltI R5 (At.blk (vs := [(x + y + k) % 32768].map (iv .i64)) (B5.congr rfl)) rfl (by intro u hu; exact iv_one u hu) (by omega) (by omega) hs5) rfl ?_
        rintro _ w6 ⟨A6, c6, rfl, R6, be, gr, hl⟩
        have F6 := F5.trans be; have R7 := R6.ivs
        refine wl_y (y_assign rfl) rfl ?_
        refine wl_nil ?_
        refine wq_then_norm (hK16 ?_)
        refine wc_region ?_
        refine wl_y (y_move rfl) rfl ?_
        refine wl_y (y_quo rfl rfl (by omega) (show IntKind.i64.wrap (((x + y + k : Nat) : Int).tdiv 32768) = (((x + y + k) / 32768 : Nat) : Int) from i64_nat rfl (by omega))) rfl ?_
        refine wl_y (y_assign rfl) rfl ?_
        refine wl_nil ?_
        refine wq_blk_norm ?_
        refine wq_then_norm (hK14 ?_)
        refine wc_region ?_
        refine wl_y (y_move rfl) rfl ?_
        refine wl_y (y_add rfl rfl (i64_ok (by omega) (by omega))) rfl ?_
        refine wl_y (y_assign rfl) rfl ?_
        refine wl_nil ?_
        refine wq_then_norm ?_
        refine hL1 _ _ ⟨i + 1, (x + y + k) / 32768, c6, A6, l ++ [(x + y + k) % 32768], rfl, rfl, F6, R7, Big.ok_append hok (Big.ok_one (by omega)), by omega, by omega, by rw [Nat.pow_succ, Big.val_take_succ, Big.val_take_succ, ← hx, ← hy]; exact Big.add_step (by rw [hil]) hv⟩ (by omega) ⟨rfl, rfl, rfl, (by first | rfl | exact congrArg some (int_val (by omega))), (by first | rfl | exact congrArg some (int_val (by omega))), trivial⟩
      · skip
        refine wl_y (y_pickf rfl rfl) rfl ?_
        refine wl_nil ?_
        refine wq_then_norm (hK7 ?_)
        refine wc_false rfl rfl ?_
        refine wc_exit ?_
        refine wq_then_exit ?_
        refine wq_then_exit ?_
        refine wq_blk_hit ?_
        refine wq_then_norm (hK4 ?_)
        refine wc_seq ?_; intro K17 hK17
        refine wc_region ?_
        refine wl_y (y_move rfl) rfl ?_
        have hil : l.length = i := by have := R.len; simpa using this
        refine wl_call Try.func112 rfl rfl rfl (trim_any A5 i c5 l _ (Ns.of_row R) hok R.cap (by omega)) rfl ?_
        rintro e w8 ⟨n8, rfl, H8, h8, ex⟩
        refine ⟨_, rfl, ?_⟩
        skip
        refine wl_y (y_assign rfl) rfl ?_
        refine wl_nil ?_
        refine wq_then_norm (hK17 ?_)
        refine wc_ret ?_
        refine hret rfl ?_
        exact ⟨A5, n8, c5, rfl, H8.congr (by
          obtain rfl : k = 0 := by omega
          rw [List.take_of_length_le (by omega), List.take_of_length_le (by omega), Big.val_digs, Big.val_digs] at hv
          omega), by omega, by have := R.cap; omega, E.ext ex⟩
theorem sub_any (A B : Option Addr) (n c m d a b : Nat) (w : World) (HA : Bg w A n a) (HB : Bg w B m b) (hb : b ≤ a) (hn : n ≤ 1000000) :
    Calls Try.prog 145 #[.slice A n c, .slice B m d] w fun e w' => ∃ A' n' c', e = .returned (.slice A' n' c') ∧ Bg w' A' n' (a - b) ∧ n' ≤ c' ∧ Ext w w' := by
  have hla := HA.len; have hlb := HB.len; have hle := Big.length_le hb
  refine vc_enter1 35 Try.func145 rfl rfl rfl rfl ?_
  intro Q hret
  refine wc_seq ?_; intro K1 hK1
  refine wc_region ?_
  refine wl_y (y_assign rfl) rfl ?_
  refine wl_nil ?_
  refine wq_then_norm (hK1 ?_)
  refine wc_seq ?_; intro K2 hK2
  refine wc_region ?_
  refine wl_y (y_assign rfl) rfl ?_
  refine wl_nil ?_
  refine wq_then_norm (hK2 ?_)
  refine wc_seq ?_; intro K3 hK3
  refine wc_region ?_
  refine wl_y (y_assign rfl) rfl ?_
  refine wl_nil ?_
  refine wq_then_norm (hK3 ?_)
  refine wc_seq ?_; intro K4 hK4
  refine wc_seq ?_; intro K5 hK5
  refine wc_region ?_
  refine wl_y (y_assign rfl) rfl ?_
  refine wl_nil ?_
  refine wq_then_norm (hK5 ?_)
  refine wc_block ?_
  refine wc_loop (fun n' L wr => ∃ (i k c5 : Nat) (A5 : Option Addr) (l : List Nat), L = [(0, .slice A n c), (1, .slice B m d), (5, .slice A5 i c5), (6, .int .i64 (k : Int)), (7, .int .i64 (i : Int))] ∧ n' = n - i ∧ (i ≤ n ∧ Ext w wr ∧ Row wr w.heap.size 3 A5 i c5 (l.map (iv .i64)) ∧ Big.ok l ∧ k ≤ 1 ∧ Big.val ((Big.digs a).take i) + k * 32768 ^ i = Big.val l + Big.val ((Big.digs b).take i))) _ _ ⟨0, 0, 0, none, [], rfl, rfl, by omega, Ext.refl _, Row.empty _ _ _, (by intro x hx; cases hx), by omega, rfl⟩ ⟨rfl, rfl, rfl, (by first | rfl | exact congrArg some (int_val (by omega))), (by first | rfl | exact congrArg some (int_val (by omega))), trivial⟩ ?_
  rintro KL1 n' L wr ⟨i, k, c5, A5, l, rfl, rfl, hi, E, R, hok, hk, hv⟩ hL1
  refine wc_seq ?_; intro K6 hK6
  refine wc_seq ?_; intro K7 hK7
  refine wc_region ?_
  refine wl_y (y_move rfl) rfl ?_
  refine wl_y (y_move rfl) rfl ?_
  refine wl_y (y_len_slice rfl Try.underlying67) rfl ?_
  refine wl_y (y_lss rfl rfl) rfl ?_
  refine wl_nil ?_
  refine wq_then_norm (hK7 ?_)
  refine wc_dec rfl (fun hc1 => ?_) (fun hc1 => ?_)
  · skip
    refine wc_skip ?_
    refine wq_then_norm (hK6 ?_)
    refine wc_seq ?_; intro K8 hK8
    refine wc_block ?_
    refine wc_seq ?_; intro K9 hK9
    have hil : l.length = i := by have := R.len; simpa using this
    obtain ⟨g, off, x, rfl, hx, hcx⟩ := (HA.wk E).cell (i := i) (by omega)
    obtain ⟨y, hy⟩ : ∃ y, y = (Big.digs b).getD i 0 := ⟨_, rfl⟩
    have hxl := Big.ok_get (Big.ok_digs a) i; have hyl := Big.ok_get (Big.ok_digs b) i; rw [← hx.out] at hxl; rw [← hy] at hyl
    refine wc_draw (by kernel_rfl) 11 rfl ?_; intro wd6 ex hd6
    replace hcx := (ex.cell (cell_lt hcx)).trans hcx; have E6 := E.ext ex; have R6 := R.ext ex
    obtain ⟨z, hz⟩ : ∃ z : Int, z = (x : Int) - y - k := ⟨_, rfl⟩
    refine wm_y 0 rfl (by kernel_rfl) (y_move rfl) rfl ?_
    refine wm_y 1 rfl (by kernel_rfl) (y_move rfl) rfl ?_
    refine wm_y 2 rfl (by kernel_rfl) (y_ixs1 rfl rfl Try.underlying67 (by kernel_rfl) rfl (by omega)) rfl ?_
    refine wm_y 3 rfl (by kernel_rfl) (y_load1 rfl Try.underlying3 rfl (by assumption)) rfl ?_
    refine wm_y 4 rfl (by kernel_rfl) (y_move rfl) rfl ?_
    refine wm_y 5 rfl (by kernel_rfl) (y_move rfl) rfl ?_
    refine wm_y 8 rfl (by kernel_rfl) (y_move rfl) rfl ?_
    refine wm_one 6 (by kernel_rfl) ?_; refine om_call rfl Try.func111 rfl rfl rfl (digit_any B m d i _ _ (HB.wk E6) (by omega)) rfl ?_
    rintro e w7 ⟨rfl, ex⟩
    refine ⟨_, rfl, .inr ex, ?_⟩
    have E7 := E6.ext ex; have R7 := R6.ext ex; rw [← hy]
    refine wm_y 7 rfl (by kernel_rfl) (y_sub rfl rfl (i64_ok (by omega) (by omega))) rfl ?_
    refine wm_y 9 rfl (by kernel_rfl) (y_sub rfl rfl (show _ = z by rw [hz]; exact i64_ok (by omega) (by omega))) rfl ?_
    refine wm_y 10 rfl (by kernel_rfl) (y_assign rfl) rfl ?_
    refine wm_done (by kernel_rfl) ?_
    refine wq_nop ?_
    refine wq_then_norm (hK9 ?_)
    refine wc_seq ?_; intro K10 hK10
    refine wc_region ?_
    refine wl_y (y_assign rfl) rfl ?_
    refine wl_nil ?_
    refine wq_then_norm (hK10 ?_)
    refine wc_seq ?_; intro K11 hK11
    refine wc_seq ?_; intro K12 hK12
    refine wc_region ?_
    refine wl_y (y_move rfl) rfl ?_
    refine wl_y (y_lss rfl rfl) rfl ?_
    refine wl_nil ?_
    refine wq_then_norm (hK12 ?_)
    refine wc_dec rfl (fun hc2 => ?_) (fun hc2 => ?_)
    · skip
      obtain ⟨D, hD⟩ : ∃ D : Nat, (D : Int) = z + 32768 := ⟨(z + 32768).toNat, by omega⟩
      refine wc_seq ?_; intro K13 hK13
      refine wc_region ?_
      refine wl_y (y_move rfl) rfl ?_
      refine wl_y (y_add rfl rfl (i64_nat hD.symm (by omega))) rfl ?_
      refine wl_y (y_assign rfl) rfl ?_
      refine wl_nil ?_
      refine wq_then_norm (hK13 ?_)
      refine wc_region ?_
      refine wl_y (y_assign rfl) rfl ?_
      refine wl_nil ?_
      refine wq_then_norm (hK11 ?_)
      refine wc_region ?_
      refine wl_y (y_move rfl) rfl ?_
      refine wl_y (y_move rfl) rfl ?_
      refine wl_ef (ef_lit (z := .int .i64 0) Try.underlying67 (by kernel_rfl) rfl rfl rfl rfl rfl) rfl ?_
      rintro _ w8 ⟨g8, rfl, B8, hg8, ex⟩
      have R8 := R7.ext ex; have F8 := E7.ext ex; have hs8 := F8.size
      refine wl_ef (ef_app rfl rfl eltI R8 (At.blk (vs := [D].map (iv .i64)) (B8.congr rfl)) rfl (by intro u hu; exact iv_one u hu) (by omega) (by omega) hs8) rfl ?_
      rintro _ w9 ⟨A9, c9, rfl, R9, be, gr, hl⟩
      have F9 := F8.trans be; have R10 := R9.ivs
      refine wl_y (y_assign rfl) rfl ?_
      refine wl_nil ?_
      refine wq_blk_norm ?_
      refine wq_then_norm (hK8 ?_)
      refine wc_region ?_
      refine wl_y (y_move rfl) rfl ?_
      refine wl_y (y_add rfl rfl (i64_ok (by omega) (by omega))) rfl ?_
      refine wl_y (y_assign rfl) rfl ?_
      refine wl_nil ?_
      refine wq_then_norm ?_
      refine hL1 _ _ ⟨i + 1, 1, c9, A9, l ++ [D], rfl, rfl, by omega, F9, R10, Big.ok_append hok (Big.ok_one (by omega)), by omega, by rw [Nat.pow_succ, Big.val_take_succ, Big.val_take_succ, ← hx.out, ← hy]; exact Big.sub_step (by rw [hil]) hv (by omega)⟩ (by omega) ⟨rfl, rfl, rfl, (by first | rfl | exact congrArg some (int_val (by omega))), (by first | rfl | exact congrArg some (int_val (by omega))), trivial⟩
    · skip
      obtain ⟨D, hD⟩ : ∃ D : Nat, z = (D : Int) := Int.eq_ofNat_of_zero_le (show 0 ≤ z by omega)
      rw [hD]
      refine wc_skip ?_
      refine wq_then_norm (hK11 ?_)
      refine wc_region ?_
      refine wl_y (y_move rfl) rfl ?_
      refine wl_y (y_move rfl) rfl ?_
      refine wl_ef (ef_lit (z := .int .i64 0) Try.underlying67 (by kernel_rfl) rfl rfl rfl rfl rfl) rfl ?_
      rintro _ w8 ⟨g8, rfl, B8, hg8, ex⟩
      have R8 := R7.ext ex; have F8 := E7.ext ex; have hs8 := F8.size
      refine wl_ef (ef_app rfl rfl eltI R8 (At.blk (vs := [D].map (iv .i64)) (B8.congr rfl)) rfl (by intro u hu; exact iv_one u hu) (by omega) (by omega) hs8) rfl ?_
      rintro _ w9 ⟨A9, c9, rfl, R9, be, gr, hl⟩
      have F9 := F8.trans be; have R10 := R9.ivs
      refine wl_y (y_assign rfl) rfl ?_
      refine wl_nil ?_
      refine wq_blk_norm ?_
      refine wq_then_norm (hK8 ?_)
      refine wc_region ?_
      refine wl_y (y_move rfl) rfl ?_
      refine wl_y (y_add rfl rfl (i64_ok (by omega) (by omega))) rfl ?_
      refine wl_y (y_assign rfl) rfl ?_
      refine wl_nil ?_
      refine wq_then_norm ?_
      refine hL1 _ _ ⟨i + 1, 0, c9, A9, l ++ [D], rfl, rfl, by omega, F9, R10, Big.ok_append hok (Big.ok_one (by omega)), by omega, by rw [Nat.pow_succ, Big.val_take_succ, Big.val_take_succ, ← hx.out, ← hy]; exact Big.sub_step (by rw [hil]) hv (by omega)⟩ (by omega) ⟨rfl, rfl, rfl, (by first | rfl | exact congrArg some (int_val (by omega))), (by first | rfl | exact congrArg some (int_val (by omega))), trivial⟩
  · skip
    refine wc_exit ?_
    refine wq_then_exit ?_
    refine wq_then_exit ?_
    refine wq_blk_hit ?_
    refine wq_then_norm (hK4 ?_)
    refine wc_seq ?_; intro K14 hK14
    refine wc_region ?_
    refine wl_y (y_move rfl) rfl ?_
    have hil : l.length = i := by have := R.len; simpa using this
    obtain rfl : i = n := by omega
    refine wl_call Try.func112 rfl rfl rfl (trim_any A5 i c5 l _ (Ns.of_row R) hok R.cap (by omega)) rfl ?_
    rintro e w8 ⟨n8, rfl, H8, h8, ex⟩
    refine ⟨_, rfl, ?_⟩
    skip
    refine wl_y (y_assign rfl) rfl ?_
    refine wl_nil ?_
    refine wq_then_norm (hK14 ?_)
    refine wc_ret ?_
    refine hret rfl ?_
    exact ⟨A5, n8, c5, rfl, H8.congr (Big.sub_end hla hil hok hb hv), by have := R.cap; omega, E.ext ex⟩
theorem low_any (A : Option Addr) (n c v : Nat) (w : World) (HA : Bg w A n v) (hn : n ≤ 1000000) :
    Calls Try.prog 104 #[.slice A n c] w fun e w' => e = .returned (.int .u64 ((v % 18446744073709551616 : Nat) : Int)) ∧ Ext w w' := by
  refine vc_enter1 17 Try.func104 rfl rfl rfl rfl ?_
  intro Q hret
  refine wc_seq ?_; intro K1 hK1
  refine wc_region ?_
  refine wl_y (y_assign rfl) rfl ?_
  refine wl_nil ?_
  refine wq_then_norm (hK1 ?_)
  refine wc_seq ?_; intro K2 hK2
  refine wc_region ?_
  refine wl_y (y_assign rfl) rfl ?_
  refine wl_nil ?_
  refine wq_then_norm (hK2 ?_)
  refine wc_seq ?_; intro K3 hK3
  refine wc_seq ?_; intro K4 hK4
  refine wc_region ?_
  refine wl_y (y_assign rfl) rfl ?_
  refine wl_nil ?_
  refine wq_then_norm (hK4 ?_)
  refine wc_block ?_
  refine wc_loop (fun n' L wr => ∃ j x : Nat, L = [(0, .slice A n c), (3, .int .u64 (x : Int)), (4, .int .i64 ((j : Int) - 1))] ∧ n' = 1 + j ∧ (j ≤ 5 ∧ Ext w wr ∧ x = v / 32768 ^ j % 32768 ^ (5 - j) % 18446744073709551616)) _ _ ⟨5, 0, rfl, rfl, by omega, Ext.refl _, by rw [Nat.sub_self, Nat.pow_zero, Nat.mod_one]⟩ ⟨rfl, (by first | rfl | exact congrArg some (int_val (by omega))), (by first | rfl | exact congrArg some (int_val (by omega))), trivial⟩ ?_
  rintro KL1 n' L wr ⟨j, x, rfl, rfl, hj, E, hx⟩ hL1
  refine wc_seq ?_; intro K5 hK5
  refine wc_seq ?_; intro K6 hK6
  refine wc_region ?_
  refine wl_y (y_move rfl) rfl ?_
  refine wl_y (y_geq rfl rfl) rfl ?_
  refine wl_nil ?_
  refine wq_then_norm (hK6 ?_)
  refine wc_dec rfl (fun hc1 => ?_) (fun hc1 => ?_)
  · skip
    refine wc_skip ?_
    refine wq_then_norm (hK5 ?_)
    refine wc_seq ?_; intro K7 hK7
    refine wc_block ?_
    obtain ⟨j, rfl⟩ : ∃ i, j = i + 1 := ⟨j - 1, by omega⟩
    rw [show (((j + 1 : Nat) : Int) - 1) = (j : Int) by omega]
    have hd := Big.digit_eq v j
    obtain ⟨D, hD⟩ : ∃ D, D = v / 32768 ^ j % 32768 := ⟨_, rfl⟩
    rw [← hD] at hd
    refine wc_region ?_
    refine wl_y (y_move rfl) rfl ?_
    refine wl_y (y_mul rfl rfl (u64_mod (n := x * 32768) (by omega))) rfl ?_
    refine wl_y (y_move rfl) rfl ?_
    refine wl_y (y_move rfl) rfl ?_
    refine wl_call Try.func111 rfl rfl rfl (digit_any A n c j _ _ (HA.wk E) (by omega)) rfl ?_
    rintro e w2 ⟨rfl, ex⟩
    refine ⟨_, rfl, ?_⟩
    have E2 := E.ext ex; rw [hd]
    refine wl_y (y_conv rfl Try.underlying3 Try.underlying59 (IntWalk.u64_in _ ⟨by omega, by omega⟩)) rfl ?_
    refine wl_y (y_add rfl rfl (u64_mod (n := x * 32768 % 18446744073709551616 + D) (by omega))) rfl ?_
    refine wl_y (y_assign rfl) rfl ?_
    refine wl_nil ?_
    refine wq_blk_norm ?_
    refine wq_then_norm (hK7 ?_)
    refine wc_region ?_
    refine wl_y (y_move rfl) rfl ?_
    refine wl_y (y_sub rfl rfl (i64_ok (by omega) (by omega))) rfl ?_
    refine wl_y (y_assign rfl) rfl ?_
    refine wl_nil ?_
    refine wq_then_norm ?_
    refine hL1 _ _ ⟨j, (x * 32768 % 18446744073709551616 + D) % 18446744073709551616, rfl, rfl, by omega, E2, by rw [hx, hD]; exact Big.low_step v j (by omega)⟩ (by omega) ⟨rfl, (by first | rfl | exact congrArg some (int_val (by omega))), (by first | rfl | exact congrArg some (int_val (by omega))), trivial⟩
  · skip
    refine wc_exit ?_
    refine wq_then_exit ?_
    refine wq_then_exit ?_
    refine wq_blk_hit ?_
    refine wq_then_norm (hK3 ?_)
    refine wc_seq ?_; intro K8 hK8
    refine wc_region ?_
    refine wl_y (y_move rfl) rfl ?_
    refine wl_y (y_assign rfl) rfl ?_
    refine wl_nil ?_
    refine wq_then_norm (hK8 ?_)
    refine wc_ret ?_
    refine hret rfl ?_
    obtain rfl : j = 0 := by omega
    rw [Big.low_end] at hx
    exact ⟨by rw [hx], E⟩
theorem set_two (q i : Nat) (u : Nat) : ((List.replicate (q + 1) 0).set q u).set q i = (List.replicate (q + 1) 0).set q i := List.set_set _
theorem set_get (q u : Nat) : ((List.replicate (q + 1) 0).set q u).getD q 0 = u := by
  rw [List.getD_eq_getElem?_getD, List.getElem?_set_self (by simp)]; rfl
theorem pow_any (n : Nat) (w : World) (hn : n ≤ 1000000) :
    Calls Try.prog 89 #[.int .i64 (n : Int)] w fun e w' => ∃ A' n' c', e = .returned (.slice A' n' c') ∧ Bg w' A' n' (2 ^ n) ∧ n' = n / 15 + 1 ∧ n' ≤ c' ∧ Ext w w' := by
  refine vc_enter1 30 Try.func89 rfl rfl rfl rfl ?_
  intro Q hret
  refine wc_seq ?_; intro K1 hK1
  refine wc_region ?_
  refine wl_y (y_assign rfl) rfl ?_
  refine wl_nil ?_
  refine wq_then_norm (hK1 ?_)
  refine wc_seq ?_; intro K2 hK2
  refine wc_region ?_
  refine wl_y (y_move rfl) rfl ?_
  refine wl_y (y_quo rfl rfl (by omega) (show IntKind.i64.wrap ((n : Int).tdiv 15) = ((n / 15 : Nat) : Int) from i64_nat rfl (by omega))) rfl ?_
  refine wl_y (y_add rfl rfl (i64_nat (n := n / 15 + 1) (by omega) (by omega))) rfl ?_
  refine wl_ef (ef_make (n := n / 15 + 1) (z := .int .i64 0) (bytes := 8) rfl rfl Try.underlying67 (by kernel_rfl) rfl rfl rfl rfl (by omega) (by omega)) rfl ?_
  rintro _ w1 ⟨g, rfl, B, hg, ex⟩
  have E := ex; have B1 : Blk w1 g 3 (nums .i64 (List.replicate (n / 15 + 1) 0)) := B.congr (by simp [nums, iv])
  refine wl_y (y_assign rfl) rfl ?_
  refine wl_nil ?_
  refine wq_then_norm (hK2 ?_)
  refine wc_seq ?_; intro K3 hK3
  refine wc_region ?_
  refine wl_y (y_move rfl) rfl ?_
  refine wl_y (y_move rfl) rfl ?_
  refine wl_y (y_quo rfl rfl (by omega) (show IntKind.i64.wrap ((n : Int).tdiv 15) = ((n / 15 : Nat) : Int) from i64_nat rfl (by omega))) rfl ?_
  refine wl_y (y_ixs1 rfl rfl Try.underlying67 (by kernel_rfl) rfl (by omega)) rfl ?_
  refine wl_ef (ef_storeB rfl rfl rfl (by kernel_rfl) B1 (by rw [nums_size]; simp)) rfl ?_
  rintro _ w2 ⟨rfl, B2, cg⟩
  replace B2 := B2.congr (cs' := nums .i64 ((List.replicate (n / 15 + 1) 0).set (n / 15) (2 ^ 0))) (by rw [Nat.zero_add]; exact nums_set .i64 _ (n / 15) 1); have E2 := E.chg cg hg
  refine wl_nil ?_
  refine wq_then_norm (hK3 ?_)
  refine wc_seq ?_; intro K4 hK4
  refine wc_seq ?_; intro K5 hK5
  refine wc_region ?_
  refine wl_y (y_assign rfl) rfl ?_
  refine wl_nil ?_
  refine wq_then_norm (hK5 ?_)
  refine wc_block ?_
  refine wc_loop (fun n' L wr => ∃ i : Nat, L = [(0, .int .i64 (n : Int)), (3, .slice (some ⟨g, 0, none⟩) (n / 15 + 1) (n / 15 + 1)), (4, .int .i64 (i : Int))] ∧ n' = n % 15 - i ∧ (i ≤ n % 15 ∧ Ext w wr ∧ Blk wr g 3 (nums .i64 ((List.replicate (n / 15 + 1) 0).set (n / 15) (2 ^ i))))) _ _ ⟨0, rfl, rfl, by omega, E2, B2⟩ ⟨(by first | rfl | exact congrArg some (int_val (by omega))), rfl, (by first | rfl | exact congrArg some (int_val (by omega))), trivial⟩ ?_
  rintro KL1 n' L wr ⟨i, rfl, rfl, hi, F, Bi⟩ hL1
  refine wc_seq ?_; intro K6 hK6
  refine wc_seq ?_; intro K7 hK7
  refine wc_region ?_
  refine wl_y (y_move rfl) rfl ?_
  refine wl_y (y_move rfl) rfl ?_
  refine wl_y (y_rem rfl rfl (by omega) (show ((n : Int).tmod 15 = ((n % 15 : Nat) : Int)) from rfl)) rfl ?_
  refine wl_y (y_lss rfl rfl) rfl ?_
  refine wl_nil ?_
  refine wq_then_norm (hK7 ?_)
  refine wc_dec rfl (fun hc1 => ?_) (fun hc1 => ?_)
  · skip
    refine wc_skip ?_
    refine wq_then_norm (hK6 ?_)
    refine wc_seq ?_; intro K8 hK8
    refine wc_block ?_
    have hp : 2 ^ i ≤ 2 ^ 14 := Nat.pow_le_pow_right (by omega) (by omega)
    refine wc_region ?_
    refine wl_y (y_move rfl) rfl ?_
    refine wl_y (y_move rfl) rfl ?_
    refine wl_y (y_quo rfl rfl (by omega) (show IntKind.i64.wrap ((n : Int).tdiv 15) = ((n / 15 : Nat) : Int) from i64_nat rfl (by omega))) rfl ?_
    refine wl_y (y_move rfl) rfl ?_
    refine wl_y (y_move rfl) rfl ?_
    refine wl_y (y_quo rfl rfl (by omega) (show IntKind.i64.wrap ((n : Int).tdiv 15) = ((n / 15 : Nat) : Int) from i64_nat rfl (by omega))) rfl ?_
    refine wl_y (y_ixs1 rfl rfl Try.underlying67 (by kernel_rfl) rfl (by omega)) rfl ?_
    refine wl_y (y_load1 rfl Try.underlying3 rfl (Bi.get (by rw [Nat.zero_add, nums_get _ _ _ (by simp), set_get]))) rfl ?_
    refine wl_y (y_mul rfl rfl (i64_nat (n := 2 ^ (i + 1)) (by rw [Nat.pow_succ]; omega) (by rw [Nat.pow_succ]; omega))) rfl ?_
    refine wl_y (y_ixs1 rfl rfl Try.underlying67 (by kernel_rfl) rfl (by omega)) rfl ?_
    refine wl_ef (ef_storeB rfl rfl rfl (by kernel_rfl) Bi (by rw [nums_size]; simp)) rfl ?_
    rintro _ w6 ⟨rfl, B6, cg⟩
    rw [Nat.zero_add, nums_set, set_two] at B6; have F6 := F.chg cg hg
    refine wl_nil ?_
    refine wq_blk_norm ?_
    refine wq_then_norm (hK8 ?_)
    refine wc_region ?_
    refine wl_y (y_move rfl) rfl ?_
    refine wl_y (y_add rfl rfl (i64_ok (by omega) (by omega))) rfl ?_
    refine wl_y (y_assign rfl) rfl ?_
    refine wl_nil ?_
    refine wq_then_norm ?_
    refine hL1 _ _ ⟨i + 1, rfl, rfl, by omega, F6, B6⟩ (by omega) ⟨(by first | rfl | exact congrArg some (int_val (by omega))), rfl, (by first | rfl | exact congrArg some (int_val (by omega))), trivial⟩
  · skip
    refine wc_exit ?_
    refine wq_then_exit ?_
    refine wq_then_exit ?_
    refine wq_blk_hit ?_
    refine wq_then_norm (hK4 ?_)
    refine wc_seq ?_; intro K9 hK9
    refine wc_region ?_
    refine wl_y (y_move rfl) rfl ?_
    refine wl_y (y_assign rfl) rfl ?_
    refine wl_nil ?_
    refine wq_then_norm (hK9 ?_)
    refine wc_ret ?_
    refine hret rfl ?_
    obtain rfl : i = n % 15 := by omega
    exact ⟨_, _, _, rfl, by unfold Bg; rw [Big.pow_two]; exact Ns.blk Bi (by simp), rfl, Nat.le_refl _, F⟩
theorem mul_any (A B : Option Addr) (n c m d a b : Nat) (w : World) (HA : Bg w A n a) (HB : Bg w B m b) (hn : n ≤ 1000000) (hm : m ≤ 1000000) :
    Calls Try.prog 53 #[.slice A n c, .slice B m d] w fun e w' => ∃ A' n' c', e = .returned (.slice A' n' c') ∧ Bg w' A' n' (a * b) ∧ n' ≤ n + m + 1 ∧ n' ≤ c' ∧ Ext w w' := by
  have hla := HA.len; have hlb := HB.len
  refine vc_enter1 73 Try.func53 rfl rfl rfl rfl ?_
  intro Q hret
  refine wc_seq ?_; intro K1 hK1
  refine wc_region ?_
  refine wl_y (y_assign rfl) rfl ?_
  refine wl_nil ?_
  refine wq_then_norm (hK1 ?_)
  refine wc_seq ?_; intro K2 hK2
  refine wc_region ?_
  refine wl_y (y_move rfl) rfl ?_
  refine wl_y (y_len_slice rfl Try.underlying67) rfl ?_
  refine wl_y (y_move rfl) rfl ?_
  refine wl_y (y_len_slice rfl Try.underlying67) rfl ?_
  refine wl_y (y_add rfl rfl (i64_ok (by omega) (by omega))) rfl ?_
  refine wl_y (y_add rfl rfl (i64_nat (n := n + m + 1) (by omega) (by omega))) rfl ?_
  refine wl_ef (ef_make (n := n + m + 1) (z := .int .i64 0) (bytes := 8) rfl rfl Try.underlying67 (by kernel_rfl) rfl rfl rfl rfl (by omega) (by omega)) rfl ?_
  rintro _ w1 ⟨g, rfl, B0, hg, ex⟩
  have E0 := ex; have B1 : Blk w1 g 3 (nums .i64 (List.replicate (n + m + 1) 0)) := B0.congr (by simp [nums, iv])
  refine wl_y (y_assign rfl) rfl ?_
  refine wl_nil ?_
  refine wq_then_norm (hK2 ?_)
  refine wc_seq ?_; intro K3 hK3
  refine wc_seq ?_; intro K4 hK4
  refine wc_region ?_
  refine wl_y (y_assign rfl) rfl ?_
  refine wl_nil ?_
  refine wq_then_norm (hK4 ?_)
  refine wc_block ?_
  refine wc_loop (fun n' L wr => ∃ (i : Nat) (l : List Nat), L = [(0, .slice A n c), (1, .slice B m d), (5, .slice (some ⟨g, 0, none⟩) (n + m + 1) (n + m + 1)), (6, .int .i64 (i : Int))] ∧ n' = n - i ∧ (i ≤ n ∧ Ext w wr ∧ Blk wr g 3 (nums .i64 l) ∧ l.length = n + m + 1 ∧ Big.ok l ∧ Big.val l = Big.val ((Big.digs a).take i) * b ∧ ∀ j, i + m ≤ j → l.getD j 0 = 0)) _ _ ⟨0, List.replicate (n + m + 1) 0, rfl, rfl, by omega, E0, B1, by simp, Big.ok_zeros _, by rw [Big.val_zeros, List.take_zero, Big.val, Nat.zero_mul], fun j _ => Big.zeros_get _ _⟩ ⟨rfl, rfl, rfl, (by first | rfl | exact congrArg some (int_val (by omega))), trivial⟩ ?_
  rintro KL1 n' L wr ⟨i, l, rfl, rfl, hi, E, Bl, hl, hok, hv, hz⟩ hL1
  refine wc_seq ?_; intro K5 hK5
  refine wc_seq ?_; intro K6 hK6
  refine wc_region ?_
  refine wl_y (y_move rfl) rfl ?_
  refine wl_y (y_move rfl) rfl ?_
  refine wl_y (y_len_slice rfl Try.underlying67) rfl ?_
  refine wl_y (y_lss rfl rfl) rfl ?_
  refine wl_nil ?_
  refine wq_then_norm (hK6 ?_)
  refine wc_dec rfl (fun hc1 => ?_) (fun hc1 => ?_)
  · skip
    refine wc_skip ?_
    refine wq_then_norm (hK5 ?_)
    refine wc_seq ?_; intro K7 hK7
    refine wc_block ?_
    refine wc_seq ?_; intro K8 hK8
    refine wc_region ?_
    refine wl_y (y_assign rfl) rfl ?_
    refine wl_nil ?_
    refine wq_then_norm (hK8 ?_)
    refine wc_seq ?_; intro K9 hK9
    refine wc_seq ?_; intro K10 hK10
    refine wc_region ?_
    refine wl_y (y_assign rfl) rfl ?_
    refine wl_nil ?_
    refine wq_then_norm (hK10 ?_)
    refine wc_block ?_
    have hin : i < n := by omega
    obtain ⟨x, hx⟩ : ∃ x, x = (Big.digs a).getD i 0 := ⟨_, rfl⟩
    have hxl := Big.ok_get (Big.ok_digs a) i; rw [← hx] at hxl
    refine wc_loop (fun n' L wq => ∃ (k cr : Nat) (q : List Nat), L = [(0, .slice A n c), (1, .slice B m d), (5, .slice (some ⟨g, 0, none⟩) (n + m + 1) (n + m + 1)), (6, .int .i64 (i : Int)), (7, .int .i64 (cr : Int)), (8, .int .i64 (k : Int))] ∧ n' = m - k ∧ (k ≤ m ∧ cr < 32768 ∧ Ext w wq ∧ Blk wq g 3 (nums .i64 q) ∧ q.length = n + m + 1 ∧ Big.ok q ∧ Big.val q + cr * (32768 ^ i * 32768 ^ k) = Big.val l + x * (Big.val ((Big.digs b).take k) * 32768 ^ i) ∧ ∀ j, i + m ≤ j → q.getD j 0 = 0)) _ _ ⟨0, 0, l, rfl, rfl, by omega, by omega, E, Bl, hl, hok, by rw [Nat.zero_mul, List.take_zero, Big.val, Nat.zero_mul, Nat.mul_zero], hz⟩ ⟨rfl, rfl, rfl, (by first | rfl | exact congrArg some (int_val (by omega))), (by first | rfl | exact congrArg some (int_val (by omega))), (by first | rfl | exact congrArg some (int_val (by omega))), trivial⟩ ?_
    rintro KL2 n' L wq ⟨k, cr, q, rfl, rfl, hk, hcr, F, Bq, hq, hoq, hvq, hzq⟩ hL2
    refine wc_seq ?_; intro K11 hK11
    refine wc_seq ?_; intro K12 hK12
    refine wc_region ?_
    refine wl_y (y_move rfl) rfl ?_
    refine wl_y (y_move rfl) rfl ?_
    refine wl_y (y_len_slice rfl Try.underlying67) rfl ?_
    refine wl_y (y_lss rfl rfl) rfl ?_
    refine wl_nil ?_
    refine wq_then_norm (hK12 ?_)
    refine wc_dec rfl (fun hc2 => ?_) (fun hc2 => ?_)
    · skip
      refine wc_skip ?_
      refine wq_then_norm (hK11 ?_)
      refine wc_seq ?_; intro K13 hK13
      refine wc_block ?_
      refine wc_seq ?_; intro K14 hK14
      have hkm : k < m := by omega
      obtain ⟨b1, off1, x', rfl, hx', hcx⟩ := (HA.wk F).cell (i := i) (by omega)
      obtain ⟨b2, off2, y, rfl, hy, hcy⟩ := (HB.wk F).cell (i := k) (by omega)
      obtain rfl : x' = x := by rw [hx]; exact hx'.out
      have hyl := Big.ok_get (Big.ok_digs b) k; rw [← hy.out] at hyl
      obtain ⟨o, ho⟩ : ∃ o, o = q.getD (i + k) 0 := ⟨_, rfl⟩
      have hol := Big.ok_get hoq (i + k); rw [← ho] at hol
      have hxy : x' * y ≤ 32767 * 32767 := Nat.mul_le_mul (by omega) (by omega)
      obtain ⟨D, hD⟩ : ∃ D, D = o + x' * y + cr := ⟨_, rfl⟩
      refine wc_draw (by kernel_rfl) 19 rfl ?_; intro wd9 ex hd9
      replace hcx := (ex.cell (cell_lt hcx)).trans hcx; replace hcy := (ex.cell (cell_lt hcy)).trans hcy; have F9 := F.ext ex; have B9 := Bq.ext ex
      refine wm_y 0 rfl (by kernel_rfl) (y_move rfl) rfl ?_
      refine wm_y 1 rfl (by kernel_rfl) (y_move rfl) rfl ?_
      refine wm_y 2 rfl (by kernel_rfl) (y_move rfl) rfl ?_
      refine wm_y 3 rfl (by kernel_rfl) (y_add rfl rfl (i64_ok (by omega) (by omega))) rfl ?_
      refine wm_y 4 rfl (by kernel_rfl) (y_ixs1 rfl rfl Try.underlying67 (by kernel_rfl) (j := i + k) (by omega) (by omega)) rfl ?_
      refine wm_y 5 rfl (by kernel_rfl) (y_load1 rfl Try.underlying3 rfl (B9.get (v := .int .i64 (o : Int)) (by rw [Nat.zero_add, nums_get _ _ _ (by omega), ← ho]))) rfl ?_
      refine wm_y 6 rfl (by kernel_rfl) (y_move rfl) rfl ?_
      refine wm_y 7 rfl (by kernel_rfl) (y_move rfl) rfl ?_
      refine wm_y 8 rfl (by kernel_rfl) (y_ixs1 rfl rfl Try.underlying67 (by kernel_rfl) rfl (by omega)) rfl ?_
      refine wm_y 9 rfl (by kernel_rfl) (y_load1 rfl Try.underlying3 rfl hcx) rfl ?_
      refine wm_y 10 rfl (by kernel_rfl) (y_move rfl) rfl ?_
      refine wm_y 11 rfl (by kernel_rfl) (y_move rfl) rfl ?_
      refine wm_y 12 rfl (by kernel_rfl) (y_ixs1 rfl rfl Try.underlying67 (by kernel_rfl) rfl (by omega)) rfl ?_
      refine wm_y 13 rfl (by kernel_rfl) (y_load1 rfl Try.underlying3 rfl hcy) rfl ?_
      refine wm_y 14 rfl (by kernel_rfl) (y_mul rfl rfl (i64_nat (n := x' * y) (Int.natCast_mul x' y).symm (by omega))) rfl ?_
      refine wm_y 15 rfl (by kernel_rfl) (y_add rfl rfl (i64_nat (n := o + x' * y) (by omega) (by omega))) rfl ?_
      refine wm_y 16 rfl (by kernel_rfl) (y_move rfl) rfl ?_
      refine wm_y 17 rfl (by kernel_rfl) (y_add rfl rfl (i64_nat (n := D) (by omega) (by omega))) rfl ?_
      refine wm_y 18 rfl (by kernel_rfl) (y_assign rfl) rfl ?_
      refine wm_done (by kernel_rfl) ?_
      refine wq_nop ?_
      refine wq_then_norm (hK14 ?_)
      refine wc_seq ?_; intro K15 hK15
      refine wc_region ?_
      refine wl_y (y_move rfl) rfl ?_
      refine wl_y (y_move rfl) rfl ?_
      refine wl_y (y_move rfl) rfl ?_
      refine wl_y (y_add rfl rfl (i64_ok (by omega) (by omega))) rfl ?_
      refine wl_y (y_move rfl) rfl ?_
      refine wl_y (y_rem rfl rfl (by omega) (show ((D : Int).tmod 32768 = ((D % 32768 : Nat) : Int)) from rfl)) rfl ?_
      refine wl_y (y_ixs1 rfl rfl Try.underlying67 (by kernel_rfl) (j := i + k) (by omega) (by omega)) rfl ?_
      refine wl_ef (ef_storeB rfl rfl rfl (by kernel_rfl) B9 (by rw [nums_size]; omega)) rfl ?_
      rintro _ w10 ⟨rfl, B10, cg⟩
      rw [Nat.zero_add, nums_set] at B10; have F10 := F9.chg cg hg
      refine wl_nil ?_
      refine wq_then_norm (hK15 ?_)
      refine wc_region ?_
      refine wl_y (y_move rfl) rfl ?_
      refine wl_y (y_quo rfl rfl (by omega) (show IntKind.i64.wrap ((D : Int).tdiv 32768) = ((D / 32768 : Nat) : Int) from i64_nat rfl (by omega))) rfl ?_
      refine wl_y (y_assign rfl) rfl ?_
      refine wl_nil ?_
      refine wq_blk_norm ?_
      refine wq_then_norm (hK13 ?_)
      refine wc_region ?_
      refine wl_y (y_move rfl) rfl ?_
      refine wl_y (y_add rfl rfl (i64_ok (by omega) (by omega))) rfl ?_
      refine wl_y (y_assign rfl) rfl ?_
      refine wl_nil ?_
      refine wq_then_norm ?_
      refine hL2 _ _ ⟨k + 1, D / 32768, q.set (i + k) (D % 32768), rfl, rfl, by omega, by omega, F10, B10, by rw [List.length_set]; exact hq, Big.ok_set hoq _ _ (by omega), by
        have hs := Big.val_set q (i + k) (D % 32768) (by omega)
        rw [← ho, Nat.pow_add] at hs
        have e1 : 32768 ^ i * 32768 ^ (k + 1) = 32768 ^ i * 32768 ^ k * 32768 := by rw [Nat.pow_succ, Nat.mul_assoc]
        have e2 : ∀ V : Nat, (V + y * 32768 ^ k) * 32768 ^ i = V * 32768 ^ i + y * (32768 ^ i * 32768 ^ k) := fun V => by rw [Nat.add_mul, Nat.mul_assoc, Nat.mul_comm (32768 ^ k)]
        rw [e1, Big.val_take_succ, ← hy.out, e2]
        exact Big.mul_step hD hvq hs, fun j hj => by rw [Big.getD_set_ne _ _ _ _ (by omega)]; exact hzq j hj⟩ (by omega) ⟨rfl, rfl, rfl, (by first | rfl | exact congrArg some (int_val (by omega))), (by first | rfl | exact congrArg some (int_val (by omega))), (by first | rfl | exact congrArg some (int_val (by omega))), trivial⟩
    · skip
      refine wc_exit ?_
      refine wq_then_exit ?_
      refine wq_then_exit ?_
      refine wq_blk_hit ?_
      refine wq_then_norm (hK9 ?_)
      obtain rfl : k = m := by omega
      have h0 := hzq (i + k) (Nat.le_refl _)
      refine wc_region ?_
      refine wl_y (y_move rfl) rfl ?_
      refine wl_y (y_move rfl) rfl ?_
      refine wl_y (y_move rfl) rfl ?_
      refine wl_y (y_len_slice rfl Try.underlying67) rfl ?_
      refine wl_y (y_add rfl rfl (i64_nat (n := i + k) (by omega) (by omega))) rfl ?_
      refine wl_y (y_move rfl) rfl ?_
      refine wl_y (y_move rfl) rfl ?_
      refine wl_y (y_move rfl) rfl ?_
      refine wl_y (y_len_slice rfl Try.underlying67) rfl ?_
      refine wl_y (y_add rfl rfl (i64_nat (n := i + k) (by omega) (by omega))) rfl ?_
      refine wl_y (y_ixs1 rfl rfl Try.underlying67 (by kernel_rfl) rfl (by omega)) rfl ?_
      refine wl_y (y_load1 rfl Try.underlying3 rfl (Bq.get (v := .int .i64 ((0 : Nat) : Int)) (by rw [Nat.zero_add, nums_get _ _ _ (by omega), h0]))) rfl ?_
      refine wl_y (y_move rfl) rfl ?_
      refine wl_y (y_add rfl rfl (i64_nat (n := cr) (by omega) (by omega))) rfl ?_
      refine wl_y (y_ixs1 rfl rfl Try.underlying67 (by kernel_rfl) rfl (by omega)) rfl ?_
      refine wl_ef (ef_storeB rfl rfl rfl (by kernel_rfl) Bq (by rw [nums_size]; omega)) rfl ?_
      rintro _ w12 ⟨rfl, B12, cg⟩
      rw [Nat.zero_add, nums_set] at B12; have F12 := F.chg cg hg
      refine wl_nil ?_
      refine wq_blk_norm ?_
      refine wq_then_norm (hK7 ?_)
      refine wc_region ?_
      refine wl_y (y_move rfl) rfl ?_
      refine wl_y (y_add rfl rfl (i64_ok (by omega) (by omega))) rfl ?_
      refine wl_y (y_assign rfl) rfl ?_
      refine wl_nil ?_
      refine wq_then_norm ?_
      refine hL1 _ _ ⟨i + 1, q.set (i + k) cr, rfl, rfl, by omega, F12, B12, by rw [List.length_set]; exact hq, Big.ok_set hoq _ _ hcr, by
        have hs := Big.val_set q (i + k) cr (by omega)
        rw [h0, Nat.zero_mul, Nat.add_zero, Nat.pow_add] at hs
        rw [hs, hvq, hv, Big.val_take_succ, ← hx, show (Big.digs b).take k = Big.digs b from List.take_of_length_le (by omega), Big.val_digs, Nat.add_mul, Nat.mul_assoc x, Nat.mul_comm b], fun j hj => by rw [Big.getD_set_ne _ _ _ _ (by omega)]; exact hzq j (by omega)⟩ (by omega) ⟨rfl, rfl, rfl, (by first | rfl | exact congrArg some (int_val (by omega))), trivial⟩
  · skip
    refine wc_exit ?_
    refine wq_then_exit ?_
    refine wq_then_exit ?_
    refine wq_blk_hit ?_
    refine wq_then_norm (hK3 ?_)
    refine wc_seq ?_; intro K16 hK16
    refine wc_region ?_
    refine wl_y (y_move rfl) rfl ?_
    refine wl_call Try.func112 rfl rfl rfl (trim_any (some ⟨g, 0, none⟩) (n + m + 1) (n + m + 1) l _ (Ns.blk Bl hl) hok (Nat.le_refl _) (by omega)) rfl ?_
    rintro e w13 ⟨n8, rfl, H8, h8, ex⟩
    refine ⟨_, rfl, ?_⟩
    skip
    refine wl_y (y_assign rfl) rfl ?_
    refine wl_nil ?_
    refine wq_then_norm (hK16 ?_)
    refine wc_ret ?_
    refine hret rfl ?_
    exact ⟨_, n8, _, rfl, H8.congr (by rw [hv, List.take_of_length_le (by omega), Big.val_digs]), h8, h8, E.ext ex⟩
end
end Go.Proofs.Ytopimmomkapdoaa
