/- The reference's whole numbers (digits of base 2^15): trim, Num, digit, Less: what each hands back. Lengths up to 10^6. -/
import Derived.Test.YtbcbihdfpkeacaaVc6
import Derived.Test.YtbcbihdfpkeacaaSl
import Derived.Test.YtbcbihdfpkeacaaNum
import Derived.Test.YtbcbihdfpkeacaaBigS
namespace Go.Proofs.Ytbcbihdfpkeacaa
open Go.RowKit
attribute [local irreducible] Y Ef WL WC WK WQ WM OpM
theorem eltI : Elt Try.prog 30 3 8 := Elt.of Try.underlying30 (z := .int .i64 0) (by kernel_rfl) rfl
/-- A number's digits at an address. -/
def Bg (w : World) (A : Option Addr) (n v : Nat) : Prop := Ns .i64 w A n (Big.digs v)
section
variable {w w' : World} {A : Option Addr} {n v : Nat} {xs : List Nat} {k : IntKind}
theorem Ns.ext (h : Ns k w A n xs) (E : Ext w w') : Ns k w' A n xs := h.below E
theorem Ns.wk {w0 : World} (h : Ns k w0 A n xs) (E : Ext w0 w) : Ns k w A n xs := h.below E
theorem Bg.ext (h : Bg w A n v) (E : Ext w w') : Bg w' A n v := Ns.ext h E
theorem Bg.wk {w0 : World} (h : Bg w0 A n v) (E : Ext w0 w) : Bg w A n v := Ns.ext h E
theorem Bg.len (h : Bg w A n v) : (Big.digs v).length = n := h.1
theorem Bg.congr {u : Nat} (h : Bg w A n v) (e : v = u) : Bg w A n u := e ▸ h
theorem Ns.take (h : Ns k w A n xs) {j : Nat} (hj : j ≤ n) : Ns k w A j (xs.take j) := by
  refine ⟨by have := h.1; simp; omega, ?_⟩
  rcases h.2 with h0 | ⟨b, off, hA, hc⟩
  · left; have : xs = [] := by simpa using h0
    rw [this]; simp
  · refine .inr ⟨b, off, hA, fun i u hu => hc i u ?_⟩
    rw [List.map_take, List.getElem?_take] at hu
    split at hu
    · exact hu
    · cases hu
theorem Ns.of_row {base c : Nat} {e : TypeId} (h : Row w base e A n c (xs.map (iv k))) : Ns k w A n xs := ⟨by have := h.len; simpa using this, Row.at h⟩
theorem Ns.nil (w : World) (A : Option Addr) : Ns k w A 0 [] := ⟨rfl, .inl rfl⟩
theorem Row.ivs {base c : Nat} {e : TypeId} {ys : List Nat} (h : Row w base e A n c (xs.map (iv k) ++ ys.map (iv k))) : Row w base e A n c ((xs ++ ys).map (iv k)) := by rw [List.map_append]; exact h
theorem Ns.blk {g : Nat} {t : TypeId} (h : Blk w g t (nums k xs)) (hn : xs.length = n) : Ns k w (some ⟨g, 0, none⟩) n xs :=
  ⟨hn, At.blk (vs := xs.map (iv k)) h⟩
theorem Ns.cell {i : Nat} (h : Ns k w A n xs) (hi : i < n) : ∃ b off x, A = some ⟨b, off, none⟩ ∧ Hid (x = xs.getD i 0) ∧ w.cell? ⟨b, off + i, none⟩ = some (.int k (x : Int)) := by
  obtain ⟨b, off, x, e, hx, _, hc⟩ := h.get hi
  exact ⟨b, off, x, e, hx, hc⟩
end
theorem i64_nat {a : Int} {n : Nat} (h : a = (n : Int)) (hn : n ≤ 9223372036854775807) : IntKind.i64.wrap a = (n : Int) := by
  subst h; exact i64_ok (by omega) (by omega)
theorem trim_any (A : Option Addr) (n c : Nat) (xs : List Nat) (w : World) (H : Ns .i64 w A n xs) (hok : Big.ok xs) (hc : n ≤ c) (hn : n ≤ 10000000) :
    Calls Try.prog 108 #[.slice A n c] w fun e w' => ∃ n', e = .returned (.slice A n' c) ∧ Bg w' A n' (Big.val xs) ∧ n' ≤ n ∧ Ext w w' := by
  have hl := H.1
  refine vc_enter1 21 Try.func108 rfl rfl rfl rfl ?_
  intro Q hret
  refine wc_seq ?_; intro K1 hK1
  refine wc_region ?_
  refine wl_y (y_assign rfl) rfl ?_
  refine wl_nil ?_
  refine wq_then_norm (hK1 ?_)
  refine wc_seq ?_; intro K2 hK2
  refine wc_block ?_
  refine wc_loop (fun n' L wr => ∃ k : Nat, L = [(0, .slice A k c)] ∧ n' = 1 + k ∧ (k ≤ n ∧ Ext w wr ∧ Big.trimmed xs k)) _ _ ⟨n, rfl, rfl, Nat.le_refl _, Ext.refl _, by rw [← hl]; exact Big.trimmed_all xs⟩ ⟨rfl, trivial⟩ ?_
  rintro KL1 n' L wr ⟨k, rfl, rfl, hk, E, hT⟩ hL1
  refine wc_seq ?_; intro K3 hK3
  refine wc_seq ?_; intro K4 hK4
  refine wc_region ?_
  refine wl_y (y_move rfl) rfl ?_
  refine wl_y (y_len_slice rfl Try.underlying30) rfl ?_
  refine wl_yask (y_gtr rfl rfl) rfl (fun h1 => ?_) (fun h1 => ?_)
  · skip
    refine wl_y (y_move rfl) rfl ?_
    obtain ⟨b, off, x, rfl, hx, hcx⟩ := (H.wk E).cell (i := k - 1) (by omega)
    refine wl_gy 6 rfl rfl (y_move rfl) rfl ?_
    refine wl_gy 6 rfl rfl (y_move rfl) rfl ?_
    refine wl_gy 6 rfl rfl (y_len_slice rfl Try.underlying30) rfl ?_
    refine wl_gy 6 rfl rfl (y_sub rfl rfl (i64_ok (by omega) (by omega))) rfl ?_
    refine wl_gy 6 rfl rfl (y_ixs1 rfl rfl Try.underlying30 (by kernel_rfl) (j := k - 1) (by omega) (by omega)) rfl ?_
    refine wl_gy 6 rfl rfl (y_load1 rfl Try.underlying3 rfl (by assumption)) rfl ?_
    refine wl_gy 6 rfl rfl (y_eql rfl rfl) rfl ?_
    refine wl_y (y_pickt rfl rfl) rfl ?_
    refine wl_nil ?_
    refine wq_then_norm (hK4 ?_)
    refine wc_dec rfl (fun hc1 => ?_) (fun hc1 => ?_)
    · skip
      refine wc_skip ?_
      refine wq_then_norm (hK3 ?_)
      refine wc_block ?_
      refine wc_region ?_
      refine wl_y (y_move rfl) rfl ?_
      refine wl_y (y_move rfl) rfl ?_
      refine wl_y (y_len_slice rfl Try.underlying30) rfl ?_
      refine wl_y (y_sub rfl rfl (i64_ok (by omega) (by omega))) rfl ?_
      refine wl_y (y_cuth (s := 1) rfl rfl Try.underlying30 (by kernel_rfl) (j := k - 1) (by omega) (by omega)) rfl ?_
      refine wl_y (y_assign rfl) rfl ?_
      refine wl_nil ?_
      refine wq_blk_norm ?_
      refine wq_then_norm ?_
      refine hL1 _ _ ⟨k - 1, rfl, rfl, by omega, E, by obtain ⟨k, rfl⟩ : ∃ j, k = j + 1 := ⟨k - 1, by omega⟩; exact Big.trimmed_step hT (by show xs.getD k 0 = 0; rw [Nat.add_sub_cancel] at hx; rw [← hx.out]; omega)⟩ (by omega) ⟨rfl, trivial⟩
    · skip
      refine wc_exit ?_
      refine wq_then_exit ?_
      refine wq_then_exit ?_
      refine wq_blk_hit ?_
      refine wq_then_norm (hK2 ?_)
      refine wc_seq ?_; intro K5 hK5
      refine wc_region ?_
      refine wl_y (y_move rfl) rfl ?_
      refine wl_y (y_assign rfl) rfl ?_
      refine wl_nil ?_
      refine wq_then_norm (hK5 ?_)
      refine wc_ret ?_
      refine hret rfl ?_
      exact ⟨k, rfl, by have := (H.wk E).take (j := k) hk; rw [Big.trimmed_end hT hok (.inr (by rw [← hx.out]; omega))] at this; exact this, hk, E⟩
  · skip
    refine wl_y (y_move rfl) rfl ?_
    refine wl_gno 6 rfl rfl rfl rfl ?_
    refine wl_gno 6 rfl rfl rfl rfl ?_
    refine wl_gno 6 rfl rfl rfl rfl ?_
    refine wl_gno 6 rfl rfl rfl rfl ?_
    refine wl_gno 6 rfl rfl rfl rfl ?_
    refine wl_gno 6 rfl rfl rfl rfl ?_
    refine wl_gno 6 rfl rfl rfl rfl ?_
    refine wl_y (y_pickf rfl rfl) rfl ?_
    refine wl_nil ?_
    refine wq_then_norm (hK4 ?_)
    refine wc_false rfl rfl ?_
    refine wc_exit ?_
    refine wq_then_exit ?_
    refine wq_then_exit ?_
    refine wq_blk_hit ?_
    refine wq_then_norm (hK2 ?_)
    refine wc_seq ?_; intro K6 hK6
    refine wc_region ?_
    refine wl_y (y_move rfl) rfl ?_
    refine wl_y (y_assign rfl) rfl ?_
    refine wl_nil ?_
    refine wq_then_norm (hK6 ?_)
    refine wc_ret ?_
    refine hret rfl ?_
    exact ⟨k, rfl, by have := (H.wk E).take (j := k) hk; rw [Big.trimmed_end hT hok (.inl (by omega))] at this; exact this, hk, E⟩
theorem u64_dig (n : Nat) : ((n % 32768 : Nat) : Int) = ((n % 32768 : Nat) : Int) := rfl
theorem num_any (n : Nat) (w : World) (hn : n < 18446744073709551616) :
    Calls Try.prog 24 #[.int .u64 (n : Int)] w fun e w' => ∃ A' n' c', e = .returned (.slice A' n' c') ∧ Bg w' A' n' n ∧ n' ≤ c' ∧ Ext w w' := by
  have hlen := Big.digs_length_le n 5 (by omega)
  refine vc_enter1 15 Try.func24 rfl rfl rfl rfl ?_
  intro Q hret
  refine wc_seq ?_; intro K1 hK1
  refine wc_region ?_
  refine wl_y (y_assign rfl) rfl ?_
  refine wl_nil ?_
  refine wq_then_norm (hK1 ?_)
  refine wc_seq ?_; intro K2 hK2
  refine wc_region ?_
  refine wl_y (y_assign rfl) rfl ?_
  refine wl_nil ?_
  refine wq_then_norm (hK2 ?_)
  refine wc_seq ?_; intro K3 hK3
  refine wc_block ?_
  refine wc_loop (fun n' L wr => ∃ (m j c5 : Nat) (A5 : Option Addr) (l : List Nat), L = [(0, .int .u64 (m : Int)), (3, .slice A5 j c5)] ∧ n' = 1 + m ∧ (Ext w wr ∧ Row wr w.heap.size 3 A5 j c5 (l.map (iv .i64)) ∧ l.length = j ∧ m < 18446744073709551616 ∧ Big.digs n = l ++ Big.digs m)) _ _ ⟨n, 0, 0, none, [], rfl, rfl, Ext.refl _, Row.empty _ _ _, rfl, hn, rfl⟩ ⟨(by first | rfl | exact congrArg some (int_val (by omega))), rfl, trivial⟩ ?_
  rintro KL1 n' L wr ⟨m, j, c5, A5, l, rfl, rfl, E, R, hj, hm, hd⟩ hL1
  refine wc_seq ?_; intro K4 hK4
  refine wc_seq ?_; intro K5 hK5
  refine wc_region ?_
  refine wl_y (y_move rfl) rfl ?_
  refine wl_y (y_gtr rfl rfl) rfl ?_
  refine wl_nil ?_
  refine wq_then_norm (hK5 ?_)
  refine wc_dec rfl (fun hc1 => ?_) (fun hc1 => ?_)
  · skip
    refine wc_skip ?_
    refine wq_then_norm (hK4 ?_)
    refine wc_block ?_
    refine wc_seq ?_; intro K6 hK6
    have hmp : 0 < m := by omega
    have hj5 : j < 5 := by rw [hd, List.length_append, Big.digs_pos hmp, List.length_cons] at hlen; omega
    refine wc_region ?_
    refine wl_y (y_move rfl) rfl ?_
    refine wl_y (y_move rfl) rfl ?_
    refine wl_y (y_rem rfl rfl (by omega) (show ((m : Int).tmod 32768 = ((m % 32768 : Nat) : Int)) from rfl)) rfl ?_
    refine wl_y (y_conv rfl Try.underlying23 Try.underlying3 (i64_ok (by omega) (by omega))) rfl ?_
    refine wl_ef (ef_lit (z := .int .i64 0) Try.underlying30 (by kernel_rfl) rfl rfl rfl rfl rfl) rfl ?_
    rintro _ w5 ⟨g5, rfl, B5, hg5, ex⟩
    have R5 := R.ext ex; have F5 := E.ext ex; have hs5 := F5.size
    refine wl_ef (ef_app rfl rfl eltI R5 (At.blk (vs := [m % 32768].map (iv .i64)) (B5.congr rfl)) rfl (by intro u hu; exact iv_one u hu) (by omega) (by omega) hs5) rfl ?_
    rintro _ w6 ⟨A6, c6, rfl, R6, be, gr, hl⟩
    have F6 := F5.trans be; have R7 := R6.ivs
    refine wl_y (y_assign rfl) rfl ?_
    refine wl_nil ?_
    refine wq_then_norm (hK6 ?_)
    refine wc_region ?_
    refine wl_y (y_move rfl) rfl ?_
    refine wl_y (y_quo rfl rfl (by omega) (show IntKind.u64.wrap ((m : Int).tdiv 32768) = ((m / 32768 : Nat) : Int) from IntWalk.u64_in _ (by rw [show ((m : Int).tdiv 32768) = ((m / 32768 : Nat) : Int) from rfl]; exact ⟨by omega, by omega⟩))) rfl ?_
    refine wl_y (y_assign rfl) rfl ?_
    refine wl_nil ?_
    refine wq_blk_norm ?_
    refine wq_then_norm ?_
    refine hL1 _ _ ⟨m / 32768, j + 1, c6, A6, l ++ [m % 32768], rfl, rfl, F6, R7, by simp [hj], by omega, by rw [hd, Big.digs_pos hmp, List.append_assoc]; rfl⟩ (by omega) ⟨(by first | rfl | exact congrArg some (int_val (by omega))), rfl, trivial⟩
  · skip
    refine wc_exit ?_
    refine wq_then_exit ?_
    refine wq_then_exit ?_
    refine wq_blk_hit ?_
    refine wq_then_norm (hK3 ?_)
    refine wc_seq ?_; intro K7 hK7
    refine wc_region ?_
    refine wl_y (y_move rfl) rfl ?_
    refine wl_y (y_assign rfl) rfl ?_
    refine wl_nil ?_
    refine wq_then_norm (hK7 ?_)
    refine wc_ret ?_
    refine hret rfl ?_
    obtain rfl : m = 0 := by omega
    rw [Big.digs_zero, List.append_nil] at hd
    exact ⟨A5, j, c5, rfl, by unfold Bg; rw [hd]; exact Ns.of_row R, R.cap, E⟩
theorem digit_any (A : Option Addr) (n c i : Nat) (xs : List Nat) (w : World) (H : Ns .i64 w A n xs) (hn : n ≤ 10000000) :
    Calls Try.prog 100 #[.slice A n c, .int .i64 (i : Int)] w fun e w' => e = .returned (.int .i64 ((xs.getD i 0 : Nat) : Int)) ∧ Ext w w' := by
  refine vc_enter1 13 Try.func100 rfl rfl rfl rfl ?_
  intro Q hret
  refine wc_seq ?_; intro K1 hK1
  refine wc_region ?_
  refine wl_y (y_assign rfl) rfl ?_
  refine wl_nil ?_
  refine wq_then_norm (hK1 ?_)
  refine wc_seq ?_; intro K2 hK2
  refine wc_seq ?_; intro K3 hK3
  refine wc_region ?_
  refine wl_y (y_move rfl) rfl ?_
  refine wl_y (y_move rfl) rfl ?_
  refine wl_y (y_len_slice rfl Try.underlying30) rfl ?_
  refine wl_yask (y_lss rfl rfl) rfl (fun h1 => ?_) (fun h1 => ?_)
  · skip
    refine wl_nil ?_
    refine wq_then_norm (hK3 ?_)
    refine wc_true rfl rfl ?_
    refine wc_seq ?_; intro K4 hK4
    obtain ⟨b, off, x, rfl, hx, hcx⟩ := H.cell (i := i) (by omega)
    refine wc_region ?_
    refine wl_y (y_move rfl) rfl ?_
    refine wl_y (y_move rfl) rfl ?_
    refine wl_y (y_ixs1 rfl rfl Try.underlying30 (by kernel_rfl) rfl (by omega)) rfl ?_
    refine wl_y (y_load1 rfl Try.underlying3 rfl (by assumption)) rfl ?_
    refine wl_y (y_assign rfl) rfl ?_
    refine wl_nil ?_
    refine wq_then_norm (hK4 ?_)
    refine wc_ret ?_
    refine wq_then_ret ?_
    refine hret rfl ?_
    exact ⟨by rw [hx.out], Ext.refl _⟩
  · skip
    refine wl_nil ?_
    refine wq_then_norm (hK3 ?_)
    refine wc_false rfl rfl ?_
    refine wc_skip ?_
    refine wq_then_norm (hK2 ?_)
    refine wc_seq ?_; intro K5 hK5
    refine wc_region ?_
    refine wl_y (y_assign rfl) rfl ?_
    refine wl_nil ?_
    refine wq_then_norm (hK5 ?_)
    refine wc_ret ?_
    refine hret rfl ?_
    exact ⟨by have := H.1; rw [Big.getD_over (by omega)]; rfl, Ext.refl _⟩
theorem less_any (A B : Option Addr) (n c m d a b : Nat) (w : World) (HA : Bg w A n a) (HB : Bg w B m b) (hn : n ≤ 10000000) (hm : m ≤ 10000000) :
    Calls Try.prog 42 #[.slice A n c, .slice B m d] w fun e w' => e = .returned (.bool (decide (a < b))) ∧ Ext w w' := by
  have hla := HA.len; have hlb := HB.len
  refine vc_enter1 41 Try.func42 rfl rfl rfl rfl ?_
  intro Q hret
  refine wc_seq ?_; intro K1 hK1
  refine wc_region ?_
  refine wl_y (y_assign rfl) rfl ?_
  refine wl_nil ?_
  refine wq_then_norm (hK1 ?_)
  refine wc_seq ?_; intro K2 hK2
  refine wc_seq ?_; intro K3 hK3
  refine wc_region ?_
  refine wl_y (y_move rfl) rfl ?_
  refine wl_y (y_len_slice rfl Try.underlying30) rfl ?_
  refine wl_y (y_move rfl) rfl ?_
  refine wl_y (y_len_slice rfl Try.underlying30) rfl ?_
  refine wl_y (y_neq rfl rfl) rfl ?_
  refine wl_nil ?_
  refine wq_then_norm (hK3 ?_)
  refine wc_dec rfl (fun hc1 => ?_) (fun hc1 => ?_)
  · skip
    refine wc_seq ?_; intro K4 hK4
    refine wc_region ?_
    refine wl_y (y_move rfl) rfl ?_
    refine wl_y (y_len_slice rfl Try.underlying30) rfl ?_
    refine wl_y (y_move rfl) rfl ?_
    refine wl_y (y_len_slice rfl Try.underlying30) rfl ?_
    refine wl_y (y_lss rfl rfl) rfl ?_
    refine wl_y (y_assign rfl) rfl ?_
    refine wl_nil ?_
    refine wq_then_norm (hK4 ?_)
    refine wc_ret ?_
    refine wq_then_ret ?_
    refine hret rfl ?_
    exact ⟨ret_bool (by
      constructor
      · intro h; exact Big.length_lt (by omega)
      · intro h; have := Big.length_le (Nat.le_of_lt h); omega), Ext.refl _⟩
  · skip
    refine wc_skip ?_
    refine wq_then_norm (hK2 ?_)
    refine wc_seq ?_; intro K5 hK5
    refine wc_seq ?_; intro K6 hK6
    have hnm : n = m := by omega
    refine wc_region ?_
    refine wl_y (y_move rfl) rfl ?_
    refine wl_y (y_len_slice rfl Try.underlying30) rfl ?_
    refine wl_y (y_sub rfl rfl (i64_ok (by omega) (by omega))) rfl ?_
    refine wl_y (y_assign rfl) rfl ?_
    refine wl_nil ?_
    refine wq_then_norm (hK6 ?_)
    refine wc_block ?_
    refine wc_loop (fun n' L wr => ∃ j : Nat, L = [(0, .slice A n c), (1, .slice B m d), (5, .int .i64 ((j : Int) - 1))] ∧ n' = 1 + j ∧ (j ≤ n ∧ Ext w wr ∧ (Big.digs a).drop j = (Big.digs b).drop j)) _ _ ⟨n, rfl, rfl, Nat.le_refl _, Ext.refl _, by rw [List.drop_of_length_le (by omega), List.drop_of_length_le (by omega)]⟩ ⟨rfl, rfl, (by first | rfl | exact congrArg some (int_val (by omega))), trivial⟩ ?_
    rintro KL1 n' L wr ⟨j, rfl, rfl, hj, E, hD⟩ hL1
    refine wc_seq ?_; intro K7 hK7
    refine wc_seq ?_; intro K8 hK8
    refine wc_region ?_
    refine wl_y (y_move rfl) rfl ?_
    refine wl_y (y_geq rfl rfl) rfl ?_
    refine wl_nil ?_
    refine wq_then_norm (hK8 ?_)
    refine wc_dec rfl (fun hc2 => ?_) (fun hc2 => ?_)
    · skip
      refine wc_skip ?_
      refine wq_then_norm (hK7 ?_)
      refine wc_seq ?_; intro K9 hK9
      refine wc_block ?_
      refine wc_seq ?_; intro K10 hK10
      obtain ⟨g, off, x, rfl, hx, hcx⟩ := (HA.wk E).cell (i := j - 1) (by omega)
      obtain ⟨g', off', y, rfl, hy, hcy⟩ := (HB.wk E).cell (i := j - 1) (by omega)
      refine wc_draw (by kernel_rfl) 9 rfl ?_; intro wd6 ex hd6
      replace hcx := (ex.cell (cell_lt hcx)).trans hcx; replace hcy := (ex.cell (cell_lt hcy)).trans hcy; have E6 := E.ext ex
      obtain ⟨j, rfl⟩ : ∃ i, j = i + 1 := ⟨j - 1, by omega⟩
      rw [Nat.add_sub_cancel] at hcx hcy hx hy
      refine wm_y 0 rfl (by kernel_rfl) (y_move rfl) rfl ?_
      refine wm_y 1 rfl (by kernel_rfl) (y_move rfl) rfl ?_
      refine wm_y 2 rfl (by kernel_rfl) (y_ixs1 rfl rfl Try.underlying30 (by kernel_rfl) (j := j) (by omega) (by omega)) rfl ?_
      refine wm_y 3 rfl (by kernel_rfl) (y_load1 rfl Try.underlying3 rfl (by assumption)) rfl ?_
      refine wm_y 4 rfl (by kernel_rfl) (y_move rfl) rfl ?_
      refine wm_y 5 rfl (by kernel_rfl) (y_move rfl) rfl ?_
      refine wm_y 6 rfl (by kernel_rfl) (y_ixs1 rfl rfl Try.underlying30 (by kernel_rfl) (j := j) (by omega) (by omega)) rfl ?_
      refine wm_y 7 rfl (by kernel_rfl) (y_load1 rfl Try.underlying3 rfl (by assumption)) rfl ?_
      refine wm_y 8 rfl (by kernel_rfl) (y_neq rfl rfl) rfl ?_
      refine wm_done (by kernel_rfl) ?_
      refine wq_nop ?_
      refine wq_then_norm (hK10 ?_)
      refine wc_dec rfl (fun hc3 => ?_) (fun hc3 => ?_)
      · skip
        refine wc_seq ?_; intro K11 hK11
        refine wc_draw (by kernel_rfl) 10 rfl ?_; intro wd7 ex hd7
        replace hcx := (ex.cell (cell_lt hcx)).trans hcx; replace hcy := (ex.cell (cell_lt hcy)).trans hcy; have E7 := E6.ext ex
        refine wm_y 0 rfl (by kernel_rfl) (y_move rfl) rfl ?_
        refine wm_y 1 rfl (by kernel_rfl) (y_move rfl) rfl ?_
        refine wm_y 2 rfl (by kernel_rfl) (y_ixs1 rfl rfl Try.underlying30 (by kernel_rfl) (j := j) (by omega) (by omega)) rfl ?_
        refine wm_y 3 rfl (by kernel_rfl) (y_load1 rfl Try.underlying3 rfl (by assumption)) rfl ?_
        refine wm_y 4 rfl (by kernel_rfl) (y_move rfl) rfl ?_
        refine wm_y 5 rfl (by kernel_rfl) (y_move rfl) rfl ?_
        refine wm_y 6 rfl (by kernel_rfl) (y_ixs1 rfl rfl Try.underlying30 (by kernel_rfl) (j := j) (by omega) (by omega)) rfl ?_
        refine wm_y 7 rfl (by kernel_rfl) (y_load1 rfl Try.underlying3 rfl (by assumption)) rfl ?_
        refine wm_y 8 rfl (by kernel_rfl) (y_lss rfl rfl) rfl ?_
        refine wm_y 9 rfl (by kernel_rfl) (y_assign rfl) rfl ?_
        refine wm_done (by kernel_rfl) ?_
        refine wq_nop ?_
        refine wq_then_norm (hK11 ?_)
        refine wc_ret ?_
        refine wq_blk_ret ?_
        refine wq_then_ret ?_
        refine wq_then_ret ?_
        refine wq_blk_ret ?_
        refine wq_then_ret ?_
        refine hret rfl ?_
        exact ⟨ret_bool (by
          constructor
          · intro h
            have := Big.lt_of_digit (Big.ok_digs a) (Big.ok_digs b) j (by omega) (by omega) hD (by omega) (by rw [← hx.out, ← hy.out]; omega)
            rwa [Big.val_digs, Big.val_digs] at this
          · intro h
            rcases Nat.lt_or_ge x y with h1 | h1
            · omega
            · have := Big.lt_of_digit (Big.ok_digs b) (Big.ok_digs a) j (by omega) (by omega) hD.symm (by omega) (by rw [← hx.out, ← hy.out]; omega)
              rw [Big.val_digs, Big.val_digs] at this
              omega), E7⟩
      · skip
        refine wc_skip ?_
        refine wq_blk_norm ?_
        refine wq_then_norm (hK9 ?_)
        refine wc_region ?_
        refine wl_y (y_move rfl) rfl ?_
        refine wl_y (y_sub rfl rfl (i64_ok (by omega) (by omega))) rfl ?_
        refine wl_y (y_assign rfl) rfl ?_
        refine wl_nil ?_
        refine wq_then_norm ?_
        refine hL1 _ _ ⟨j, rfl, rfl, by omega, E6, Big.drop_step (by omega) (by omega) hD (by rw [← hx.out, ← hy.out]; omega)⟩ (by omega) ⟨rfl, rfl, (by first | rfl | exact congrArg some (int_val (by omega))), trivial⟩
    · skip
      refine wc_exit ?_
      refine wq_then_exit ?_
      refine wq_then_exit ?_
      refine wq_blk_hit ?_
      refine wq_then_norm (hK5 ?_)
      refine wc_seq ?_; intro K12 hK12
      refine wc_region ?_
      refine wl_y (y_assign rfl) rfl ?_
      refine wl_nil ?_
      refine wq_then_norm (hK12 ?_)
      refine wc_ret ?_
      refine hret rfl ?_
      exact ⟨by
        obtain rfl : j = 0 := by omega
        have := Big.digs_inj hD
        rw [decide_eq_false (by omega)], E⟩
end Go.Proofs.Ytbcbihdfpkeacaa
