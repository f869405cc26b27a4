/- slices.Chunk of bytes and its iterator: what it gives, where the length is so many times the size. -/
import Derived.Test.YtbcbihdfpkeacaaVr
import Derived.Test.YtbcbihdfpkeacaaMem
namespace Go.Proofs.Ytbcbihdfpkeacaa
open Go.RowKit
attribute [local irreducible] Y Ef WL WC WK WQ WM OpM WN WF OpN
/-- The j-th piece. -/
def pieceV (g off K j : Nat) : Value := .slice (some ⟨g, off + K * j, none⟩) K K
/-- What a round leaves the iterator. -/
def KpB (b1 b2 : Nat) (W W' : World) : Prop := W.heap.size ≤ W'.heap.size ∧ W'.heap[b1]? = W.heap[b1]? ∧ W'.heap[b2]? = W.heap[b2]?
theorem KpB.trans {b1 b2 : Nat} {A B C : World} (h : KpB b1 b2 A B) (k : KpB b1 b2 B C) : KpB b1 b2 A C := ⟨Nat.le_trans h.1 k.1, k.2.1.trans h.2.1, k.2.2.trans h.2.2⟩
theorem KpB.blk1 {b1 b2 : Nat} {A B : World} {t : TypeId} {cs : Array Value} (h : KpB b1 b2 A B) (D : Blk A b1 t cs) : Blk B b1 t cs := h.2.1.trans D
theorem KpB.blk2 {b1 b2 : Nat} {A B : World} {t : TypeId} {cs : Array Value} (h : KpB b1 b2 A B) (D : Blk A b2 t cs) : Blk B b2 t cs := h.2.2.trans D
theorem grown_ext {A B : World} (h : Ext A B) : A.grownBy B none := ⟨h.os, h.tape, h.output, h.size, fun k hk _ => h.block k hk⟩
theorem chunk1_any (n l g off c K m b1 b2 : Nat) (J Jx : List (Fin m) → World → Prop) (w : World) (hK : 1 ≤ K) (hc : K * m ≤ c) (hm : K * m ≤ 70368744177664) (hab : AbidesFrom w.heap.size J)
    (C1 : Blk w b1 22 #[.slice (some ⟨g, off, none⟩) (K * m) c]) (C2 : Blk w b2 3 #[.int .i64 (K : Int)])
    (hY : ∀ pre x W1, J pre W1 → pre.length < m → YieldAt Fence.wide (n - 1) Try.prog l #[pieceV g off K x.val] W1 fun e W' => (e = .returned (.bool true) ∧ J (pre ++ [x]) W' ∧ KpB b1 b2 W1 W') ∨ (e = .returned (.bool false) ∧ Jx (pre ++ [x]) W'))
    (h0 : J [] w) :
    Calls Try.prog 150 #[.func (.yield l) #[] #[], .pointer (some ⟨b1, 0, none⟩), .pointer (some ⟨b2, 0, none⟩)] w fun e W' => (∃ v, e = .returned v) ∧ ((∃ xs, xs = List.finRange m ∧ J xs W') ∨ (∃ pre : List (Fin m), True ∧ Jx pre W')) := by
  refine vc_enter0 31 Try.func150 rfl rfl rfl rfl ?_
  intro Q hret
  refine wc_seq ?_; intro K1 hK1
  refine wc_region ?_
  refine wl_y (y_assign rfl) rfl ?_
  refine wl_nil ?_
  refine wq_then_norm (hK1 ?_)
  refine wc_block ?_
  refine wc_loop (fun n' L wr => ∃ i : Nat, L = [(0, .func (.yield l) #[] #[]), (1, .pointer (some ⟨b1, 0, none⟩)), (2, .pointer (some ⟨b2, 0, none⟩)), (4, .int .i64 ((K * i : Nat) : Int))] ∧ n' = m - i ∧ (i ≤ m ∧ J ((List.finRange m).take i) wr ∧ Blk wr b1 22 #[.slice (some ⟨g, off, none⟩) (K * m) c] ∧ Blk wr b2 3 #[.int .i64 (K : Int)])) _ _ ⟨0, rfl, rfl, by omega, h0, C1, C2⟩ ⟨rfl, rfl, rfl, (by first | rfl | exact congrArg some (int_val (by omega))), trivial⟩ ?_
  rintro KL1 n' L wr ⟨i, rfl, rfl, hi, hJ, D1, D2⟩ hL1
  refine wc_seq ?_; intro K2 hK2
  refine wc_seq ?_; intro K3 hK3
  refine wc_region ?_
  refine wl_y (y_move rfl) rfl ?_
  refine wl_y (y_load1 rfl Try.underlying22 rfl (D1.get (i := 0) rfl)) rfl ?_
  refine wl_y (y_len_slice rfl Try.underlying22) rfl ?_
  refine wl_y (y_lss rfl rfl) rfl ?_
  refine wl_nil ?_
  refine wq_then_norm (hK3 ?_)
  refine wc_dec rfl (fun hc1 => ?_) (fun hc1 => ?_)
  · skip
    have hki : K * i < K * m := by omega
    have hlt : i < m := Nat.lt_of_mul_lt_mul_left hki
    have hge : K * i + K ≤ K * m := by rw [← Nat.mul_succ]; exact Nat.mul_le_mul_left _ hlt
    refine wc_skip ?_
    refine wq_then_norm (hK2 ?_)
    refine wc_seq ?_; intro K4 hK4
    refine wc_block ?_
    refine wc_seq ?_; intro K5 hK5
    refine wc_draw (by kernel_rfl) 7 rfl ?_; intro wd3 ex hd3
    replace D1 := D1.ext ex
    replace D2 := D2.ext ex
    replace hJ := hab _ _ _ none hJ (grown_ext ex) (fun r e => by cases e)
    refine wm_y 0 rfl (by kernel_rfl) (y_load1 rfl Try.underlying3 rfl (D2.get (i := 0) rfl)) rfl ?_
    refine wm_y 1 rfl (by kernel_rfl) (y_load1 rfl Try.underlying22 rfl (D1.get (i := 0) rfl)) rfl ?_
    refine wm_y 2 rfl (by kernel_rfl) (y_move rfl) rfl ?_
    refine wm_y 3 rfl (by kernel_rfl) (y_cutl (s := 1) rfl rfl Try.underlying22 (by kernel_rfl) (j := K * i) rfl (by omega)) rfl ?_
    refine wm_y 4 rfl (by kernel_rfl) (y_len_slice rfl Try.underlying22) rfl ?_
    refine wm_y 5 rfl (by kernel_rfl) (Y.as (y_min rfl rfl) (congrArg (Value.int .i64) (if_neg (by omega)))) rfl ?_
    refine wm_y 6 rfl (by kernel_rfl) (y_assign rfl) rfl ?_
    refine wm_done (by kernel_rfl) ?_
    refine wq_nop ?_
    refine wq_then_norm (hK5 ?_)
    refine wc_seq ?_; intro K6 hK6
    refine wci_region (n) ?_
    refine wli_y (y_move rfl) rfl ?_
    refine wli_y (y_load1 rfl Try.underlying22 rfl (D1.get (i := 0) rfl)) rfl ?_
    refine wli_y (y_move rfl) rfl ?_
    refine wli_y (y_move rfl) rfl ?_
    refine wli_y (y_move rfl) rfl ?_
    refine wli_y (y_add rfl rfl (i64_ok (by omega) (by omega))) rfl ?_
    refine wli_y (y_move rfl) rfl ?_
    refine wli_y (y_move rfl) rfl ?_
    refine wli_y (y_add rfl rfl (i64_ok (by omega) (by omega))) rfl ?_
    refine wli_y (Y.as (y_cutlhm (s := 1) rfl rfl rfl rfl Try.underlying22 (by kernel_rfl) (j := K * i) (h := K * i + K) (m := K * i + K) rfl (by omega) (by omega) (by omega) (by omega) (by omega) (by omega)) (show _ = pieceV g off K i from by unfold pieceV; rw [Nat.mul_one, Nat.add_sub_cancel_left])) rfl ?_
    refine wli_yield rfl rfl ((yield_bool (hY ((List.finRange m).take i) ⟨i, hlt⟩ _ hJ (by rw [List.length_take, List.length_finRange]; omega)))) rfl ?_
    rintro e w4 ⟨bb, rfl, hbt, hbf⟩
    refine ⟨_, rfl, ?_⟩
    refine wli_y (y_not rfl) rfl ?_
    refine wli_nil ?_
    refine wq_then_norm (hK6 ?_)
    refine wc_cond rfl (fun hc2 => ?_) (fun hc2 => ?_)
    · skip
      refine wc_ret ?_
      refine wq_blk_ret ?_
      refine wq_then_ret ?_
      refine wq_then_ret ?_
      refine wq_blk_ret ?_
      refine hret (.inl rfl) ?_
      exact ⟨⟨_, rfl⟩, .inr ⟨_, trivial, hbf (by simpa using hc2)⟩⟩
    · skip
      obtain ⟨hJ2, hk⟩ := hbt (by simpa using hc2)
      replace D1 := hk.blk1 D1
      replace D2 := hk.blk2 D2
      refine wc_skip ?_
      refine wq_blk_norm ?_
      refine wq_then_norm (hK4 ?_)
      refine wc_region ?_
      refine wl_y (y_move rfl) rfl ?_
      refine wl_y (y_load1 rfl Try.underlying3 rfl (D2.get (i := 0) rfl)) rfl ?_
      refine wl_y (y_add rfl rfl (i64_ok (by omega) (by omega))) rfl ?_
      refine wl_y (y_assign rfl) rfl ?_
      refine wl_nil ?_
      refine wq_then_norm ?_
      refine hL1 _ _ ⟨i + 1, rfl, rfl, by omega, by rw [List.take_succ_eq_append_getElem (by rw [List.length_finRange]; omega)]; simpa using hJ2, D1, D2⟩ (by omega) ⟨rfl, rfl, rfl, (by first | rfl | exact congrArg some (int_val (by omega))), trivial⟩
  · skip
    refine wc_exit ?_
    refine wq_then_exit ?_
    refine wq_then_exit ?_
    refine wq_blk_hit ?_
    refine hret (.inr rfl) ?_
    exact ⟨⟨_, rfl⟩, .inl ⟨_, rfl, by rw [List.take_of_length_le (by rw [List.length_finRange]; exact Nat.le_of_mul_le_mul_left (show K * m ≤ K * i by omega) hK)] at hJ; exact hJ⟩⟩

theorem chunk_stops (n g off c K m b1 b2 : Nat) (w : World) (hK : 1 ≤ K) (hc : K * m ≤ c) (hm : K * m ≤ 70368744177664)
    (C1 : Blk w b1 22 #[.slice (some ⟨g, off, none⟩) (K * m) c]) (C2 : Blk w b2 3 #[.int .i64 (K : Int)]) :
    SeqStopsK Fence.wide n Try.prog 150 #[.pointer (some ⟨b1, 0, none⟩), .pointer (some ⟨b2, 0, none⟩)] (fun x : Fin m => #[pieceV g off K x.val]) (KpB b1 b2) (fun xs => xs = List.finRange m) (fun _ => True) m w :=
  fun l J Jx W hW hJ _ hY h0 => callsIn_wide.2 (chunk1_any n l g off c K m b1 b2 J Jx W hK hc hm hJ (C1.ext hW) (C2.ext hW) hY h0)
theorem chunk_any (g off c K m : Nat) (w : World) (hK : 1 ≤ K) :
    Calls Try.prog 112 #[.slice (some ⟨g, off, none⟩) (K * m) c, .int .i64 (K : Int)] w fun e w' => ∃ b1 b2, e = .returned (.func (.func 150) #[] #[.pointer (some ⟨b1, 0, none⟩), .pointer (some ⟨b2, 0, none⟩)]) ∧ w.heap.size ≤ b1 ∧ w.heap.size ≤ b2 ∧
      Blk w' b1 22 #[.slice (some ⟨g, off, none⟩) (K * m) c] ∧ Blk w' b2 3 #[.int .i64 (K : Int)] ∧ Ext w w' := by
  have E := Ext.refl w
  refine vc_enter1 9 Try.func112 rfl rfl rfl rfl ?_
  intro Q hret
  refine wc_seq ?_; intro K1 hK1
  refine wc_region ?_
  refine wl_ef (ef_box (cs := #[.slice (some ⟨g, off, none⟩) (K * m) c]) rfl rfl) rfl ?_
  rintro _ w1 ⟨g1, rfl, B1, hg1, ex⟩
  replace E := E.ext ex
  skip
  have hw1 := E.size
  refine wl_ef (ef_box (cs := #[.int .i64 (K : Int)]) rfl rfl) rfl ?_
  rintro _ w2 ⟨g2, rfl, B2, hg2, ex⟩
  replace E := E.ext ex
  replace B1 := B1.ext ex
  skip
  refine wl_y (y_assign rfl) rfl ?_
  refine wl_nil ?_
  refine wq_then_norm (hK1 ?_)
  refine wc_seq ?_; intro K2 hK2
  refine wc_seq ?_; intro K3 hK3
  refine wc_region ?_
  refine wl_y (y_load1 rfl Try.underlying3 rfl (B2.get (i := 0) rfl)) rfl ?_
  refine wl_y (Y.as (y_lss rfl rfl) (congrArg Value.bool (decide_eq_false (by omega)))) rfl ?_
  refine wl_nil ?_
  refine wq_then_norm (hK3 ?_)
  refine wc_false rfl rfl ?_
  refine wc_skip ?_
  refine wq_then_norm (hK2 ?_)
  refine wc_seq ?_; intro K4 hK4
  refine wc_region ?_
  refine wl_y (y_func rfl) rfl ?_
  refine wl_y (y_assign rfl) rfl ?_
  refine wl_nil ?_
  refine wq_then_norm (hK4 ?_)
  refine wc_ret ?_
  refine hret rfl ?_
  exact ⟨g1, g2, rfl, hg1, by omega, B1, B2, E⟩
end Go.Proofs.Ytbcbihdfpkeacaa
