/- The field's Pow, Inv, Root, and bytes.Repeat of one byte: what each hands back. -/
import Derived.Test.YtopimmomkapdoaaFieldB
import Derived.Test.YtopimmomkapdoaaFieldD
import Derived.Test.YtopimmomkapdoaaFieldK
import Derived.Test.YtopimmomkapdoaaVc7
namespace Go.Proofs.Ytopimmomkapdoaa
open Go.RowKit
attribute [local irreducible] Y Ef WL WC WK WQ WM OpM
theorem makeNoZero_run (k : Nat) (hk : k ≤ 1000000) (w : World) :
    ∃ v w', (callFunc 164 #[.int .i64 (k : Int)]).run Try.prog w = .ok (.value v) w' ∧ NewRaw w 5 k v w' := by
  obtain ⟨cs, hrun, hle, _⟩ := Lib.run_makeNoZero (P := Try.prog) w #[3] 22 5 Try.underlying22 k (by omega)
  refine ⟨_, _, ?_, w.heap.size, cs, rfl, Blk.new w.drew.drew 5 cs, hle, Nat.le_refl _, ?_⟩
  · rw [run_callFunc_extern Try.func164 (by kernel_rfl) (by kernel_rfl) (by kernel_rfl) (e := Extern.BytealgMakeNoZero.makeNoZero #[3] #[22]) (by kernel_rfl), hrun]
    rfl
  · exact (((Ext.drew w).tr (Ext.drew w.drew))).tr (Ext.alloc _ _)
theorem bmul_any (x y : Nat) (w : World) (hx : x < 18446744073709551616) (hy : y < 18446744073709551616) :
    Calls Try.prog 163 #[.int .u64 (x : Int), .int .u64 (y : Int)] w fun e w' => e = .returned (.tuple #[.int .u64 ((x * y / 18446744073709551616 : Nat) : Int), .int .u64 ((x * y % 18446744073709551616 : Nat) : Int)]) ∧ Ext w w' := by
  refine vc_enter2 30 Try.func163 rfl rfl rfl rfl ?_
  intro Q hret
  refine wc_seq ?_; intro K1 hK1
  refine wc_region ?_
  refine wl_y (y_assign rfl) rfl ?_
  refine wl_y (y_assign rfl) rfl ?_
  refine wl_nil ?_
  refine wq_then_norm (hK1 ?_)
  refine wc_seq ?_; intro K2 hK2
  refine wc_false rfl rfl ?_
  refine wc_skip ?_
  refine wq_then_norm (hK2 ?_)
  refine wc_seq ?_; intro K3 hK3
  refine wc_region ?_
  refine wl_y (y_move rfl) rfl ?_
  refine wl_y (y_move rfl) rfl ?_
  refine wl_call Try.func147 rfl rfl rfl (mul64_any x y _ hx hy) rfl ?_
  rintro e w1 ⟨rfl, ex⟩
  refine ⟨_, rfl, ?_⟩
  skip
  refine wl_y (y_move rfl) rfl ?_
  refine wl_y (y_extract rfl rfl) rfl ?_
  refine wl_y (y_extract rfl rfl) rfl ?_
  refine wl_y (y_assign rfl) rfl ?_
  refine wl_y (y_assign rfl) rfl ?_
  refine wl_nil ?_
  refine wq_then_norm (hK3 ?_)
  refine wc_seq ?_; intro K4 hK4
  refine wc_region ?_
  refine wl_y (y_move rfl) rfl ?_
  refine wl_y (y_move rfl) rfl ?_
  refine wl_y (y_assign rfl) rfl ?_
  refine wl_y (y_assign rfl) rfl ?_
  refine wl_nil ?_
  refine wq_then_norm (hK4 ?_)
  refine wc_ret ?_
  refine hret rfl rfl ?_
  exact ⟨rfl, ex⟩
/-- A row whose first cells are one byte. -/
def Rep (w : World) (g n c : Nat) (b : UInt8) : Prop := ∃ tl : List Value, Blk w g 5 ((List.replicate n b).map bv ++ tl).toArray ∧ n + tl.length = c
theorem Rep.ext {w w' : World} {g n c : Nat} {b : UInt8} (h : Rep w g n c b) (k : Ext w w') : Rep w' g n c b := by
  obtain ⟨tl, h1, h2⟩ := h; exact ⟨tl, h1.ext k, h2⟩
theorem Rep.lt {w : World} {g n c : Nat} {b : UInt8} (h : Rep w g n c b) : g < w.heap.size := by
  obtain ⟨tl, h1, h2⟩ := h; exact h1.lt
theorem Rep.at {w : World} {g n c m : Nat} {b : UInt8} (h : Rep w g n c b) (hm : m ≤ n) : At w (some ⟨g, 0, none⟩) ((List.replicate m b).map bv) := by
  obtain ⟨tl, h1, h2⟩ := h
  refine h1.at 0 _ fun j u hu => ?_
  have hj : j < m := by have := (List.getElem?_eq_some_iff.1 hu).1; simpa using this
  rw [Nat.zero_add]
  rw [List.map_replicate, List.getElem?_replicate_of_lt hj] at hu
  simp only [List.map_replicate, List.getElem?_toArray]
  rw [List.getElem?_append_left (by simp; omega), List.getElem?_replicate_of_lt (by omega)]
  exact hu
theorem rep_next {n m : Nat} {b : UInt8} {tl : List Value} (hm : m ≤ tl.length) :
    ((List.replicate n b).map bv ++ tl).take n ++ (List.replicate m b).map bv ++ ((List.replicate n b).map bv ++ tl).drop (n + ((List.replicate m b).map bv).length) = (List.replicate (n + m) b).map bv ++ tl.drop m := by
  simp only [List.map_replicate, List.length_replicate]
  rw [List.take_append_of_le_length (by simp), List.take_of_length_le (by simp), List.drop_append, List.drop_of_length_le (by simp), List.nil_append, List.length_replicate, show n + m - n = m by omega, List.replicate_append_replicate]
theorem repeat_any (A : Option Addr) (c k : Nat) (b : UInt8) (w : World) (HA : Bs w A 1 [b]) (hk0 : 0 < k) (hk : k ≤ 4000) :
    Calls Try.prog 158 #[.slice A 1 c, .int .i64 (k : Int)] w fun e w' => ∃ g C, e = .returned (.slice (some ⟨g, 0, none⟩) k k) ∧ Rep w' g k C b ∧ w.heap.size ≤ g ∧ Ext w w' := by
  refine vc_enter1 77 Try.func158 rfl rfl rfl rfl ?_
  intro Q hret
  refine wc_seq ?_; intro K1 hK1
  refine wc_region ?_
  refine wl_y (y_assign rfl) rfl ?_
  refine wl_nil ?_
  refine wq_then_norm (hK1 ?_)
  refine wc_seq ?_; intro K2 hK2
  refine wc_seq ?_; intro K3 hK3
  refine wc_region ?_
  refine wl_y (y_move rfl) rfl ?_
  refine wl_y (y_eql rfl rfl) rfl ?_
  refine wl_nil ?_
  refine wq_then_norm (hK3 ?_)
  refine wc_no rfl (by omega) ?_
  refine wc_skip ?_
  refine wq_then_norm (hK2 ?_)
  refine wc_seq ?_; intro K4 hK4
  refine wc_seq ?_; intro K5 hK5
  refine wc_region ?_
  refine wl_y (y_move rfl) rfl ?_
  refine wl_y (y_lss rfl rfl) rfl ?_
  refine wl_nil ?_
  refine wq_then_norm (hK5 ?_)
  refine wc_no rfl (by omega) ?_
  refine wc_skip ?_
  refine wq_then_norm (hK4 ?_)
  refine wc_seq ?_; intro K6 hK6
  refine wc_region ?_
  refine wl_y (y_move rfl) rfl ?_
  refine wl_y (y_len_slice rfl Try.underlying22) rfl ?_
  refine wl_y (y_conv rfl Try.underlying3 Try.underlying112 (IntWalk.u64_in _ ⟨by omega, by omega⟩)) rfl ?_
  refine wl_y (y_move rfl) rfl ?_
  refine wl_y (y_conv rfl Try.underlying3 Try.underlying112 (IntWalk.u64_in _ ⟨by omega, by omega⟩)) rfl ?_
  refine wl_call Try.func163 rfl rfl rfl (bmul_any 1 k _ (by omega) (by omega)) rfl ?_
  rintro e w1 ⟨rfl, ex⟩
  refine ⟨_, rfl, ?_⟩
  replace HA := HA.ext ex
  rw [show 1 * k / 18446744073709551616 = 0 by omega, show 1 * k % 18446744073709551616 = k by omega]; have E1 := ex
  refine wl_y (y_move rfl) rfl ?_
  refine wl_y (y_extract rfl rfl) rfl ?_
  refine wl_y (y_extract rfl rfl) rfl ?_
  refine wl_y (y_assign rfl) rfl ?_
  refine wl_y (y_assign rfl) rfl ?_
  refine wl_nil ?_
  refine wq_then_norm (hK6 ?_)
  refine wc_seq ?_; intro K7 hK7
  refine wc_seq ?_; intro K8 hK8
  refine wc_region ?_
  refine wl_y (y_move rfl) rfl ?_
  refine wl_y (Y.as (y_gtr rfl rfl) (congrArg Value.bool (decide_eq_false (by omega)))) rfl ?_
  refine wl_y (y_move rfl) rfl ?_
  refine wl_gy 29 rfl rfl (y_move rfl) rfl ?_
  refine wl_gy 29 rfl rfl (Y.as (y_gtr rfl rfl) (congrArg Value.bool (decide_eq_false (by omega)))) rfl ?_
  refine wl_y (y_pickf rfl rfl) rfl ?_
  refine wl_nil ?_
  refine wq_then_norm (hK8 ?_)
  refine wc_false rfl rfl ?_
  refine wc_skip ?_
  refine wq_then_norm (hK7 ?_)
  refine wc_seq ?_; intro K9 hK9
  refine wc_region ?_
  refine wl_y (y_move rfl) rfl ?_
  refine wl_y (y_conv rfl Try.underlying112 Try.underlying3 (i64_ok (by omega) (by omega))) rfl ?_
  refine wl_y (y_assign rfl) rfl ?_
  refine wl_nil ?_
  refine wq_then_norm (hK9 ?_)
  refine wc_seq ?_; intro K10 hK10
  refine wc_seq ?_; intro K11 hK11
  refine wc_region ?_
  refine wl_y (y_move rfl) rfl ?_
  refine wl_y (y_len_slice rfl Try.underlying22) rfl ?_
  refine wl_y (y_eql rfl rfl) rfl ?_
  refine wl_nil ?_
  refine wq_then_norm (hK11 ?_)
  refine wc_no rfl (by omega) ?_
  refine wc_skip ?_
  refine wq_then_norm (hK10 ?_)
  refine wc_seq ?_; intro K12 hK12
  refine wc_region ?_
  refine wl_y (y_move rfl) rfl ?_
  refine wl_y (y_assign rfl) rfl ?_
  refine wl_nil ?_
  refine wq_then_norm (hK12 ?_)
  refine wc_seq ?_; intro K13 hK13
  refine wc_seq ?_; intro K14 hK14
  refine wc_region ?_
  refine wl_y (y_move rfl) rfl ?_
  refine wl_y (y_gtr rfl rfl) rfl ?_
  refine wl_nil ?_
  refine wq_then_norm (hK14 ?_)
  refine wc_no rfl (by omega) ?_
  refine wc_skip ?_
  refine wq_then_norm (hK13 ?_)
  refine wc_seq ?_; intro K15 hK15
  refine wc_region ?_
  refine wl_y (y_move rfl) rfl ?_
  refine wl_ef (ef_extM rfl (makeNoZero_run k (by omega) _)) rfl ?_
  rintro _ w2 ⟨g, cs, rfl, B2, hcs, hg, ex⟩
  replace HA := HA.ext ex
  have E2 := E1.ext ex
  refine wl_y (y_move rfl) rfl ?_
  refine wl_y (y_move rfl) rfl ?_
  refine wl_y (y_cuthm (s := 1) (h := k) (m := k) rfl rfl rfl Try.underlying22 (by kernel_rfl) rfl rfl (by omega) hcs) rfl ?_
  refine wl_y (y_assign rfl) rfl ?_
  refine wl_nil ?_
  refine wq_then_norm (hK15 ?_)
  refine wc_seq ?_; intro K16 hK16
  refine wc_region ?_
  refine wl_y (y_move rfl) rfl ?_
  refine wl_y (y_move rfl) rfl ?_
  refine wl_ef (ef_copy (cs := [b].map bv) rfl rfl Try.underlying22 (by kernel_rfl) B2 HA.2 (by show 1 = min 1 k; omega) (by show 0 + 1 ≤ cs.size; omega) (by intro u hu; exact bv_one u hu)) rfl ?_
  rintro _ w3 ⟨rfl, B3, cg⟩
  have hg0 : w.heap.size ≤ g := Nat.le_trans E1.size hg; have E3 := E2.chg cg hg0; have R3 : Rep w3 g 1 cs.size b := ⟨cs.toList.drop 1, B3.congr (by simp), by simp; omega⟩
  refine wl_y (y_assign rfl) rfl ?_
  refine wl_nil ?_
  refine wq_then_norm (hK16 ?_)
  refine wc_seq ?_; intro K17 hK17
  refine wc_block ?_
  refine wc_loop (fun n' L wr => ∃ i : Nat, L = [(7, .int .i64 (k : Int)), (8, .int .i64 (k : Int)), (9, .slice (some ⟨g, 0, none⟩) k k), (10, .int .i64 (i : Int))] ∧ n' = k - i ∧ (1 ≤ i ∧ i ≤ k ∧ Ext w wr ∧ Rep wr g i cs.size b)) _ _ ⟨1, rfl, rfl, by omega, by omega, E3, R3⟩ ⟨(by first | rfl | exact congrArg some (int_val (by omega))), (by first | rfl | exact congrArg some (int_val (by omega))), rfl, (by first | rfl | exact congrArg some (int_val (by omega))), trivial⟩ ?_
  rintro KL1 n' L wr ⟨i, rfl, rfl, h1, hi, F, R⟩ hL1
  refine wc_seq ?_; intro K18 hK18
  refine wc_seq ?_; intro K19 hK19
  refine wc_region ?_
  refine wl_y (y_move rfl) rfl ?_
  refine wl_y (y_move rfl) rfl ?_
  refine wl_y (y_lss rfl rfl) rfl ?_
  refine wl_nil ?_
  refine wq_then_norm (hK19 ?_)
  refine wc_dec rfl (fun hc7 => ?_) (fun hc7 => ?_)
  · skip
    refine wc_skip ?_
    refine wq_then_norm (hK18 ?_)
    refine wc_block ?_
    refine wc_seq ?_; intro K20 hK20
    refine wc_region ?_
    refine wl_y (y_move rfl) rfl ?_
    refine wl_y (y_move rfl) rfl ?_
    refine wl_y (y_min rfl rfl) rfl ?_
    rw [show (if (k : Int) < (i : Int) then (k : Int) else (i : Int)) = (i : Int) by rw [if_neg (by omega)]]
    refine wl_y (y_assign rfl) rfl ?_
    refine wl_nil ?_
    refine wq_then_norm (hK20 ?_)
    refine wc_draw (by kernel_rfl) 10 rfl ?_; intro wd20 ex hd20
    replace F := F.ext ex; replace R := R.ext ex
    refine wm_z 0 rfl (by kernel_rfl) (fun _ => y_move rfl) rfl ?_
    refine wm_z 1 rfl (by kernel_rfl) (fun _ => y_move rfl) rfl ?_
    refine wm_z 2 rfl (by kernel_rfl) (fun _ => y_move rfl) rfl ?_
    refine wm_z 3 rfl (by kernel_rfl) (fun _ => y_cutl (s := 1) rfl rfl Try.underlying22 (by kernel_rfl) rfl (by omega)) rfl ?_
    rw [show cutA (some ⟨g, 0, none⟩) k i 1 = some (⟨g, i, none⟩ : Addr) by unfold cutA; rw [if_neg (by omega), Nat.mul_one]; show some ((⟨g, 0, none⟩ : Addr).add i) = _; rw [add_lit, Nat.zero_add]]
    refine wm_z 4 rfl (by kernel_rfl) (fun _ => y_move rfl) rfl ?_
    refine wm_z 5 rfl (by kernel_rfl) (fun _ => y_move rfl) rfl ?_
    refine wm_z 6 rfl (by kernel_rfl) (fun _ => y_cuth (s := 1) rfl rfl Try.underlying22 (by kernel_rfl) rfl (by omega)) rfl ?_
    obtain ⟨tl, BR, hl⟩ := R
    have R : Rep wd20 g i cs.size b := ⟨tl, BR, hl⟩
    refine wm_one 7 (by kernel_rfl) ?_; refine om_ef rfl (ef_copy (cs := (List.replicate (min i (k - i)) b).map bv) rfl rfl Try.underlying22 (by kernel_rfl) BR (R.at (by omega)) (by simp) (by simp; omega) (by intro u hu; exact bv_one u hu)) rfl ?_
    rintro _ w5 ⟨rfl, B5, cg⟩
    refine ⟨.inl rfl, ?_⟩
    rw [rep_next (by omega)] at B5; have F5 := F.chg cg hg0
    refine wm_y 8 rfl (by kernel_rfl) (y_add rfl rfl (i64_nat (n := i + min i (k - i)) (by simp) (by omega))) rfl ?_
    refine wm_y 9 rfl (by kernel_rfl) (y_assign rfl) rfl ?_
    refine wm_done (by kernel_rfl) ?_
    refine wq_nop ?_
    refine wq_blk_norm ?_
    refine wq_then_norm ?_
    refine hL1 _ _ ⟨i + min i (k - i), rfl, rfl, by omega, by omega, F5, ⟨_, B5, by simp; omega⟩⟩ (by omega) ⟨(by first | rfl | exact congrArg some (int_val (by omega))), (by first | rfl | exact congrArg some (int_val (by omega))), rfl, (by first | rfl | exact congrArg some (int_val (by omega))), trivial⟩
  · skip
    refine wc_exit ?_
    refine wq_then_exit ?_
    refine wq_then_exit ?_
    refine wq_blk_hit ?_
    refine wq_then_norm (hK17 ?_)
    refine wc_seq ?_; intro K21 hK21
    refine wc_region ?_
    refine wl_y (y_move rfl) rfl ?_
    refine wl_y (y_assign rfl) rfl ?_
    refine wl_nil ?_
    refine wq_then_norm (hK21 ?_)
    refine wc_ret ?_
    refine hret rfl ?_
    obtain rfl : i = k := by omega
    exact ⟨g, cs.size, rfl, R, hg0, F⟩
end Go.Proofs.Ytopimmomkapdoaa
