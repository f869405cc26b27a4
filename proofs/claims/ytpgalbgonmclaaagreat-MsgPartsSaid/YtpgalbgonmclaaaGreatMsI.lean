/- Which commits may be: what msg answers. -/
import Derived.Test.YtpgalbgonmclaaaGreatMsH
namespace Go.Proofs.YtpgalbgonmclaaaGreat
open Go.RowKit
attribute [local irreducible] Y Ef WL WC WK WQ WM OpM WN WF OpN
open Nd
/-- The first that a predicate holds of, or none. -/
theorem idxItem_any (A : Option Addr) (n c : Nat) (xs : List Item20) (f : FuncId) (us : List Value) (p : Item20 → Bool) (fn : Func) (b : Code) (w : World) (HA : Els ItemAt 17 w A n xs) (hn : n ≤ 1000000) (hf : Tryz.prog.funcs[f]? = some fn) (hb : fn.body = some b) (hnm : (fn.name == "runtime.NumGoroutine") = false)
    (hp : ∀ x ∈ xs, ∀ (cs : Array Value) (w1 : World), Ext w w1 → ItemAt w1 cs x → Calls Tryz.prog f ([Value.agg cs] ++ us).toArray w1 fun e w' => e = .returned (.bool (p x)) ∧ Ext w1 w') :
    Calls Tryz.prog 122 #[.slice A n c, .func (.func f) #[] us.toArray] w fun e w' => ∃ z : Int, e = .returned (.int .i64 z) ∧ (0 ≤ z ↔ xs.any p = true) ∧ Ext w w' := by
  have hl := HA.1
  refine vc_enter1 19 Tryz.func122 rfl rfl rfl rfl ?_
  intro Q hret
  refine wc_seq ?_; intro K1 hK1
  refine wc_region ?_
  refine wl_y (y_assign rfl) rfl ?_
  refine wl_nil ?_
  refine wq_then_norm (hK1 ?_)
  refine wc_seq ?_; intro K2 hK2
  refine wc_seq ?_; intro K3 hK3
  refine wc_region ?_
  refine wl_y (y_move rfl) rfl ?_
  refine wl_y (y_len_slice rfl Tryz.underlying35) rfl ?_
  refine wl_y (y_move rfl) rfl ?_
  refine wl_nil ?_
  refine wq_then_norm (hK3 ?_)
  refine wc_block ?_
  refine wc_loop (fun n' L wr => ∃ i : Nat, L = [(0, .slice A n c), (1, .func (.func f) #[] us.toArray), (7, .int .i64 (n : Int)), (8, .int .i64 (i : Int))] ∧ n' = n - i ∧ (i ≤ n ∧ Ext w wr ∧ (xs.take i).any p = false)) _ _ ⟨0, rfl, rfl, by omega, Ext.refl _, rfl⟩ ⟨rfl, rfl, (by first | rfl | exact congrArg some (int_val (by omega))), (by first | rfl | exact congrArg some (int_val (by omega))), trivial⟩ ?_
  rintro KL1 n' L wr ⟨i, rfl, rfl, hi, E, hno⟩ hL1
  refine wc_seq ?_; intro K4 hK4
  refine wc_region ?_
  refine wl_y (y_lss rfl rfl) rfl ?_
  refine wl_nil ?_
  refine wq_then_norm (hK4 ?_)
  refine wc_seq ?_; intro K5 hK5
  refine wc_dec rfl (fun hc1 => ?_) (fun hc1 => ?_)
  · skip
    refine wc_skip ?_
    refine wq_then_norm (hK5 ?_)
    refine wc_seq ?_; intro K6 hK6
    refine wc_block ?_
    refine wc_seq ?_; intro K7 hK7
    refine wc_region ?_
    refine wl_y (y_move rfl) rfl ?_
    refine wl_y (y_assign rfl) rfl ?_
    refine wl_nil ?_
    refine wq_then_norm (hK7 ?_)
    refine wc_seq ?_; intro K8 hK8
    obtain ⟨b1, off1, cs, x, rfl, _, hx, hcz, hR, hcx⟩ := (HA.ext E fun _ _ h => ItemAt.ext h E).get2 (by omega) (i := i) (by omega)
    have htk := take_snoc hx
    refine wc_region ?_
    refine wl_y (y_move rfl) rfl ?_
    refine wl_y (y_move rfl) rfl ?_
    refine wl_y (y_move rfl) rfl ?_
    refine wl_y (y_ixsp (s := 17) (j := i) rfl rfl Tryz.underlying35 (by kernel_rfl) rfl (by omega)) rfl ?_
    refine wl_y (y_loadp rfl Tryz.underlying95 rfl (by rw [hcz]; kernel_rfl) fun j v hv => by rw [Addr.add_plain]; exact hcx j v hv) rfl ?_
    refine wl_ef (ef_callv (Φ := fun v w' => v = .bool (p x) ∧ Ext _ w') (xs := [_]) (vs := [.agg cs]) rfl hf hb hnm rfl (hp x (List.mem_of_getElem? hx) cs _ E hR) (fun _ _ h => ⟨_, h.1, rfl, h.2⟩)) rfl ?_
    rintro _ w2 ⟨rfl, ex⟩
    have E2 := E.ext ex
    refine wl_nil ?_
    refine wq_then_norm (hK8 ?_)
    refine wc_cond rfl (fun hc2 => ?_) (fun hc2 => ?_)
    · skip
      refine wc_seq ?_; intro K9 hK9
      refine wc_region ?_
      refine wl_y (y_move rfl) rfl ?_
      refine wl_y (y_assign rfl) rfl ?_
      refine wl_nil ?_
      refine wq_then_norm (hK9 ?_)
      refine wc_ret ?_
      refine wq_blk_ret ?_
      refine wq_then_ret ?_
      refine wq_then_ret ?_
      refine wq_blk_ret ?_
      refine wq_then_ret ?_
      refine hret rfl ?_
      refine ⟨i, rfl, ⟨fun _ => ?_, fun _ => by omega⟩, E2⟩
      rw [List.any_eq_true]
      exact ⟨x, List.mem_of_getElem? hx, hc2⟩
    · skip
      refine wc_skip ?_
      refine wq_blk_norm ?_
      refine wq_then_norm (hK6 ?_)
      refine wc_region ?_
      refine wl_y (y_add rfl rfl (i64_ok (by omega) (by omega))) rfl ?_
      refine wl_y (y_move rfl) rfl ?_
      refine wl_nil ?_
      refine wq_then_norm ?_
      refine hL1 _ _ ⟨i + 1, rfl, rfl, by omega, E2, by rw [htk, List.any_append, hno]; simpa using hc2⟩ (by omega) ⟨rfl, rfl, (by first | rfl | exact congrArg some (int_val (by omega))), (by first | rfl | exact congrArg some (int_val (by omega))), trivial⟩
  · skip
    refine wc_exit ?_
    refine wq_then_exit ?_
    refine wq_then_exit ?_
    refine wq_blk_hit ?_
    refine wq_then_norm (hK2 ?_)
    refine wc_seq ?_; intro K10 hK10
    refine wc_region ?_
    refine wl_y (y_assign rfl) rfl ?_
    refine wl_nil ?_
    refine wq_then_norm (hK10 ?_)
    refine wc_ret ?_
    refine hret rfl ?_
    refine ⟨-1, rfl, ⟨fun h => absurd h (by omega), fun h => ?_⟩, E⟩
    rw [List.take_of_length_le (by omega)] at hno
    rw [hno] at h
    cases h
theorem contItem_any (A : Option Addr) (n c : Nat) (xs : List Item20) (f : FuncId) (us : List Value) (p : Item20 → Bool) (fn : Func) (b : Code) (w : World) (HA : Els ItemAt 17 w A n xs) (hn : n ≤ 1000000) (hf : Tryz.prog.funcs[f]? = some fn) (hb : fn.body = some b) (hnm : (fn.name == "runtime.NumGoroutine") = false)
    (hp : ∀ x ∈ xs, ∀ (cs : Array Value) (w1 : World), Ext w w1 → ItemAt w1 cs x → Calls Tryz.prog f ([Value.agg cs] ++ us).toArray w1 fun e w' => e = .returned (.bool (p x)) ∧ Ext w1 w') :
    Calls Tryz.prog 92 #[.slice A n c, .func (.func f) #[] us.toArray] w fun e w' => e = .returned (.bool (xs.any p)) ∧ Ext w w' := by
  refine vc_enter1 9 Tryz.func92 rfl rfl rfl rfl ?_
  intro Q hret
  refine wc_seq ?_; intro K1 hK1
  refine wc_region ?_
  refine wl_y (y_assign rfl) rfl ?_
  refine wl_nil ?_
  refine wq_then_norm (hK1 ?_)
  refine wc_seq ?_; intro K2 hK2
  refine wc_region ?_
  refine wl_y (y_move rfl) rfl ?_
  refine wl_y (y_move rfl) rfl ?_
  refine wl_call Tryz.func122 rfl rfl rfl (idxItem_any A n c xs f us p fn b _ HA hn hf hb hnm hp) rfl ?_
  rintro e w2 ⟨z, rfl, hz, ex⟩
  refine ⟨_, rfl, ?_⟩
  skip
  refine wl_y (y_geq rfl rfl) rfl ?_
  refine wl_y (y_assign rfl) rfl ?_
  refine wl_nil ?_
  refine wq_then_norm (hK2 ?_)
  refine wc_ret ?_
  refine hret rfl ?_
  exact ⟨(ret_bool_of hz.symm).symm, ex⟩
/-- The first that a predicate holds of, or none. -/
theorem idxStep_any (A : Option Addr) (n c : Nat) (xs : List Stp) (f : FuncId) (us : List Value) (p : Stp → Bool) (fn : Func) (b : Code) (w : World) (HA : Els StpAt 2 w A n xs) (hn : n ≤ 1000000) (hf : Tryz.prog.funcs[f]? = some fn) (hb : fn.body = some b) (hnm : (fn.name == "runtime.NumGoroutine") = false)
    (hp : ∀ x ∈ xs, ∀ (cs : Array Value) (w1 : World), Ext w w1 → StpAt w1 cs x → Calls Tryz.prog f ([Value.agg cs] ++ us).toArray w1 fun e w' => e = .returned (.bool (p x)) ∧ Ext w1 w') :
    Calls Tryz.prog 143 #[.slice A n c, .func (.func f) #[] us.toArray] w fun e w' => ∃ z : Int, e = .returned (.int .i64 z) ∧ (0 ≤ z ↔ xs.any p = true) ∧ Ext w w' := by
  have hl := HA.1
  refine vc_enter1 19 Tryz.func143 rfl rfl rfl rfl ?_
  intro Q hret
  refine wc_seq ?_; intro K1 hK1
  refine wc_region ?_
  refine wl_y (y_assign rfl) rfl ?_
  refine wl_nil ?_
  refine wq_then_norm (hK1 ?_)
  refine wc_seq ?_; intro K2 hK2
  refine wc_seq ?_; intro K3 hK3
  refine wc_region ?_
  refine wl_y (y_move rfl) rfl ?_
  refine wl_y (y_len_slice rfl Tryz.underlying36) rfl ?_
  refine wl_y (y_move rfl) rfl ?_
  refine wl_nil ?_
  refine wq_then_norm (hK3 ?_)
  refine wc_block ?_
  refine wc_loop (fun n' L wr => ∃ i : Nat, L = [(0, .slice A n c), (1, .func (.func f) #[] us.toArray), (7, .int .i64 (n : Int)), (8, .int .i64 (i : Int))] ∧ n' = n - i ∧ (i ≤ n ∧ Ext w wr ∧ (xs.take i).any p = false)) _ _ ⟨0, rfl, rfl, by omega, Ext.refl _, rfl⟩ ⟨rfl, rfl, (by first | rfl | exact congrArg some (int_val (by omega))), (by first | rfl | exact congrArg some (int_val (by omega))), trivial⟩ ?_
  rintro KL1 n' L wr ⟨i, rfl, rfl, hi, E, hno⟩ hL1
  refine wc_seq ?_; intro K4 hK4
  refine wc_region ?_
  refine wl_y (y_lss rfl rfl) rfl ?_
  refine wl_nil ?_
  refine wq_then_norm (hK4 ?_)
  refine wc_seq ?_; intro K5 hK5
  refine wc_dec rfl (fun hc1 => ?_) (fun hc1 => ?_)
  · skip
    refine wc_skip ?_
    refine wq_then_norm (hK5 ?_)
    refine wc_seq ?_; intro K6 hK6
    refine wc_block ?_
    refine wc_seq ?_; intro K7 hK7
    refine wc_region ?_
    refine wl_y (y_move rfl) rfl ?_
    refine wl_y (y_assign rfl) rfl ?_
    refine wl_nil ?_
    refine wq_then_norm (hK7 ?_)
    refine wc_seq ?_; intro K8 hK8
    obtain ⟨b1, off1, cs, x, rfl, _, hx, hcz, hR, hcx⟩ := (HA.ext E fun _ _ h => StpAt.ext h E).get2 (by omega) (i := i) (by omega)
    have htk := take_snoc hx
    refine wc_region ?_
    refine wl_y (y_move rfl) rfl ?_
    refine wl_y (y_move rfl) rfl ?_
    refine wl_y (y_move rfl) rfl ?_
    refine wl_y (y_ixsp (s := 2) (j := i) rfl rfl Tryz.underlying36 (by kernel_rfl) rfl (by omega)) rfl ?_
    refine wl_y (y_loadp rfl Tryz.underlying98 rfl (by rw [hcz]; kernel_rfl) fun j v hv => by rw [Addr.add_plain]; exact hcx j v hv) rfl ?_
    refine wl_ef (ef_callv (Φ := fun v w' => v = .bool (p x) ∧ Ext _ w') (xs := [_]) (vs := [.agg cs]) rfl hf hb hnm rfl (hp x (List.mem_of_getElem? hx) cs _ E hR) (fun _ _ h => ⟨_, h.1, rfl, h.2⟩)) rfl ?_
    rintro _ w2 ⟨rfl, ex⟩
    have E2 := E.ext ex
    refine wl_nil ?_
    refine wq_then_norm (hK8 ?_)
    refine wc_cond rfl (fun hc2 => ?_) (fun hc2 => ?_)
    · skip
      refine wc_seq ?_; intro K9 hK9
      refine wc_region ?_
      refine wl_y (y_move rfl) rfl ?_
      refine wl_y (y_assign rfl) rfl ?_
      refine wl_nil ?_
      refine wq_then_norm (hK9 ?_)
      refine wc_ret ?_
      refine wq_blk_ret ?_
      refine wq_then_ret ?_
      refine wq_then_ret ?_
      refine wq_blk_ret ?_
      refine wq_then_ret ?_
      refine hret rfl ?_
      refine ⟨i, rfl, ⟨fun _ => ?_, fun _ => by omega⟩, E2⟩
      rw [List.any_eq_true]
      exact ⟨x, List.mem_of_getElem? hx, hc2⟩
    · skip
      refine wc_skip ?_
      refine wq_blk_norm ?_
      refine wq_then_norm (hK6 ?_)
      refine wc_region ?_
      refine wl_y (y_add rfl rfl (i64_ok (by omega) (by omega))) rfl ?_
      refine wl_y (y_move rfl) rfl ?_
      refine wl_nil ?_
      refine wq_then_norm ?_
      refine hL1 _ _ ⟨i + 1, rfl, rfl, by omega, E2, by rw [htk, List.any_append, hno]; simpa using hc2⟩ (by omega) ⟨rfl, rfl, (by first | rfl | exact congrArg some (int_val (by omega))), (by first | rfl | exact congrArg some (int_val (by omega))), trivial⟩
  · skip
    refine wc_exit ?_
    refine wq_then_exit ?_
    refine wq_then_exit ?_
    refine wq_blk_hit ?_
    refine wq_then_norm (hK2 ?_)
    refine wc_seq ?_; intro K10 hK10
    refine wc_region ?_
    refine wl_y (y_assign rfl) rfl ?_
    refine wl_nil ?_
    refine wq_then_norm (hK10 ?_)
    refine wc_ret ?_
    refine hret rfl ?_
    refine ⟨-1, rfl, ⟨fun h => absurd h (by omega), fun h => ?_⟩, E⟩
    rw [List.take_of_length_le (by omega)] at hno
    rw [hno] at h
    cases h
theorem contStep_any (A : Option Addr) (n c : Nat) (xs : List Stp) (f : FuncId) (us : List Value) (p : Stp → Bool) (fn : Func) (b : Code) (w : World) (HA : Els StpAt 2 w A n xs) (hn : n ≤ 1000000) (hf : Tryz.prog.funcs[f]? = some fn) (hb : fn.body = some b) (hnm : (fn.name == "runtime.NumGoroutine") = false)
    (hp : ∀ x ∈ xs, ∀ (cs : Array Value) (w1 : World), Ext w w1 → StpAt w1 cs x → Calls Tryz.prog f ([Value.agg cs] ++ us).toArray w1 fun e w' => e = .returned (.bool (p x)) ∧ Ext w1 w') :
    Calls Tryz.prog 123 #[.slice A n c, .func (.func f) #[] us.toArray] w fun e w' => e = .returned (.bool (xs.any p)) ∧ Ext w w' := by
  refine vc_enter1 9 Tryz.func123 rfl rfl rfl rfl ?_
  intro Q hret
  refine wc_seq ?_; intro K1 hK1
  refine wc_region ?_
  refine wl_y (y_assign rfl) rfl ?_
  refine wl_nil ?_
  refine wq_then_norm (hK1 ?_)
  refine wc_seq ?_; intro K2 hK2
  refine wc_region ?_
  refine wl_y (y_move rfl) rfl ?_
  refine wl_y (y_move rfl) rfl ?_
  refine wl_call Tryz.func143 rfl rfl rfl (idxStep_any A n c xs f us p fn b _ HA hn hf hb hnm hp) rfl ?_
  rintro e w2 ⟨z, rfl, hz, ex⟩
  refine ⟨_, rfl, ?_⟩
  skip
  refine wl_y (y_geq rfl rfl) rfl ?_
  refine wl_y (y_assign rfl) rfl ?_
  refine wl_nil ?_
  refine wq_then_norm (hK2 ?_)
  refine wc_ret ?_
  refine hret rfl ?_
  exact ⟨(ret_bool_of hz.symm).symm, ex⟩
/-- The first that a predicate holds of, or none. -/
theorem idxBoxed_any (A : Option Addr) (n c : Nat) (xs : List Bxd) (f : FuncId) (us : List Value) (p : Bxd → Bool) (fn : Func) (b : Code) (w : World) (HA : Els BxdAt 2 w A n xs) (hn : n ≤ 1000000) (hf : Tryz.prog.funcs[f]? = some fn) (hb : fn.body = some b) (hnm : (fn.name == "runtime.NumGoroutine") = false)
    (hp : ∀ x ∈ xs, ∀ (cs : Array Value) (w1 : World), Ext w w1 → BxdAt w1 cs x → Calls Tryz.prog f ([Value.agg cs] ++ us).toArray w1 fun e w' => e = .returned (.bool (p x)) ∧ Ext w1 w') :
    Calls Tryz.prog 144 #[.slice A n c, .func (.func f) #[] us.toArray] w fun e w' => ∃ z : Int, e = .returned (.int .i64 z) ∧ (0 ≤ z ↔ xs.any p = true) ∧ Ext w w' := by
  have hl := HA.1
  refine vc_enter1 19 Tryz.func144 rfl rfl rfl rfl ?_
  intro Q hret
  refine wc_seq ?_; intro K1 hK1
  refine wc_region ?_
  refine wl_y (y_assign rfl) rfl ?_
  refine wl_nil ?_
  refine wq_then_norm (hK1 ?_)
  refine wc_seq ?_; intro K2 hK2
  refine wc_seq ?_; intro K3 hK3
  refine wc_region ?_
  refine wl_y (y_move rfl) rfl ?_
  refine wl_y (y_len_slice rfl Tryz.underlying96) rfl ?_
  refine wl_y (y_move rfl) rfl ?_
  refine wl_nil ?_
  refine wq_then_norm (hK3 ?_)
  refine wc_block ?_
  refine wc_loop (fun n' L wr => ∃ i : Nat, L = [(0, .slice A n c), (1, .func (.func f) #[] us.toArray), (7, .int .i64 (n : Int)), (8, .int .i64 (i : Int))] ∧ n' = n - i ∧ (i ≤ n ∧ Ext w wr ∧ (xs.take i).any p = false)) _ _ ⟨0, rfl, rfl, by omega, Ext.refl _, rfl⟩ ⟨rfl, rfl, (by first | rfl | exact congrArg some (int_val (by omega))), (by first | rfl | exact congrArg some (int_val (by omega))), trivial⟩ ?_
  rintro KL1 n' L wr ⟨i, rfl, rfl, hi, E, hno⟩ hL1
  refine wc_seq ?_; intro K4 hK4
  refine wc_region ?_
  refine wl_y (y_lss rfl rfl) rfl ?_
  refine wl_nil ?_
  refine wq_then_norm (hK4 ?_)
  refine wc_seq ?_; intro K5 hK5
  refine wc_dec rfl (fun hc1 => ?_) (fun hc1 => ?_)
  · skip
    refine wc_skip ?_
    refine wq_then_norm (hK5 ?_)
    refine wc_seq ?_; intro K6 hK6
    refine wc_block ?_
    refine wc_seq ?_; intro K7 hK7
    refine wc_region ?_
    refine wl_y (y_move rfl) rfl ?_
    refine wl_y (y_assign rfl) rfl ?_
    refine wl_nil ?_
    refine wq_then_norm (hK7 ?_)
    refine wc_seq ?_; intro K8 hK8
    obtain ⟨b1, off1, cs, x, rfl, _, hx, hcz, hR, hcx⟩ := (HA.ext E fun _ _ h => BxdAt.ext h E).get2 (by omega) (i := i) (by omega)
    have htk := take_snoc hx
    refine wc_region ?_
    refine wl_y (y_move rfl) rfl ?_
    refine wl_y (y_move rfl) rfl ?_
    refine wl_y (y_move rfl) rfl ?_
    refine wl_y (y_ixsp (s := 2) (j := i) rfl rfl Tryz.underlying96 (by kernel_rfl) rfl (by omega)) rfl ?_
    refine wl_y (y_loadp rfl Tryz.underlying100 rfl (by rw [hcz]; kernel_rfl) fun j v hv => by rw [Addr.add_plain]; exact hcx j v hv) rfl ?_
    refine wl_ef (ef_callv (Φ := fun v w' => v = .bool (p x) ∧ Ext _ w') (xs := [_]) (vs := [.agg cs]) rfl hf hb hnm rfl (hp x (List.mem_of_getElem? hx) cs _ E hR) (fun _ _ h => ⟨_, h.1, rfl, h.2⟩)) rfl ?_
    rintro _ w2 ⟨rfl, ex⟩
    have E2 := E.ext ex
    refine wl_nil ?_
    refine wq_then_norm (hK8 ?_)
    refine wc_cond rfl (fun hc2 => ?_) (fun hc2 => ?_)
    · skip
      refine wc_seq ?_; intro K9 hK9
      refine wc_region ?_
      refine wl_y (y_move rfl) rfl ?_
      refine wl_y (y_assign rfl) rfl ?_
      refine wl_nil ?_
      refine wq_then_norm (hK9 ?_)
      refine wc_ret ?_
      refine wq_blk_ret ?_
      refine wq_then_ret ?_
      refine wq_then_ret ?_
      refine wq_blk_ret ?_
      refine wq_then_ret ?_
      refine hret rfl ?_
      refine ⟨i, rfl, ⟨fun _ => ?_, fun _ => by omega⟩, E2⟩
      rw [List.any_eq_true]
      exact ⟨x, List.mem_of_getElem? hx, hc2⟩
    · skip
      refine wc_skip ?_
      refine wq_blk_norm ?_
      refine wq_then_norm (hK6 ?_)
      refine wc_region ?_
      refine wl_y (y_add rfl rfl (i64_ok (by omega) (by omega))) rfl ?_
      refine wl_y (y_move rfl) rfl ?_
      refine wl_nil ?_
      refine wq_then_norm ?_
      refine hL1 _ _ ⟨i + 1, rfl, rfl, by omega, E2, by rw [htk, List.any_append, hno]; simpa using hc2⟩ (by omega) ⟨rfl, rfl, (by first | rfl | exact congrArg some (int_val (by omega))), (by first | rfl | exact congrArg some (int_val (by omega))), trivial⟩
  · skip
    refine wc_exit ?_
    refine wq_then_exit ?_
    refine wq_then_exit ?_
    refine wq_blk_hit ?_
    refine wq_then_norm (hK2 ?_)
    refine wc_seq ?_; intro K10 hK10
    refine wc_region ?_
    refine wl_y (y_assign rfl) rfl ?_
    refine wl_nil ?_
    refine wq_then_norm (hK10 ?_)
    refine wc_ret ?_
    refine hret rfl ?_
    refine ⟨-1, rfl, ⟨fun h => absurd h (by omega), fun h => ?_⟩, E⟩
    rw [List.take_of_length_le (by omega)] at hno
    rw [hno] at h
    cases h
theorem contBoxed_any (A : Option Addr) (n c : Nat) (xs : List Bxd) (f : FuncId) (us : List Value) (p : Bxd → Bool) (fn : Func) (b : Code) (w : World) (HA : Els BxdAt 2 w A n xs) (hn : n ≤ 1000000) (hf : Tryz.prog.funcs[f]? = some fn) (hb : fn.body = some b) (hnm : (fn.name == "runtime.NumGoroutine") = false)
    (hp : ∀ x ∈ xs, ∀ (cs : Array Value) (w1 : World), Ext w w1 → BxdAt w1 cs x → Calls Tryz.prog f ([Value.agg cs] ++ us).toArray w1 fun e w' => e = .returned (.bool (p x)) ∧ Ext w1 w') :
    Calls Tryz.prog 126 #[.slice A n c, .func (.func f) #[] us.toArray] w fun e w' => e = .returned (.bool (xs.any p)) ∧ Ext w w' := by
  refine vc_enter1 9 Tryz.func126 rfl rfl rfl rfl ?_
  intro Q hret
  refine wc_seq ?_; intro K1 hK1
  refine wc_region ?_
  refine wl_y (y_assign rfl) rfl ?_
  refine wl_nil ?_
  refine wq_then_norm (hK1 ?_)
  refine wc_seq ?_; intro K2 hK2
  refine wc_region ?_
  refine wl_y (y_move rfl) rfl ?_
  refine wl_y (y_move rfl) rfl ?_
  refine wl_call Tryz.func144 rfl rfl rfl (idxBoxed_any A n c xs f us p fn b _ HA hn hf hb hnm hp) rfl ?_
  rintro e w2 ⟨z, rfl, hz, ex⟩
  refine ⟨_, rfl, ?_⟩
  skip
  refine wl_y (y_geq rfl rfl) rfl ?_
  refine wl_y (y_assign rfl) rfl ?_
  refine wl_nil ?_
  refine wq_then_norm (hK2 ?_)
  refine wc_ret ?_
  refine hret rfl ?_
  exact ⟨(ret_bool_of hz.symm).symm, ex⟩
section
variable {cs : Array Value} {x : Item20} {s : Stp} {b : Bxd} {y : Way20} {c : Com20}
theorem rightItem_any (w : World) (H : ItemAt w cs x) (hf : x.Fit) :
    Calls Tryz.prog 94 #[.agg cs] w fun e w' => e = .returned (.bool (decide (okItem x))) ∧ Ext w w' := by
  have hfp := hf.2
  obtain ⟨r, i, h0, h1, h2, q, h4, h5, g, l0, l1, l2, t, l4, l5, rfl, hr, HP⟩ := H
  have hl := hr.1
  have E := Ext.refl w
  refine vc_enter1 19 Tryz.func94 rfl rfl rfl rfl ?_
  intro Q hret
  refine wc_seq ?_; intro K1 hK1
  refine wc_region ?_
  refine wl_ef (ef_box rfl rfl) rfl ?_
  rintro _ wB1 ⟨gB1, rfl, B1, hgB1, ex⟩
  have lB1 := B1.lt; have zB1 := ex.size
  replace E := E.ext ex
  refine wl_y (y_assign rfl) rfl ?_
  refine wl_nil ?_
  refine wq_then_norm (hK1 ?_)
  refine wc_seq ?_; intro K2 hK2
  refine wc_seq ?_; intro K3 hK3
  refine wc_region ?_
  refine wl_y (y_fieldAddr (o := 0) (s := 1) (off := 0) (o' := 0) rfl Tryz.underlying95 rfl (by kernel_rfl) rfl rfl) rfl ?_
  refine wl_y (y_load1 rfl Tryz.underlying22 rfl (B1.get (i := 0) rfl)) rfl ?_
  refine wl_y (y_len_slice rfl Tryz.underlying22) rfl ?_
  refine wl_y (y_eql rfl rfl) rfl ?_
  refine wl_nil ?_
  refine wq_then_norm (hK3 ?_)
  refine wc_dec rfl (fun hc1 => ?_) (fun hc1 => ?_)
  · skip
    refine wc_seq ?_; intro K4 hK4
    refine wc_region ?_
    refine wl_y (y_fieldAddr (o := 1) (s := 16) (off := 0) (o' := 1) rfl Tryz.underlying95 rfl (by kernel_rfl) rfl rfl) rfl ?_
    refine wl_y (y_loadx (o := 1) (s := 16) rfl Tryz.underlying32 rfl (by kernel_rfl) B1 rfl) rfl ?_
    refine wl_call Tryz.func37 rfl rfl rfl (rightProp_any _ (HP.ext E) hfp) rfl ?_
    rintro e w2 ⟨rfl, ex⟩
    refine ⟨_, rfl, ?_⟩
    replace E := E.ext ex
    replace B1 := B1.ext ex
    skip
    refine wl_y (y_assign rfl) rfl ?_
    refine wl_nil ?_
    refine wq_then_norm (hK4 ?_)
    refine wc_ret ?_
    refine wq_then_ret ?_
    refine hret rfl ?_
    exact ⟨ret_bool ⟨fun h => .inr ⟨by omega, h⟩, fun h => h.elim (fun h => by omega) (fun h => h.2)⟩, E⟩
  · skip
    refine wc_skip ?_
    refine wq_then_norm (hK2 ?_)
    refine wc_seq ?_; intro K5 hK5
    refine wc_region ?_
    refine wl_y (y_fieldAddr (o := 0) (s := 1) (off := 0) (o' := 0) rfl Tryz.underlying95 rfl (by kernel_rfl) rfl rfl) rfl ?_
    refine wl_y (y_load1 rfl Tryz.underlying22 rfl (B1.get (i := 0) rfl)) rfl ?_
    refine wl_y (y_len_slice rfl Tryz.underlying22) rfl ?_
    refine wl_yask (y_eql rfl rfl) rfl (fun q1 => ?_) (fun q1 => ?_)
    · skip
      refine wl_y (y_move rfl) rfl ?_
      refine wl_gy 14 rfl rfl (y_fieldAddr (o := 1) (s := 16) (off := 0) (o' := 1) rfl Tryz.underlying95 rfl (by kernel_rfl) rfl rfl) rfl ?_
      refine wl_gy 14 rfl rfl (y_loadx (o := 1) (s := 16) rfl Tryz.underlying32 rfl (by kernel_rfl) B1 rfl) rfl ?_
      refine wl_gcall 14 rfl rfl Tryz.func105 rfl rfl rfl (noProp_any _ (HP.ext E) hfp) rfl ?_
      rintro e w2 ⟨rfl, ex⟩
      refine ⟨_, rfl, ?_⟩
      replace E := E.ext ex
      replace B1 := B1.ext ex
      skip
      refine wl_y (y_pickt rfl rfl) rfl ?_
      refine wl_y (y_assign rfl) rfl ?_
      refine wl_nil ?_
      refine wq_then_norm (hK5 ?_)
      refine wc_ret ?_
      refine hret rfl ?_
      exact ⟨ret_bool ⟨fun h => .inl ⟨by omega, h⟩, fun h => h.elim (fun h => h.2) (fun h => by omega)⟩, E⟩
    · skip
      refine wl_y (y_move rfl) rfl ?_
      refine wl_gno 14 rfl rfl rfl rfl ?_
      refine wl_gno 14 rfl rfl rfl rfl ?_
      refine wl_gno 14 rfl rfl rfl rfl ?_
      refine wl_y (y_pickf rfl rfl) rfl ?_
      refine wl_y (y_assign rfl) rfl ?_
      refine wl_nil ?_
      refine wq_then_norm (hK5 ?_)
      refine wc_ret ?_
      refine hret rfl ?_
      exact ⟨ret_no fun h => by rcases h with h | h <;> omega, E⟩
theorem badItem_any (w : World) (H : ItemAt w cs x) (hf : x.Fit) :
    Calls Tryz.prog 93 #[.agg cs] w fun e w' => e = .returned (.bool (!decide (okItem x))) ∧ Ext w w' := by
  have HP := H
  obtain ⟨r, i, h0, h1, h2, q, h4, h5, g, l0, l1, l2, t, l4, l5, rfl, _⟩ := H
  have E := Ext.refl w
  refine vc_enter1 6 Tryz.func93 rfl rfl rfl rfl ?_
  intro Q hret
  refine wc_seq ?_; intro K1 hK1
  refine wc_region ?_
  refine wl_ef (ef_box rfl rfl) rfl ?_
  rintro _ wB1 ⟨gB1, rfl, B1, hgB1, ex⟩
  have lB1 := B1.lt; have zB1 := ex.size
  replace E := E.ext ex
  refine wl_y (y_assign rfl) rfl ?_
  refine wl_nil ?_
  refine wq_then_norm (hK1 ?_)
  refine wc_seq ?_; intro K2 hK2
  refine wc_region ?_
  refine wl_y (y_loadx (o := 0) (s := 17) rfl Tryz.underlying95 rfl (by kernel_rfl) B1 rfl) rfl ?_
  refine wl_call Tryz.func94 rfl rfl rfl (rightItem_any _ (HP.ext E) hf) rfl ?_
  rintro e w2 ⟨rfl, ex⟩
  refine ⟨_, rfl, ?_⟩
  replace E := E.ext ex
  replace B1 := B1.ext ex
  skip
  refine wl_y (y_not rfl) rfl ?_
  refine wl_y (y_assign rfl) rfl ?_
  refine wl_nil ?_
  refine wq_then_norm (hK2 ?_)
  refine wc_ret ?_
  refine hret rfl ?_
  exact ⟨rfl, E⟩
theorem badBoxed_any (w : World) (H : BxdAt w cs b) :
    Calls Tryz.prog 125 #[.agg cs] w fun e w' => e = .returned (.bool (!decide (okBxd b))) ∧ Ext w w' := by
  obtain ⟨h0, h1, rfl, a0, a1⟩ := H
  have l0 := a0.1; have l1 := a1.1
  have E := Ext.refl w
  refine vc_enter1 13 Tryz.func125 rfl rfl rfl rfl ?_
  intro Q hret
  refine wc_seq ?_; intro K1 hK1
  refine wc_region ?_
  refine wl_ef (ef_box rfl rfl) rfl ?_
  rintro _ wB1 ⟨gB1, rfl, B1, hgB1, ex⟩
  have lB1 := B1.lt; have zB1 := ex.size
  replace E := E.ext ex
  refine wl_y (y_assign rfl) rfl ?_
  refine wl_nil ?_
  refine wq_then_norm (hK1 ?_)
  refine wc_seq ?_; intro K2 hK2
  refine wc_region ?_
  refine wl_y (y_fieldAddr (o := 0) (s := 1) (off := 0) (o' := 0) rfl Tryz.underlying100 rfl (by kernel_rfl) rfl rfl) rfl ?_
  refine wl_y (y_load1 rfl Tryz.underlying22 rfl (B1.get (i := 0) rfl)) rfl ?_
  refine wl_y (y_len_slice rfl Tryz.underlying22) rfl ?_
  refine wl_yask (y_neq rfl rfl) rfl (fun q0 => ?_) (fun q0 => ?_)
  · skip
    refine wl_y (y_move rfl) rfl ?_
    refine wl_gno 7 rfl rfl rfl rfl ?_
    refine wl_gno 7 rfl rfl rfl rfl ?_
    refine wl_gno 7 rfl rfl rfl rfl ?_
    refine wl_gno 7 rfl rfl rfl rfl ?_
    refine wl_y (y_pickt rfl rfl) rfl ?_
    refine wl_y (y_assign rfl) rfl ?_
    refine wl_nil ?_
    refine wq_then_norm (hK2 ?_)
    refine wc_ret ?_
    refine hret rfl ?_
    exact ⟨by rw [decide_eq_false (fun h : okBxd b => by have := h.1; omega)]; rfl, E⟩
  · skip
    refine wl_y (y_move rfl) rfl ?_
    refine wl_gy 7 rfl rfl (y_fieldAddr (o := 1) (s := 1) (off := 0) (o' := 1) rfl Tryz.underlying100 rfl (by kernel_rfl) rfl rfl) rfl ?_
    refine wl_gy 7 rfl rfl (y_load1 rfl Tryz.underlying22 rfl (B1.get (i := 1) rfl)) rfl ?_
    refine wl_gy 7 rfl rfl (y_len_slice rfl Tryz.underlying22) rfl ?_
    refine wl_gy 7 rfl rfl (y_neq rfl rfl) rfl ?_
    refine wl_y (y_pickf rfl rfl) rfl ?_
    refine wl_y (y_assign rfl) rfl ?_
    refine wl_nil ?_
    refine wq_then_norm (hK2 ?_)
    refine wc_ret ?_
    refine hret rfl ?_
    exact ⟨(ret_bool_of (by rw [Bool.not_eq_true', decide_eq_false_iff_not]; exact ⟨fun h e => h ⟨by omega, by omega⟩, fun h e => by have := e.2; omega⟩)).symm, E⟩
theorem any_not {α : Type} {p : α → Prop} [DecidablePred p] (l : List α) : (l.any fun b => !decide (p b)) = true ↔ ¬ ∀ b ∈ l, p b := by
  rw [List.any_eq_true]
  constructor
  · rintro ⟨b, hb, h⟩ k
    rw [decide_eq_true (k b hb)] at h
    cases h
  · intro h
    exact Classical.byContradiction fun k => h fun b hb => Classical.byContradiction fun e => k ⟨b, hb, by rw [decide_eq_false e]; rfl⟩
theorem badStep_any (w : World) (H : StpAt w cs s) (hf : s.Fit) :
    Calls Tryz.prog 124 #[.agg cs] w fun e w' => e = .returned (.bool (!decide (okStp s))) ∧ Ext w w' := by
  obtain ⟨h0, h1, rfl, a0, a1⟩ := H
  have l0 := a0.1; have l2 := a1.1; have l3 := hf.2.1
  have E := Ext.refl w
  refine vc_enter1 14 Tryz.func124 rfl rfl rfl rfl ?_
  intro Q hret
  refine wc_seq ?_; intro K1 hK1
  refine wc_region ?_
  refine wl_ef (ef_box rfl rfl) rfl ?_
  rintro _ wB1 ⟨gB1, rfl, B1, hgB1, ex⟩
  have lB1 := B1.lt; have zB1 := ex.size
  replace E := E.ext ex
  refine wl_y (y_assign rfl) rfl ?_
  refine wl_nil ?_
  refine wq_then_norm (hK1 ?_)
  refine wc_seq ?_; intro K2 hK2
  refine wc_region ?_
  refine wl_y (y_assign rfl) rfl ?_
  refine wl_nil ?_
  refine wq_then_norm (hK2 ?_)
  refine wc_seq ?_; intro K3 hK3
  refine wc_region ?_
  refine wl_y (y_fieldAddr (o := 0) (s := 1) (off := 0) (o' := 0) rfl Tryz.underlying98 rfl (by kernel_rfl) rfl rfl) rfl ?_
  refine wl_y (y_load1 rfl Tryz.underlying22 rfl (B1.get (i := 0) rfl)) rfl ?_
  refine wl_y (y_len_slice rfl Tryz.underlying22) rfl ?_
  refine wl_y (y_neq rfl rfl) rfl ?_
  refine wl_yask (y_move rfl) rfl (fun q0 => ?_) (fun q0 => ?_)
  · skip
    refine wl_gno 8 rfl rfl rfl rfl ?_
    refine wl_gno 8 rfl rfl rfl rfl ?_
    refine wl_gno 8 rfl rfl rfl rfl ?_
    refine wl_gno 8 rfl rfl rfl rfl ?_
    refine wl_y (y_pickt rfl rfl) rfl ?_
    refine wl_y (y_assign rfl) rfl ?_
    refine wl_nil ?_
    refine wq_then_norm (hK3 ?_)
    refine wc_ret ?_
    refine hret rfl ?_
    exact ⟨by rw [decide_eq_false (fun h : okStp s => by have := h.1; omega)]; rfl, E⟩
  · skip
    refine wl_gy 8 rfl rfl (y_fieldAddr (o := 1) (s := 1) (off := 0) (o' := 1) rfl Tryz.underlying98 rfl (by kernel_rfl) rfl rfl) rfl ?_
    refine wl_gy 8 rfl rfl (y_load1 rfl Tryz.underlying96 rfl (B1.get (i := 1) rfl)) rfl ?_
    refine wl_gy 8 rfl rfl (y_move rfl) rfl ?_
    refine wl_gcall 8 rfl rfl Tryz.func126 rfl rfl rfl (contBoxed_any h1.A h1.n h1.c s.to 125 [] (fun b => !decide (okBxd b)) _ _ _ (a1.ext E fun _ _ h => BxdAt.ext h E) (by omega) Tryz.func125 rfl rfl (fun b _ cs w1 _ hb => badBoxed_any w1 hb)) rfl ?_
    rintro e w2 ⟨rfl, ex⟩
    refine ⟨_, rfl, ?_⟩
    replace E := E.ext ex
    replace B1 := B1.ext ex
    skip
    refine wl_y (y_pickf rfl rfl) rfl ?_
    refine wl_y (y_assign rfl) rfl ?_
    refine wl_nil ?_
    refine wq_then_norm (hK3 ?_)
    refine wc_ret ?_
    refine hret rfl ?_
    have q : (s.to.any fun b => !decide (okBxd b)) = !decide (okStp s) := by
      rw [Bool.eq_iff_iff, any_not, Bool.not_eq_true', decide_eq_false_iff_not]
      exact ⟨fun h e => h e.2, fun h e => h ⟨by omega, e⟩⟩
    exact ⟨by rw [q], E⟩
theorem rightWay_any (w : World) (H : WayAt w cs y) (hf : y.Fit) :
    Calls Tryz.prog 95 #[.agg cs] w fun e w' => e = .returned (.bool (decide (okWay y))) ∧ Ext w w' := by
  obtain ⟨h0, h1, h2, q, h4, h5, t, rfl, HL, a1⟩ := H
  have l2 := a1.1; have l3 := hf.2.1
  have E := Ext.refl w
  refine vc_enter1 17 Tryz.func95 rfl rfl rfl rfl ?_
  intro Q hret
  refine wc_seq ?_; intro K1 hK1
  refine wc_region ?_
  refine wl_ef (ef_box rfl rfl) rfl ?_
  rintro _ wB1 ⟨gB1, rfl, B1, hgB1, ex⟩
  have lB1 := B1.lt; have zB1 := ex.size
  replace E := E.ext ex
  refine wl_y (y_assign rfl) rfl ?_
  refine wl_nil ?_
  refine wq_then_norm (hK1 ?_)
  refine wc_seq ?_; intro K2 hK2
  refine wc_seq ?_; intro K3 hK3
  refine wc_region ?_
  refine wl_y (y_fieldAddr (o := 0) (s := 6) (off := 0) (o' := 0) rfl Tryz.underlying38 rfl (by kernel_rfl) rfl rfl) rfl ?_
  refine wl_y (y_loadx (o := 0) (s := 6) rfl Tryz.underlying25 rfl (by kernel_rfl) B1 rfl) rfl ?_
  refine wl_call Tryz.func82 rfl rfl rfl (rightLeaf20_any (s := 3) _ (HL.ext E) hf.1) rfl ?_
  rintro e w2 ⟨rfl, ex⟩
  refine ⟨_, rfl, ?_⟩
  replace E := E.ext ex
  replace B1 := B1.ext ex
  skip
  refine wl_y (y_not rfl) rfl ?_
  refine wl_yaskb (y_move rfl) rfl (fun q0 => ?_) (fun q0 => ?_)
  · skip
    refine wl_gno 7 rfl rfl rfl rfl ?_
    refine wl_gno 7 rfl rfl rfl rfl ?_
    refine wl_gno 7 rfl rfl rfl rfl ?_
    refine wl_gno 7 rfl rfl rfl rfl ?_
    refine wl_y (y_pickt rfl rfl) rfl ?_
    refine wl_nil ?_
    refine wq_then_norm (hK3 ?_)
    refine wc_true rfl rfl ?_
    refine wc_seq ?_; intro K4 hK4
    refine wc_region ?_
    refine wl_y (y_assign rfl) rfl ?_
    refine wl_nil ?_
    refine wq_then_norm (hK4 ?_)
    refine wc_ret ?_
    refine wq_then_ret ?_
    refine hret rfl ?_
    exact ⟨ret_no fun h => (by rw [decide_eq_true h.1] at q0; cases q0), E⟩
  · skip
    refine wl_gy 7 rfl rfl (y_fieldAddr (o := 6) (s := 1) (off := 0) (o' := 6) rfl Tryz.underlying38 rfl (by kernel_rfl) rfl rfl) rfl ?_
    refine wl_gy 7 rfl rfl (y_load1 rfl Tryz.underlying36 rfl (B1.get (i := 6) rfl)) rfl ?_
    refine wl_gy 7 rfl rfl (y_len_slice rfl Tryz.underlying36) rfl ?_
    refine wl_gy 7 rfl rfl (y_gtr rfl rfl) rfl ?_
    refine wl_y (y_pickf rfl rfl) rfl ?_
    refine wl_nil ?_
    refine wq_then_norm (hK3 ?_)
    refine wc_dec rfl (fun hc1 => ?_) (fun hc1 => ?_)
    · skip
      refine wc_seq ?_; intro K5 hK5
      refine wc_region ?_
      refine wl_y (y_assign rfl) rfl ?_
      refine wl_nil ?_
      refine wq_then_norm (hK5 ?_)
      refine wc_ret ?_
      refine wq_then_ret ?_
      refine hret rfl ?_
      exact ⟨ret_no fun h => by have := h.2.1; omega, E⟩
    · skip
      refine wc_skip ?_
      refine wq_then_norm (hK2 ?_)
      refine wc_seq ?_; intro K6 hK6
      have ql : okLeafS y.leaf 3 := by simpa using q0
      refine wc_region ?_
      refine wl_y (y_fieldAddr (o := 6) (s := 1) (off := 0) (o' := 6) rfl Tryz.underlying38 rfl (by kernel_rfl) rfl rfl) rfl ?_
      refine wl_y (y_load1 rfl Tryz.underlying36 rfl (B1.get (i := 6) rfl)) rfl ?_
      refine wl_call Tryz.func123 rfl rfl rfl (contStep_any t.A t.n t.c y.steps 124 [] (fun b => !decide (okStp b)) _ _ _ (a1.ext E fun _ _ h => StpAt.ext h E) (by omega) Tryz.func124 rfl rfl (fun b hm cs w1 _ hb => badStep_any w1 hb (hf.2.2 b hm))) rfl ?_
      rintro e w2 ⟨rfl, ex⟩
      refine ⟨_, rfl, ?_⟩
      replace E := E.ext ex
      replace B1 := B1.ext ex
      skip
      refine wl_y (y_not rfl) rfl ?_
      refine wl_y (y_assign rfl) rfl ?_
      refine wl_nil ?_
      refine wq_then_norm (hK6 ?_)
      refine wc_ret ?_
      refine hret rfl ?_
      exact ⟨ret_bool_of (by
        rw [Bool.not_eq_true', ← Bool.not_eq_true, any_not, Classical.not_not]
        exact ⟨fun h => ⟨ql, by omega, h⟩, fun h => h.2.2⟩), E⟩
theorem rightCommit_any (w : World) (H : ComAt w cs c) (hf : c.Fit) :
    Calls Tryz.prog 41 #[.agg cs] w fun e w' => e = .returned (.bool (decide (okCom c))) ∧ Ext w w' := by
  obtain ⟨it, h0, h1, h2, q, h4, h5, t, rfl, a1, HW⟩ := H
  have HL : LeafAt w (leafV h0 h1 h2 q h4 h5) c.way.leaf ∧ Els StpAt 2 w t.A t.n c.way.steps := by
    obtain ⟨i0, i1, i2, q', i4, i5, t', e, HL, a2⟩ := HW
    have e' := congrArg Array.toList e
    simp only [wayV, List.cons.injEq, and_true] at e'
    obtain ⟨e0, e1, e2, e3, e4, e5, e6⟩ := e'
    have g0 := hd_eq e0; have g1 := hd_eq e1; have g2 := hd_eq e2; have g4 := hd_eq e4; have g5 := hd_eq e5; have g6 := hd_eq e6
    injection e3 with _ e3
    have e3 : q = q' := by omega
    subst g0; subst g1; subst g2; subst g4; subst g5; subst g6; subst e3
    exact ⟨HL, a2⟩
  have l2 := a1.1; have l3 := hf.1; have l4 := HL.2.1
  have E := Ext.refl w
  refine vc_enter1 29 Tryz.func41 rfl rfl rfl rfl ?_
  intro Q hret
  refine wc_seq ?_; intro K1 hK1
  refine wc_region ?_
  refine wl_ef (ef_box rfl rfl) rfl ?_
  rintro _ wB1 ⟨gB1, rfl, B1, hgB1, ex⟩
  have lB1 := B1.lt; have zB1 := ex.size
  replace E := E.ext ex
  refine wl_y (y_assign rfl) rfl ?_
  refine wl_nil ?_
  refine wq_then_norm (hK1 ?_)
  refine wc_seq ?_; intro K2 hK2
  refine wc_seq ?_; intro K3 hK3
  refine wc_region ?_
  refine wl_y (y_fieldAddr (o := 0) (s := 1) (off := 0) (o' := 0) rfl Tryz.underlying40 rfl (by kernel_rfl) rfl rfl) rfl ?_
  refine wl_y (y_load1 rfl Tryz.underlying35 rfl (B1.get (i := 0) rfl)) rfl ?_
  refine wl_y (y_len_slice rfl Tryz.underlying35) rfl ?_
  refine wl_y (y_gtr rfl rfl) rfl ?_
  refine wl_yask (y_move rfl) rfl (fun q0 => ?_) (fun q0 => ?_)
  · skip
    refine wl_gno 7 rfl rfl rfl rfl ?_
    refine wl_gno 7 rfl rfl rfl rfl ?_
    refine wl_gno 7 rfl rfl rfl rfl ?_
    refine wl_y (y_pickt rfl rfl) rfl ?_
    refine wl_nil ?_
    refine wq_then_norm (hK3 ?_)
    refine wc_true rfl rfl ?_
    refine wc_seq ?_; intro K4 hK4
    refine wc_region ?_
    refine wl_y (y_assign rfl) rfl ?_
    refine wl_nil ?_
    refine wq_then_norm (hK4 ?_)
    refine wc_ret ?_
    refine wq_then_ret ?_
    refine hret rfl ?_
    exact ⟨ret_no fun h => by have := h.1; omega, E⟩
  · skip
    refine wl_gy 7 rfl rfl (y_fieldAddr (o := 0) (s := 1) (off := 0) (o' := 0) rfl Tryz.underlying40 rfl (by kernel_rfl) rfl rfl) rfl ?_
    refine wl_gy 7 rfl rfl (y_load1 rfl Tryz.underlying35 rfl (B1.get (i := 0) rfl)) rfl ?_
    refine wl_gcall 7 rfl rfl Tryz.func92 rfl rfl rfl (contItem_any it.A it.n it.c c.items 93 [] (fun b => !decide (okItem b)) _ _ _ (a1.ext E fun _ _ h => ItemAt.ext h E) (by omega) Tryz.func93 rfl rfl (fun b hm cs w1 _ hb => badItem_any w1 hb (hf.2.1 b hm))) rfl ?_
    rintro e w2 ⟨rfl, ex⟩
    refine ⟨_, rfl, ?_⟩
    replace E := E.ext ex
    replace B1 := B1.ext ex
    skip
    refine wl_y (y_pickf rfl rfl) rfl ?_
    refine wl_nil ?_
    refine wq_then_norm (hK3 ?_)
    refine wc_cond rfl (fun hc1 => ?_) (fun hc1 => ?_)
    · skip
      refine wc_seq ?_; intro K5 hK5
      refine wc_region ?_
      refine wl_y (y_assign rfl) rfl ?_
      refine wl_nil ?_
      refine wq_then_norm (hK5 ?_)
      refine wc_ret ?_
      refine wq_then_ret ?_
      refine hret rfl ?_
      exact ⟨ret_no fun h => (any_not _).1 hc1 h.2.1, E⟩
    · skip
      refine wc_skip ?_
      refine wq_then_norm (hK2 ?_)
      refine wc_seq ?_; intro K6 hK6
      refine wc_seq ?_; intro K7 hK7
      have qi : ∀ x ∈ c.items, okItem x := Classical.not_not.1 fun h => by rw [(any_not _).2 h] at hc1; cases hc1
      refine wc_region ?_
      refine wl_y (y_fieldAddr (o := 1) (s := 1) (off := 0) (o' := 1) rfl Tryz.underlying40 rfl (by kernel_rfl) rfl rfl) rfl ?_
      refine wl_y (y_load1 rfl Tryz.underlying4 rfl (B1.get (i := 1) rfl)) rfl ?_
      refine wl_y (y_not rfl) rfl ?_
      refine wl_nil ?_
      refine wq_then_norm (hK7 ?_)
      refine wc_cond rfl (fun hc2 => ?_) (fun hc2 => ?_)
      · skip
        refine wc_seq ?_; intro K8 hK8
        refine wc_region ?_
        refine wl_y (y_fieldAddr (o := 2) (s := 7) (off := 0) (o' := 2) rfl Tryz.underlying40 rfl (by kernel_rfl) rfl rfl) rfl ?_
        refine wl_y (y_fieldAddr (o := 0) (s := 6) (off := 2) (o' := 2) rfl Tryz.underlying38 rfl (by kernel_rfl) rfl rfl) rfl ?_
        refine wl_y (y_loadx (o := 2) (s := 6) rfl Tryz.underlying25 rfl (by kernel_rfl) B1 rfl) rfl ?_
        refine wl_call Tryz.func84 rfl rfl rfl (noLeaf20_any _ (HL.1.ext E) hf.2.2.1) rfl ?_
        rintro e w3 ⟨rfl, ex⟩
        refine ⟨_, rfl, ?_⟩
        replace E := E.ext ex
        replace B1 := B1.ext ex
        skip
        refine wl_yask (y_move rfl) rfl (fun k0 => ?_) (fun k0 => ?_)
        · skip
          refine wl_gy 19 rfl rfl (y_fieldAddr (o := 2) (s := 7) (off := 0) (o' := 2) rfl Tryz.underlying40 rfl (by kernel_rfl) rfl rfl) rfl ?_
          refine wl_gy 19 rfl rfl (y_fieldAddr (o := 6) (s := 1) (off := 2) (o' := 8) rfl Tryz.underlying38 rfl (by kernel_rfl) rfl rfl) rfl ?_
          refine wl_gy 19 rfl rfl (y_load1 rfl Tryz.underlying36 rfl (B1.get (i := 8) rfl)) rfl ?_
          refine wl_gy 19 rfl rfl (y_len_slice rfl Tryz.underlying36) rfl ?_
          refine wl_gy 19 rfl rfl (y_eql rfl rfl) rfl ?_
          refine wl_y (y_pickt rfl rfl) rfl ?_
          refine wl_y (y_assign rfl) rfl ?_
          refine wl_nil ?_
          refine wq_then_norm (hK8 ?_)
          refine wc_ret ?_
          refine wq_then_ret ?_
          refine hret rfl ?_
          exact ⟨ret_bool ⟨fun h => ⟨by omega, qi, .inr ⟨by simpa using hc2, k0, by omega⟩⟩, fun h => h.2.2.elim (fun h => by rw [h.1] at hc2; cases hc2) (fun h => by have := h.2.2; omega)⟩, E⟩
        · skip
          refine wl_gno 19 rfl rfl rfl rfl ?_
          refine wl_gno 19 rfl rfl rfl rfl ?_
          refine wl_gno 19 rfl rfl rfl rfl ?_
          refine wl_gno 19 rfl rfl rfl rfl ?_
          refine wl_gno 19 rfl rfl rfl rfl ?_
          refine wl_y (y_pickf rfl rfl) rfl ?_
          refine wl_y (y_assign rfl) rfl ?_
          refine wl_nil ?_
          refine wq_then_norm (hK8 ?_)
          refine wc_ret ?_
          refine wq_then_ret ?_
          refine hret rfl ?_
          exact ⟨ret_no fun h => h.2.2.elim (fun h => by rw [h.1] at hc2; cases hc2) (fun h => k0 h.2.1), E⟩
      · skip
        refine wc_skip ?_
        refine wq_then_norm (hK6 ?_)
        refine wc_seq ?_; intro K9 hK9
        refine wc_region ?_
        refine wl_y (y_fieldAddr (o := 2) (s := 7) (off := 0) (o' := 2) rfl Tryz.underlying40 rfl (by kernel_rfl) rfl rfl) rfl ?_
        refine wl_y (y_loadx (o := 2) (s := 7) rfl Tryz.underlying38 rfl (by kernel_rfl) B1 rfl) rfl ?_
        refine wl_call Tryz.func95 rfl rfl rfl (rightWay_any _ (HW.ext E) hf.2.2) rfl ?_
        rintro e w3 ⟨rfl, ex⟩
        refine ⟨_, rfl, ?_⟩
        replace E := E.ext ex
        replace B1 := B1.ext ex
        skip
        refine wl_y (y_assign rfl) rfl ?_
        refine wl_nil ?_
        refine wq_then_norm (hK9 ?_)
        refine wc_ret ?_
        refine hret rfl ?_
        exact ⟨ret_bool ⟨fun h => ⟨by omega, qi, .inl ⟨by simpa using hc2, h⟩⟩, fun h => h.2.2.elim (fun h => h.2) (fun h => by rw [h.1] at hc2; cases hc2)⟩, E⟩
end
end Go.Proofs.YtpgalbgonmclaaaGreat
